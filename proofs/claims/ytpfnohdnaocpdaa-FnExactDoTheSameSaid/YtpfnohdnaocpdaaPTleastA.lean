/- For (impl.Tree).least by hand: rows of int16 by their block, a new finder, the closure; what least computes. -/
import Derived.Test.YtpfnohdnaocpdaaPTx5
import Derived.Test.YtpfnohdnaocpdaaPTx2
import Derived.Test.YtpfnohdnaocpdaaPTonly
import Derived.Test.YtpfnohdnaocpdaaPTfinderF
namespace Go.Proofs.Ytpfnohdnaocpdaa.PT
open Go.RowKit Go.Proofs.YtpfnohdnaocpdaaW.PrintWords Go.Proofs.YtpfnohdnaocpdaaW.PrintLast Go.Proofs.YtpfnohdnaocpdaaW.PrintMore Go.Lib Go.Proofs.YtpfnohdnaocpdaaRP
set_option linter.unusedVariables false
set_option linter.unusedSimpArgs false

/-- A block whose first cells are a row of int16. -/
def B16 (g : Nat) (xs : List Int) (w : World) : Prop := ∃ cur : Array Value, w.heap[g]? = some (.cells cur 85 (0, 0)) ∧ ∀ (j : Nat) (p : Int), xs[j]? = some p → cur[j]? = some (.int .i16 p)
theorem B16.lt {g : Nat} {xs : List Int} {w : World} (h : B16 g xs w) : g < w.heap.size := by
  obtain ⟨cur, hc, _⟩ := h
  exact blk_lt_ hc
theorem B16.keep {g : Nat} {xs : List Int} {w w1 : World} (h : B16 g xs w) (e : w1.heap[g]? = w.heap[g]?) : B16 g xs w1 := by
  obtain ⟨cur, hc, hx⟩ := h
  exact ⟨cur, e.trans hc, hx⟩
theorem B16.below {g : Nat} {xs : List Int} {w w1 : World} (h : B16 g xs w) (hb : Below w.heap.size w w1) : B16 g xs w1 := h.keep (hb.block g h.lt)
theorem B16.ks {g : Nat} {xs : List Int} {w w1 : World} (h : B16 g xs w) {T : List Nat} (hk : Ks T w w1) (hT : 85 ∉ T) : B16 g xs w1 := by
  obtain ⟨cur, hc, hx⟩ := h
  exact ⟨cur, hk.2 _ _ _ _ hc hT, hx⟩
theorem B16.far {g : Nat} {xs : List Int} {w : World} (h : B16 g xs w) {p : Addr} (u : Value) (hne : g ≠ p.block) : B16 g xs (w.setCell p u) := h.keep (Below.heap_setCell w p u g hne)
theorem B16.ne {g : Nat} {xs : List Int} {w : World} (h : B16 g xs w) {k : Nat} {c : Array Value} {q : Nat} {fz : Nat × Nat} (hk : w.heap[k]? = some (.cells c q fz)) (hq : q ≠ 85) : g ≠ k := fun e => by
  obtain ⟨cur, hc, _⟩ := h
  rw [e, hk] at hc
  injection hc with hc
  injection hc with _ hc
  exact hq hc
theorem B16.at {g : Nat} {xs : List Int} {w : World} (h : B16 g xs w) {i : Nat} (hi : i < xs.length) : w.cell? ⟨g, i, none⟩ = some (.int .i16 (rd xs (i : Int))) := by
  obtain ⟨cur, hc, hx⟩ := h
  rw [blk_cell hc i]
  refine hx i _ ?_
  simp [rd, List.getD, hi]
theorem B16.fz {g : Nat} {xs : List Int} {w : World} (h : B16 g xs w) (i : Nat) : w.frozen? ⟨g, i, none⟩ = false := by
  obtain ⟨cur, hc, _⟩ := h
  exact blk_frozen hc i
theorem B16.put {g : Nat} {xs : List Int} {w : World} (h : B16 g xs w) {i : Nat} (hi : i < xs.length) (v : Int) : B16 g (xs.set i v) (w.setCell ⟨g, i, none⟩ (.int .i16 v)) := by
  obtain ⟨cur, hc, hx⟩ := h
  refine ⟨cur.setIfInBounds i (.int .i16 v), blk_put hc i _ rfl, fun j p hj => ?_⟩
  have hs : i < cur.size := by
    have := hx i _ (List.getElem?_eq_getElem hi)
    exact (Array.getElem?_eq_some_iff.1 this).1
  rw [Array.getElem?_setIfInBounds]
  by_cases c : i = j
  · subst c
    rw [List.getElem?_set_self hi] at hj
    injection hj with hj
    rw [if_pos rfl, if_pos hs, hj]
  · rw [List.getElem?_set_ne c] at hj
    rw [if_neg c]
    exact hx j p hj
theorem B16.C {g : Nat} {xs : List Int} {w : World} (h : B16 g xs w) (hl : xs.length ≤ 9223372036854775807) : Kd.C (Kd.int .i16) w (some ⟨g, 0, none⟩) xs.length xs := by
  refine ⟨rfl, by omega, fun _ => ⟨_, rfl, fun j p hj => ⟨[.int .i16 p], rfl, rfl, fun q u hu => ?_⟩⟩⟩
  match q with
  | 0 =>
    obtain rfl : (Value.int .i16 p) = u := by simpa using hu
    obtain ⟨cur, hc, hx⟩ := h
    rw [show j * (Kd.int .i16).sz + 0 = j from Nat.mul_one j, add_plain]
    exact (blk_cell hc j).trans (hx j p hj)
  | q + 1 => simp at hu
theorem B16.of_R {g n c b : Nat} {ok : Nat → Prop} {xs : List Int} {w : World} (h : Kd.R (Kd.int .i16) 85 w b ok (.slice (some ⟨g, 0, none⟩) n c) xs) : B16 g xs w := by
  obtain ⟨hn, _, hC⟩ := Kd.R_reads' h
  obtain ⟨cur, hc⟩ := Kd.R_typed h g (by simp [Value.ownBlock])
  refine ⟨cur, hc, fun j p hj => ?_⟩
  have hj' := (List.getElem?_eq_some_iff.1 hj).1
  obtain ⟨ad, e, hx⟩ := Kd.at_int hC (j : Int) (by omega) (by omega)
  injection e with e
  subst e
  rw [Int.toNat_natCast, add_plain, blk_cell hc j] at hx
  rw [hx]
  have : rd xs (j : Int) = p := by
    rw [List.getElem?_eq_getElem hj'] at hj
    injection hj with hj
    simp [rd, List.getD, hj', hj]
  rw [this]
/-- A row of nodes whose block is as it was. -/
theorem C_same {w w1 : World} {g o : Nat} {n : Nat} {xs : List S89} (h : Kd.C k89 w (some ⟨g, o, none⟩) n xs) (e : w1.heap[g]? = w.heap[g]?) : Kd.C k89 w1 (some ⟨g, o, none⟩) n xs := by
  obtain ⟨h1, h2, h3⟩ := h
  refine ⟨h1, h2, fun h => ?_⟩
  obtain ⟨ad, ea, hr⟩ := h3 h
  injection ea with ea
  subst ea
  refine ⟨_, rfl, fun j p hj => ?_⟩
  obtain ⟨cs, q1, q2, q3⟩ := hr j p hj
  obtain rfl := k89_open q2
  refine ⟨_, q1, k89_mk w1 p, fun q u hu => ?_⟩
  rw [← q3 q u hu]
  refine World.cell?_of_block ?_
  have hb : ((⟨g, o, none⟩ : Addr).add (j * k89.sz + q)).block = g := by
    unfold Addr.add
    split <;> rfl
  rw [hb]
  exact e
/-! ### the finder -/
theorem FS.avoid2 {b0 gc bm : Nat} {av : List Nat} {xs : List S89} {w w1 : World} (h : FS b0 gc bm av xs w) (hb : Below w.heap.size w w1) {k : Nat} (h0 : w.heap.size ≤ k) (h1 : k < w1.heap.size) : FS b0 gc bm (k :: av) xs w1 := by
  have hl := h.lt
  obtain ⟨gl, ml, al, ⟨v, hv, hR⟩, D, hF, hO⟩ := h
  refine ⟨gl, ml, fun j hj => ?_, ⟨v, (hb.block gc hl.1).trans hv, ?_⟩, D, hF, own_move_ hO (hb.block bm hl.2)⟩
  · rcases List.mem_cons.1 hj with rfl | hj
    · exact ⟨h1, by omega, by omega⟩
    · exact ⟨Nat.lt_of_lt_of_le (al j hj).1 hb.size, (al j hj).2⟩
  · refine Kd.R_mono (Kd.R_move (Kd.R_bound hR) (fun j hj => hb.block j hj.2.2.1)) (fun j hj => ?_)
    intro hm
    rcases List.mem_cons.1 hm with rfl | hm
    · have := hj.2.2.1
      omega
    · exact hj.1 hm
theorem FS.less {b0 gc bm k : Nat} {av : List Nat} {xs : List S89} {w : World} (h : FS b0 gc bm (k :: av) xs w) : FS b0 gc bm av xs w := by
  obtain ⟨gl, ml, al, ⟨v, hv, hR⟩, D, hF, hO⟩ := h
  exact ⟨gl, ml, fun j hj => al j (List.mem_cons_of_mem _ hj), ⟨v, hv, Kd.R_mono hR (fun j hj hm => hj (List.mem_cons_of_mem _ hm))⟩, D, hF, hO⟩
theorem FS.empty {b0 gc bm : Nat} {av : List Nat} {w : World} (gl : b0 ≤ gc) (ml : b0 ≤ bm) (al : ∀ k, k ∈ av → k < w.heap.size ∧ k ≠ gc ∧ k ≠ bm) (hv : w.heap[gc]? = some (.cells #[.slice none 0 0, .map (some bm)] 177 (0, 0))) (hO : w.ownsMap Try.prog 89 (plainElem (H := Nat) Try.prog 85) bm 0 (.map [])) : FS b0 gc bm av [] w :=
  ⟨gl, ml, al, ⟨_, hv, Kd.R_nil _ _ _ _ _⟩, _, Fnd.none, own_exact_ hO⟩
theorem FS.setAv {b0 gc bm : Nat} {av : List Nat} {xs : List S89} {w : World} (h : FS b0 gc bm av xs w) {p : Addr} (hp : p.block ∈ av) (u : Value) : FS b0 gc bm av xs (w.setCell p u) :=
  h.grown (grown_set w p u) (fun k e => by cases e; exact .inl hp)
theorem FS.count {b0 gc bm : Nat} {av : List Nat} {xs : List S89} {w : World} (h : FS b0 gc bm av xs w) : ∃ (A : Option Addr) (c : Nat), w.heap[gc]? = some (.cells #[.slice A xs.length c, .map (some bm)] 177 (0, 0)) := by
  obtain ⟨v, hv, hR⟩ := h.row
  obtain ⟨A, c, rfl⟩ := Kd.R_slice hR
  exact ⟨A, c, hv⟩
/-- The closure of least: where a node's class stands first, in the list. -/
theorem clo127 (ga gb ca cb cl ll : Nat) (A : Option Addr) (q xs : List Int) (v : Int) (hq : q.length ≤ 1000) (hx : xs.length ≤ 1000) (v0 : 0 ≤ v) (v1 : v < q.length) (w : World) (hr : B16 ga q w) (hc : q.length ≤ ca) (hr' : Kd.C (Kd.int .i16) w A xs.length xs) (hc' : xs.length ≤ cb)
    (hb : w.heap[cl]? = some (.cells #[.slice (some ⟨ga, 0, none⟩) q.length ca] 139 (0, 0))) (hb' : w.heap[ll]? = some (.cells #[.slice A xs.length cb] 139 (0, 0))) :
    Calls Try.prog 127 #[.int .i16 v, .pointer (some ⟨cl, 0, none⟩), .pointer (some ⟨ll, 0, none⟩)] w fun e w' => e = .returned (.int .i16 (ixI xs (ixI q (rd q v)))) ∧ Below w.heap.size w w' := by
  have HC1 := Aside0.mk (hr.C (by omega))
  have HC2 := Aside0.mk hr'
  have HQ := Aside0.mk hq
  have HX := Aside0.mk hx
  have HA := Aside0.mk hc
  have HB := Aside0.mk hc'
  have hin := ixI_in q (rd q v)
  have hin' := ixI_in xs (ixI q (rd q v))
  have HW := Aside0.mk (show IntKind.i16.wrap (ixI q (rd q v)) = ixI q (rd q v) from IntWalk.i16_in _ (by omega))
  have HW' := Aside0.mk (show IntKind.i16.wrap (ixI xs (ixI q (rd q v))) = ixI xs (ixI q (rd q v)) from IntWalk.i16_in _ (by omega))
  have hk : w.cell? ⟨cl, 0, none⟩ = some (.slice (some ⟨ga, 0, none⟩) q.length ca) := (blk_cell hb 0).trans rfl
  have hk' : w.cell? ⟨ll, 0, none⟩ = some (.slice A xs.length cb) := (blk_cell hb' 0).trans rfl
  obtain ⟨m, rfl⟩ : ∃ m : Nat, v = (m : Int) := ⟨v.toNat, by omega⟩
  have hx0 := hr.at (i := m) (by omega)
  have t0 := eq_true v0
  have t1 := eq_true v1
  have d0 := decide_eq_true v0
  have d1 := decide_eq_true v1
  have HI : Aside0 (∀ W, Kd.C (Kd.int .i16) W (some ⟨ga, 0, none⟩) q.length q → Calls Try.prog 99 #[.slice (some ⟨ga, 0, none⟩) q.length ca, .int .i16 (rd q (m : Int))] W fun e w' => e = .returned (.int .i64 (ixI q (rd q (m : Int)))) ∧ Drawn0 W w') := ⟨fun W h => index_calls _ ca q _ hq W h hc⟩
  have HJ : Aside0 (∀ W, Kd.C (Kd.int .i16) W A xs.length xs → Calls Try.prog 99 #[.slice A xs.length cb, .int .i16 (ixI q (rd q (m : Int)))] W fun e w' => e = .returned (.int .i64 (ixI xs (ixI q (rd q (m : Int))))) ∧ Drawn0 W w') := ⟨fun W h => index_calls _ cb xs _ hx W h hc'⟩
  generalize ixI q (rd q (m : Int)) = r at HI HJ HW HW' ⊢
  generalize ixI xs r = r' at HJ HW' ⊢
  clear hq hx hr hc hr' hc' hb hb' hin hin' v0 v1
  have hwr := HW.out
  go_enter Try.func127, Try.ntmps127
  go_wp2
  repeat (go_quiet (first | (go_at_call 99; (with_reducible refine (HI.out _ ?side1).mono ?_); (case side1 => repeat (first | exact HC1.out | (with_reducible refine Kd.C_alloc ?_ _) | (with_reducible refine Kd.C_drewN ?_ _) | (with_reducible refine Kd.C_drew ?_))); rintro e w' ⟨rfl, ⟨nd, rfl⟩⟩; (try first | exact ⟨rfl, _, World.drewN_drewN _ _ _⟩ | exact ⟨rfl, _, Eq.trans (World.drewN_drewN _ _ _) (congrArg (World.drewN _) (Nat.add_assoc _ _ _))⟩))))
  go_wp2_with (first | (go_at_call 99; (with_reducible refine (HJ.out _ ?side1).mono ?_); (case side1 => repeat (first | exact HC2.out | (with_reducible refine Kd.C_alloc ?_ _) | (with_reducible refine Kd.C_drewN ?_ _) | (with_reducible refine Kd.C_drew ?_))); rintro e w' ⟨rfl, ⟨nd', rfl⟩⟩) | fail)
  go_ret
  exact ⟨by show Ending.returned (.int .i16 (IntKind.i16.wrap r')) = _; rw [HW'.out], pw_below_drewN (Below.refl _ _) _⟩
/-! ### what least computes -/
/-- All that is found, in order. -/
def fndsL (xs : List S89) : List S89 → List S89
  | [] => xs
  | p :: r => fndsL (fndL xs p) r
theorem fndsL_snoc (r : List S89) : ∀ (xs : List S89) (p : S89), fndsL xs (r ++ [p]) = fndL (fndsL xs r) p := by
  induction r with
  | nil => intro xs p; rfl
  | cons a r ih => intro xs p; exact ih _ _
theorem fndL_len (xs : List S89) (p : S89) : (fndL xs p).length ≤ xs.length + 1 := by
  unfold fndL
  split
  · omega
  · rw [List.length_append, List.length_singleton]; exact Nat.le_refl _
theorem fndsL_len (r : List S89) : ∀ xs : List S89, (fndsL xs r).length ≤ xs.length + r.length := by
  induction r with
  | nil => intro xs; exact Nat.le_refl _
  | cons a r ih =>
    intro xs
    have h1 := ih (fndL xs a)
    have h2 := fndL_len xs a
    show (fndsL (fndL xs a) r).length ≤ _
    rw [List.length_cons]
    omega
theorem fndL_pre (xs : List S89) (p : S89) : xs <+: fndL xs p := by
  unfold fndL
  split
  · exact List.prefix_refl _
  · exact List.prefix_append _ _
theorem fndsL_pre (r : List S89) : ∀ xs : List S89, xs <+: fndsL xs r := by
  induction r with
  | nil => intro xs; exact List.prefix_refl _
  | cons a r ih => intro xs; exact List.IsPrefix.trans (fndL_pre xs a) (ih _)
theorem fndL_has (xs : List S89) (p : S89) : ixP xs p ≤ xs.length ∧ ixP (fndL xs p) p = ixP xs p ∧ ixP xs p < (fndL xs p).length := by
  have h0 : ixP xs p ≤ xs.length := List.findIdx_le_length
  unfold fndL
  split
  · rename_i c; exact ⟨h0, rfl, c⟩
  · rename_i c
    rw [ixP_app, if_neg c, if_pos (eqP_iff.2 rfl), List.length_append, List.length_singleton]
    exact ⟨h0, by omega, by omega⟩
theorem ixP_pre {xs ys : List S89} (h : xs <+: ys) {p : S89} (hp : ixP xs p < xs.length) : ixP ys p = ixP xs p := by
  obtain ⟨t, rfl⟩ := h
  unfold ixP at hp ⊢
  rw [List.findIdx_append, if_pos hp]
def kyW (M : List S89) (p : List Int) : List S89 := M.map (renN (rd p))
def foW (M : List S89) (p : List Int) : List S89 := fndsL [] (kyW M p)
def neW (M : List S89) (p : List Int) : List Int := (kyW M p).map fun x => ((ixP (foW M p) x : Nat) : Int)
/-- The loop of the classes. -/
def clsW (M : List S89) : Nat → List Int → Nat → Option (List Int)
  | 0, _, _ => none
  | k + 1, p, c => if (foW M p).length = c then some (neW M p) else clsW M k (neW M p) (foW M p).length
def lstI (q : List Int) : List Int := ((List.range q.length).map Int.ofNat).filter fun i => ixI q (rd q i) == i
def chkR (l : List S89) (R : List Int) : Bool := decide (0 < R.length ∧ R.length ≤ 60) && R.all fun a => decide (0 ≤ a ∧ a < (l.length : Int))
def chkM (M : List S89) : Bool := okT M && M.all fun x => decide (-128 ≤ x.f1 ∧ x.f1 ≤ 127)
def impl_least.f (k : Nat) (l : List S89) : Option (List S89) :=
  (impl_found.f k l).bind fun R => if chkR l R = true then (if chkM (renT l R (ixI R)) = true then
    ((clsW (renT l R (ixI R)) k (List.replicate (renT l R (ixI R)).length 0) 0).bind fun q => if chkR (renT l R (ixI R)) (lstI q) = true then
      ((impl_found.f k (renT (renT l R (ixI R)) (lstI q) fun v => ixI (lstI q) (ixI q (rd q v)))).bind fun R2 =>
        if chkR (renT (renT l R (ixI R)) (lstI q) fun v => ixI (lstI q) (ixI q (rd q v))) R2 = true then some (renT (renT (renT l R (ixI R)) (lstI q) fun v => ixI (lstI q) (ixI q (rd q v))) R2 (ixI R2)) else none) else none) else none) else none
end Go.Proofs.Ytpfnohdnaocpdaa.PT

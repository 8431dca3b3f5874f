/- l06Rows by hand: a recursion that puts rows behind others. -/
import Derived.Test.YtpfnohdnaocpdaaPTx2
import Derived.Test.YtpfnohdnaocpdaaPTrowsA
namespace Go.Proofs.Ytpfnohdnaocpdaa.PT
open Go.RowKit Go.Proofs.YtpfnohdnaocpdaaW.PrintWords Go.Proofs.YtpfnohdnaocpdaaW.PrintLast Go.Proofs.YtpfnohdnaocpdaaW.PrintMore Go.Lib Go.Proofs.YtpfnohdnaocpdaaRP
set_option linter.unusedVariables false
set_option linter.unusedSimpArgs false
def tellS (l : List S89) (n : Int) : Nat → Int → List Int → Option (Int × List Int)
  | 0, _, _ => none
  | k + 1, a, ts => if ts.length ≤ 99999 ∧ 0 ≤ a ∧ a < l.length then (if (ts.length : Int) < n ∧ (rd_T89 l a).f0 = 2 then tellS l n k (rd_T89 l a).f2.f0 (ts ++ [(rd_T89 l a).f1]) else some (a, ts)) else none
theorem tellS_succ (l : List S89) (n : Int) (k : Nat) (a : Int) (ts : List Int) : tellS l n (k + 1) a ts = if ts.length ≤ 99999 ∧ 0 ≤ a ∧ a < l.length then (if (ts.length : Int) < n ∧ (rd_T89 l a).f0 = 2 then tellS l n k (rd_T89 l a).f2.f0 (ts ++ [(rd_T89 l a).f1]) else some (a, ts)) else none := rfl
/-- What is done with a node that no way tells on from. -/
def endS (rec : List S151 → Int → List Int → List Int → Option (List S151 × Bool)) (l : List S89) (out : List S151) (a n : Int) (qs ts : List Int) : Option (List S151 × Bool) :=
  if okR l out a qs ts ∧ (ts.length : Int) ≤ n then
    (if (ts.length : Int) = n then (if out.length = 729 then some ([], false) else some (out ++ [⟨qs, ts⟩], true))
    else restI (fun o b q => rec o b q ts) qs (waysI (rd_T89 l a)) out)
  else none
def rowsS : Nat → List S89 → List S151 → Int → Int → List Int → List Int → Option (List S151 × Bool)
  | 0, _, _, _, _, _, _ => none
  | k + 1, l, out, a, n, qs, ts => (tellS l n k a ts).bind fun p => endS (fun o b q t => rowsS k l o b n q t) l out p.1 n qs p.2
theorem rowsS_succ (k : Nat) (l : List S89) (out : List S151) (a n : Int) (qs ts : List Int) : rowsS (k + 1) l out a n qs ts = (tellS l n k a ts).bind fun p => endS (fun o b q t => rowsS k l o b n q t) l out p.1 n qs p.2 := rfl
theorem tellS_mono (l : List S89) (n : Int) : ∀ (k : Nat) (a : Int) (ts : List Int), LeO (tellS l n k a ts) (tellS l n (k + 1) a ts) := by
  intro k
  induction k with
  | zero => intro a ts; exact LeO.none _
  | succ k ih =>
    intro a ts
    rw [tellS_succ, tellS_succ l n (k + 1)]
    exact LeO.ite (LeO.ite (ih _ _) (LeO.refl _)) (LeO.refl _)
theorem rowsS_mono (l : List S89) : ∀ (k : Nat) (out : List S151) (a n : Int) (qs ts : List Int), LeO (rowsS k l out a n qs ts) (rowsS (k + 1) l out a n qs ts) := by
  intro k
  induction k with
  | zero => intro out a n qs ts; exact LeO.none _
  | succ k ih =>
    intro out a n qs ts
    rw [rowsS_succ, rowsS_succ (k + 1)]
    refine LeO.bind (tellS_mono _ _ _ _ _) fun p => ?_
    unfold endS
    exact LeO.ite (LeO.ite (LeO.refl _) (restI_mono (fun o b q => ih o b n q p.2) qs _ _)) (LeO.refl _)
/-- A row of digits without digits, in a block of its own. -/
theorem empty_R {w : World} {b0 e : Nat} {ok : Nat → Prop} (h : w.heap[e]? = some (.cells #[] 86 (0, 0))) (hb : b0 ≤ e) (ho : ok e) : Kd.R (Kd.int .i8) 86 w b0 ok (.slice (some ⟨e, 0, none⟩) 0 0) [] := by
  refine ⟨fun k hk => ?_, [], ?_, Reps.none _ _⟩
  · have : e = k := by simpa [Value.ownBlock] using hk
    subst this
    exact ho
  · refine ⟨rfl, .inr ⟨e, 0, #[], rfl, hb, h, ?_⟩⟩
    simp
theorem lit_keep {w w1 : World} {b : Nat} {o : Obj} {v : Value} (h : w.heap[b]? = some o) (hg : w.grownBy w1 v.ownBlock) (hne : some b ≠ v.ownBlock) : w1.heap[b]? = some o := (hg.block b (blk_lt_ h) hne).trans h
theorem ew0_ : IntKind.i8.wrap 0 = 0 := rfl
theorem ew1_ : IntKind.i8.wrap 1 = 1 := rfl
theorem ew2_ : IntKind.i8.wrap 2 = 2 := rfl
attribute [local go_sem] ew0_ ew1_ ew2_
def lenOf : Value → Nat
  | .slice _ m _ => m
  | _ => 0
set_option maxHeartbeats 8000000 in
set_option maxRecDepth 100000 in
theorem rowsS_one (l : List S89) (hk : okT l = true) (W0 : World) (tp : Addr) (A0 : Option Addr) (c0 : Nat) (htp : W0.cell? tp = some (.slice A0 l.length c0)) (hr0 : Kd.C k89 W0 A0 l.length l) (out : List S151) (a n : Int) (qs ts : List Int) (vo va vt : Value) (r1 : List S151) (r2 : Bool) (w : World)
    (ho : RR w W0.heap.size vo out) (ha : RI w W0.heap.size va qs) (ht : RI w W0.heap.size vt ts) (hb : Below W0.heap.size W0 w) (k : Nat) (af : Int) (tf : List Int) (htl : tellS l n k a ts = some (af, tf))
    (rec : List S151 → Int → List Int → List Int → Option (List S151 × Bool)) (he : endS rec l out af n qs tf = some (r1, r2))
    (hrec : ∀ (o : List S151) (b d : Int) (ts : List Int) (t : List S151 × Bool) (u v vt : Value) (w' : World), rec o b (qs ++ [d]) ts = some t → RR w' W0.heap.size u o → RI w' W0.heap.size v (qs ++ [d]) → RI w' W0.heap.size vt ts → Below W0.heap.size W0 w' → Calls Try.prog 138 #[.pointer (some tp), .int .i16 b, v, vt, .int .i64 n, u] w' fun e w2 => RowsPost W0.heap.size t.1 t.2 W0 w' e w2) :
    Calls Try.prog 138 #[.pointer (some tp), .int .i16 a, va, vt, .int .i64 n, vo] w fun e w' => RowsPost W0.heap.size r1 r2 W0 w e w' := by
  obtain ⟨Ao, co, rfl⟩ := Kd.S_slice ho
  obtain ⟨Aa, ca, rfl⟩ := Kd.R_slice ha
  obtain ⟨At, ct, rfl⟩ := Kd.R_slice ht
  have HTP := Aside0.mk htp
  have HR0 := Aside0.mk hr0
  have HK := Aside0.mk hk
  have HE := Aside0.mk he
  have HREC := Aside0.mk hrec
  have HTL := Aside0.mk htl
  have RO := Aside0.mk ho
  have RA := Aside0.mk ha
  have RT := Aside0.mk ht
  have BP := Aside0.mk hb
  have KP := Aside0.mk (Ks.refl [151] w)
  clear htp hr0 hk he hrec htl ho ha ht hb
  have hu34 := Try.underlying34
  have hu89 := Try.underlying89
  have hu87 := Try.underlying87
  go_enter Try.func138, Try.ntmps138
  go_upto_block 0 with (fail)
  go_wp2_with (fail)
  go_loopw [1, 3] (fun v1 v3 wr => ∃ (j : Nat) (a' : Int) (ts' : List Int) (Bt : Option Addr) (bt : Nat), v1 = .int .i16 a' ∧ v3 = .slice Bt ts'.length bt ∧ Aside0 (tellS l n j a' ts' = some (af, tf)) ∧ Aside0 (RR wr W0.heap.size (.slice Ao out.length co) out) ∧ Aside0 (RI wr W0.heap.size (.slice Aa qs.length ca) qs) ∧ Aside0 (RI wr W0.heap.size (.slice Bt ts'.length bt) ts') ∧ Aside0 (Below W0.heap.size W0 wr) ∧ Aside0 (Ks [151] w wr)) (fun v1 v3 _ => n.toNat - lenOf v3)
  case atStart => exact ⟨k, a, ts, At, ct, rfl, rfl, HTL, RO, RA, RT, BP, KP⟩
  case round =>
    clear HTL RO RA RT BP KP
    obtain ⟨j, a', ts', Bt, bt, rfl, rfl, HTL, RO, RA, RT, BP, KP⟩ := hrel
    have CA := Aside0.mk (Kd.R_reads' RA.out).2.2
    have CT := Aside0.mk (Kd.R_reads' RT.out).2.2
    have SP := Aside0.mk BP.out.size
    have htl := HTL.out
    cases j with
    | zero => exact absurd htl (by simp [tellS])
    | succ j =>
    rw [tellS_succ] at htl
    by_cases cj : ts'.length ≤ 99999 ∧ 0 ≤ a' ∧ a' < l.length
    case neg => rw [if_neg cj] at htl; exact absurd htl (by simp)
    rw [if_pos cj] at htl
    obtain ⟨q1, i0, i1⟩ := cj
    obtain ⟨ad0, e_, x0, x1, x2, x3, x4⟩ := at_T89 HR0.out a' i0 i1
    have hA0 : A0 = some ad0 := e_
    subst hA0
    have pt : wr.cell? tp = some (.slice (some ad0) l.length c0) := cel BP.out HTP.out
    obtain ⟨X, hX⟩ : ∃ X, X = rd_T89 l a' := ⟨_, rfl⟩
    have hkd := (okT_rd HK.out a' i0 i1).1
    have HXE := Aside0.mk hX
    rw [← hX] at htl x0 x1 x2 x3 x4 hkd
    clear hX
    have z2 := x2
    have z3 := x3
    have z4 := x4
    replace x0 := cel BP.out x0; replace x1 := cel BP.out x1; replace x2 := cel BP.out x2; replace x3 := cel BP.out x3; replace x4 := cel BP.out x4
    obtain ⟨X0, X1, X2, X3, X4⟩ := X
    simp only at htl x0 x1 x2 x3 x4 z2 z3 z4 hkd
    have WX := Aside0.mk (And.intro z2 (And.intro z3 z4))
    clear z2 z3 z4
    have l0 : (Addr.add ad0 (a'.toNat * 5)).block < wr.heap.size := World.block_lt_of_cell? wr _ x0
    have D1 := decide_eq_true i0
    have D2 := decide_eq_true i1
    clear HTL e_
    by_cases ct : (ts'.length : Int) < n ∧ X0 = 2
    · rw [if_pos ct] at htl
      obtain ⟨ct1, rfl⟩ := ct
      have HTL := Aside0.mk htl
      have L1 := Aside0.mk (show ts'.length ≤ 100000 by omega)
      have DT := decide_eq_true ct1
      have HCT := Aside0.mk ct1
      clear htl ct1 q1 hkd
      go_wp2
      refine start_ (n := 14) (S := fun w' => w'.cell? tp = some (.slice (some ad0) l.length c0) ∧ w'.cell? ⟨(Addr.add ad0 (a'.toNat * 5)).block, (Addr.add ad0 (a'.toNat * 5)).off + 1, none⟩ = some (.int .i8 X1)) (ds := []) #[false, false, false, false, false, false, false, false, false, false, false, false, false, false] (by kernel_rfl) rfl rfl ⟨pt, x1⟩ (fun hHeld => ?_)
      refine pure_ (i := 1) (N := some 33) (v := ?_) (a' := ?_) #[false, true, false, false, false, false, false, false, false, false, false, false, false, false] rfl rfl (by kernel_rfl) (fun _ _ _ h => h) (Or.inl ⟨by rfl, ?_⟩) ?_ ?_
      rotate_left
      · intro w'
        go_simp
        with_reducible rfl
      rotate_left
      · simp only [Act.put, List.setIfInBounds_toArray, List.set_cons_zero, List.set_cons_succ, i64_w, i32_w]
        rfl
      refine pure_ (i := 3) (N := some 35) (v := ?_) (a' := ?_) #[false, true, false, true, false, false, false, false, false, false, false, false, false, false] rfl rfl (by kernel_rfl) (fun _ _ _ h => h) (Or.inl ⟨by rfl, ?_⟩) ?_ ?_
      rotate_left
      · intro w'
        go_simp
        with_reducible rfl
      rotate_left
      · simp only [Act.put, List.setIfInBounds_toArray, List.set_cons_zero, List.set_cons_succ, i64_w, i32_w]
        rfl
      refine pure_ (i := 4) (N := some 36) (v := ?_) (a' := ?_) #[false, true, false, true, true, false, false, false, false, false, false, false, false, false] rfl rfl (by kernel_rfl) (fun _ _ _ h => h) (Or.inl ⟨by rfl, ?_⟩) ?_ ?_
      rotate_left
      · intro w'
        go_simp
        with_reducible rfl
      rotate_left
      · simp only [Act.put, List.setIfInBounds_toArray, List.set_cons_zero, List.set_cons_succ, i64_w, i32_w]
        rfl
      refine pure_ (i := 5) (N := some 37) (v := ?_) (a' := ?_) #[false, true, false, true, true, true, false, false, false, false, false, false, false, false] rfl rfl (by kernel_rfl) (fun _ _ _ h => h) (Or.inl ⟨by rfl, ?_⟩) ?_ ?_
      rotate_left
      · intro w'
        go_simp
        with_reducible rfl
      rotate_left
      · simp only [Act.put, List.setIfInBounds_toArray, List.set_cons_zero, List.set_cons_succ, i64_w, i32_w]
        rfl
      refine pure_ (i := 7) (N := some 39) (v := ?_) (a' := ?_) #[false, true, false, true, true, true, false, true, false, false, false, false, false, false] rfl rfl (by kernel_rfl) (fun _ _ _ h => h) (Or.inl ⟨by rfl, ?_⟩) ?_ ?_
      rotate_left
      · intro w'
        go_simp
        with_reducible rfl
      rotate_left
      · simp only [Act.put, List.setIfInBounds_toArray, List.set_cons_zero, List.set_cons_succ, i64_w, i32_w]
        rfl
      refine take_ (i := 6) (N := some 38) (v := ?_) (a' := ?_) #[false, true, false, true, true, true, true, true, false, false, false, false, false, false] rfl rfl (by kernel_rfl) (fun _ _ _ h => h) (Or.inl ⟨by rfl, ?_⟩) hHeld ?_ ?_
      rotate_left
      · rintro w' ⟨s0, s1⟩
        go_simp
        with_reducible rfl
      rotate_left
      · simp only [Act.put, List.setIfInBounds_toArray, List.set_cons_zero, List.set_cons_succ, i64_w, i32_w]
        rfl
      refine pure_ (i := 8) (N := some 40) (v := ?_) (a' := ?_) #[false, true, false, true, true, true, true, true, true, false, false, false, false, false] rfl rfl (by kernel_rfl) (fun _ _ _ h => h) (Or.inl ⟨by rfl, ?_⟩) ?_ ?_
      rotate_left
      · intro w'
        go_simp
        with_reducible rfl
      rotate_left
      · simp only [Act.put, List.setIfInBounds_toArray, List.set_cons_zero, List.set_cons_succ, i64_w, i32_w]
        rfl
      refine pure_ (i := 9) (N := some 41) (v := ?_) (a' := ?_) #[false, true, false, true, true, true, true, true, true, true, false, false, false, false] rfl rfl (by kernel_rfl) (fun _ _ _ h => h) (Or.inl ⟨by rfl, ?_⟩) ?_ ?_
      rotate_left
      · intro w'
        go_simp
        with_reducible rfl
      rotate_left
      · simp only [Act.put, List.setIfInBounds_toArray, List.set_cons_zero, List.set_cons_succ, i64_w, i32_w]
        rfl
      refine take_ (i := 10) (N := some 42) (v := ?_) (a' := ?_) #[false, true, false, true, true, true, true, true, true, true, true, false, false, false] rfl rfl (by kernel_rfl) (fun _ _ _ h => h) (Or.inl ⟨by rfl, ?_⟩) hHeld ?_ ?_
      rotate_left
      · rintro w' ⟨s0, s1⟩
        go_simp
        with_reducible rfl
      rotate_left
      · simp only [Act.put, List.setIfInBounds_toArray, List.set_cons_zero, List.set_cons_succ, i64_w, i32_w]
        rfl
      refine join_ (σ := Option Addr × Nat × Nat × Nat) 2 #[true, true, true, true, true, true, true, true, true, true, true, true, false, false] (fun s => [(32, .slice (some ⟨s.2.2.2, 0, none⟩) 0 0), (34, .slice s.1 ts'.length s.2.1), (43, .slice (some ⟨s.2.2.1, 0, none⟩) 1 1)]) (fun s w' => Lit_ (World.drew wr) w' s.1 ts' s.2.1 s.2.2.1 X1) ?_ ?_
      rotate_left
      · intro hCont
        refine two_ (i := 0) (j := 11) (Ni := some 32) (Nj := some 43) #[true, true, false, true, true, true, true, true, true, true, true, false, false, false] #[false, true, false, true, true, true, true, true, true, true, true, true, false, false] rfl rfl rfl rfl (by kernel_rfl) (by decide) (by decide) (fun K hK => ?_) (fun K hK => ?_)
        · skip
          refine value_ (w1 := ?_) (v := ?_) (by rfl) rfl ?_ ?_
          rotate_left 2
          · go_simp
            constructor
            · rfl
            · rfl
          generalize hqwE : World.drew (World.alloc wr _) = wE
          have BwE := Aside0.mk (show Below wr.heap.size (World.drew wr) wE from by rw [← hqwE]; exact (below_alloc (Below.refl (World.drew wr).heap.size (World.drew wr)) (.cells #[] 86) : Below (World.drew wr).heap.size (World.drew wr) ((World.drew wr).alloc (.cells #[] 86))))
          have GwE := Aside0.mk (show wE.heap[wr.heap.size]? = some (.cells #[] 86 (0, 0)) from by rw [← hqwE]; exact (show (wr.alloc (.cells #[] 86)).heap[wr.heap.size]? = _ from ha_at wr _ rfl))
          clear hqwE
          refine hK.out _ _ ⟨(cel (w := World.drew wr) BwE.out pt), (cel (w := World.drew wr) BwE.out x1)⟩ (fun hHeld => ?_)
          clear hK K
          refine norm_ (a' := ?_) ?_ ?_
          rotate_left
          · show Act.put _ (some 32) _ = _
            simp only [Act.put, List.setIfInBounds_toArray, List.set_cons_zero, List.set_cons_succ, i64_w, i32_w]
            rfl
          refine two_ (i := 2) (j := 11) (Ni := some 34) (Nj := some 43) #[true, true, true, true, true, true, true, true, true, true, true, false, false, false] #[true, true, false, true, true, true, true, true, true, true, true, true, false, false] rfl rfl rfl rfl (by kernel_rfl) (by decide) (by decide) (fun K hK => ?_) (fun K hK => ?_)
          · skip
            refine Kd.R_append_rows_step (Kd.int .i8) (w0 := (World.drew wr)) (W := wE) wr.heap.size (by first | assumption | rfl) (.tmp 32) (.tmp 33) 25 86 (.int .i8 0) 1 rfl Try.underlying25 infoC8 rfl (by decide) (by decide) (.slice (some ⟨wr.heap.size, 0, none⟩) 0 0) [] ts' Bt ts'.length bt T_ (fun _ => False) rfl rfl (empty_R GwE.out (Nat.le_refl _) trivial) (Kd.C_below CT.out (Below.trans (below_drew1 (Below.refl _ _)) BwE.out)) (fun _ _ h => h) (fun _ h => h.elim) (fun _ _ => trivial) BwE.out BwE.out.size (by have := L1.out; simp only [List.length_nil]; omega) ?_
            intro v3 w3 hR3 hb3 hg3 hat3
            rw [List.nil_append] at hR3
            obtain ⟨A3, m3, rfl⟩ := Kd.R_slice hR3
            have R3 := Aside0.mk hR3
            have B3 := Aside0.mk hb3
            clear hR3 hb3 hg3 hat3
            refine hK.out _ _ ⟨(cel (w := World.drew wr) B3.out pt), (cel (w := World.drew wr) B3.out x1)⟩ (fun hHeld => ?_)
            clear hK K
            refine norm_ (a' := ?_) ?_ ?_
            rotate_left
            · show Act.put _ (some 34) _ = _
              simp only [Act.put, List.setIfInBounds_toArray, List.set_cons_zero, List.set_cons_succ, i64_w, i32_w]
              rfl
            refine one_ (i := 11) (N := some 43) #[true, true, true, true, true, true, true, true, true, true, true, true, false, false] rfl rfl (by kernel_rfl) (by decide) (fun K hK => ?_)
            refine value_ (w1 := ?_) (v := ?_) (by rfl) rfl ?_ ?_
            rotate_left 2
            · go_simp
              constructor
              · rfl
              · rfl
            refine hK.out _ _ ⟨(cel (w := World.drew wr) (below_alloc B3.out _) pt), (cel (w := World.drew wr) (below_alloc B3.out _) x1)⟩ (fun hHeld => ?_)
            clear hK K
            refine norm_ (a' := ?_) ?_ ?_
            rotate_left
            · show Act.put _ (some 43) _ = _
              simp only [Act.put, List.setIfInBounds_toArray, List.set_cons_zero, List.set_cons_succ, i64_w, i32_w]
              rfl
            exact norm_ (by simp only [putAll, Act.put, List.setIfInBounds_toArray, List.set_cons_zero, List.set_cons_succ]) (hCont (A3, m3, w3.heap.size, wr.heap.size) _ (Lit_after (wp := (World.drew wr)) X1 R3.out B3.out))
          · skip
            refine value_ (w1 := ?_) (v := ?_) (by rfl) rfl ?_ ?_
            rotate_left 2
            · go_simp
              constructor
              · rfl
              · rfl
            generalize hqwL : World.alloc wE _ = wL
            have BwL := Aside0.mk (show Below wr.heap.size (World.drew wr) wL from by rw [← hqwL]; exact below_alloc (show Below (World.drew wr).heap.size (World.drew wr) wE from BwE.out) _)
            have GwL := Aside0.mk (show wL.heap[wE.heap.size]? = some (.cells #[.int .i8 X1] 86 (0, 0)) from by rw [← hqwL]; exact ha_at wE _ rfl)
            have HwL := Aside0.mk (show wL.heap[wr.heap.size]? = wE.heap[wr.heap.size]? from by rw [← hqwL]; exact Below.heap_alloc wE _ _ (blk_lt_ GwE.out))
            clear hqwL
            refine hK.out _ _ ⟨(cel (w := World.drew wr) BwL.out pt), (cel (w := World.drew wr) BwL.out x1)⟩ (fun hHeld => ?_)
            clear hK K
            refine norm_ (a' := ?_) ?_ ?_
            rotate_left
            · show Act.put _ (some 43) _ = _
              simp only [Act.put, List.setIfInBounds_toArray, List.set_cons_zero, List.set_cons_succ, i64_w, i32_w]
              rfl
            refine one_ (i := 2) (N := some 34) #[true, true, true, true, true, true, true, true, true, true, true, true, false, false] rfl rfl (by kernel_rfl) (by decide) (fun K hK => ?_)
            refine Kd.R_append_rows_step (Kd.int .i8) (w0 := (World.drew wr)) (W := wL) wr.heap.size (by first | assumption | rfl) (.tmp 32) (.tmp 33) 25 86 (.int .i8 0) 1 rfl Try.underlying25 infoC8 rfl (by decide) (by decide) (.slice (some ⟨wr.heap.size, 0, none⟩) 0 0) [] ts' Bt ts'.length bt (fun k => k ≠ wE.heap.size) (fun _ => False) rfl rfl (empty_R (HwL.out.trans GwE.out) (Nat.le_refl _) (by have := blk_lt_ GwE.out; omega)) (Kd.C_below CT.out (Below.trans (below_drew1 (Below.refl _ _)) BwL.out)) (fun _ _ h => h) (fun _ h => h.elim) (fun k hk => by have := blk_lt_ GwL.out; omega) BwL.out BwL.out.size (by have := L1.out; simp only [List.length_nil]; omega) ?_
            intro v3 w3 hR3 hb3 hg3 hat3
            rw [List.nil_append] at hR3
            obtain ⟨A3, m3, rfl⟩ := Kd.R_slice hR3
            have hL3 := Aside0.mk (show Lit_ (World.drew wr) w3 A3 ts' m3 wE.heap.size X1 from ⟨hR3, lit_keep GwL.out hg3 (by have := blk_lt_ GwE.out; simp [Value.ownBlock]; omega), BwE.out.size, hb3⟩)
            clear hR3 hb3 hg3 hat3
            refine hK.out _ _ ⟨(cel (w := World.drew wr) hL3.out.2.2.2 pt), (cel (w := World.drew wr) hL3.out.2.2.2 x1)⟩ (fun hHeld => ?_)
            clear hK K
            refine norm_ (a' := ?_) ?_ ?_
            rotate_left
            · show Act.put _ (some 34) _ = _
              simp only [Act.put, List.setIfInBounds_toArray, List.set_cons_zero, List.set_cons_succ, i64_w, i32_w]
              rfl
            exact norm_ (by simp only [putAll, Act.put, List.setIfInBounds_toArray, List.set_cons_zero, List.set_cons_succ]) (hCont (A3, m3, wE.heap.size, wr.heap.size) _ hL3.out)
        · skip
          refine value_ (w1 := ?_) (v := ?_) (by rfl) rfl ?_ ?_
          rotate_left 2
          · go_simp
            constructor
            · rfl
            · rfl
          generalize hqwL : World.drew (World.alloc wr _) = wL
          have BwL := Aside0.mk (show Below wr.heap.size (World.drew wr) wL from by rw [← hqwL]; exact (below_alloc (Below.refl (World.drew wr).heap.size (World.drew wr)) (.cells #[.int .i8 X1] 86) : Below (World.drew wr).heap.size (World.drew wr) ((World.drew wr).alloc (.cells #[.int .i8 X1] 86))))
          have GwL := Aside0.mk (show wL.heap[wr.heap.size]? = some (.cells #[.int .i8 X1] 86 (0, 0)) from by rw [← hqwL]; exact (show (wr.alloc (.cells #[.int .i8 X1] 86)).heap[wr.heap.size]? = _ from ha_at wr _ rfl))
          clear hqwL
          refine hK.out _ _ ⟨(cel (w := World.drew wr) BwL.out pt), (cel (w := World.drew wr) BwL.out x1)⟩ (fun hHeld => ?_)
          clear hK K
          refine norm_ (a' := ?_) ?_ ?_
          rotate_left
          · show Act.put _ (some 43) _ = _
            simp only [Act.put, List.setIfInBounds_toArray, List.set_cons_zero, List.set_cons_succ, i64_w, i32_w]
            rfl
          refine one_ (i := 0) (N := some 32) #[true, true, false, true, true, true, true, true, true, true, true, true, false, false] rfl rfl (by kernel_rfl) (by decide) (fun K hK => ?_)
          refine value_ (w1 := ?_) (v := ?_) (by rfl) rfl ?_ ?_
          rotate_left 2
          · go_simp
            constructor
            · rfl
            · rfl
          generalize hqwE : World.alloc wL _ = wE
          have BwE := Aside0.mk (show Below wr.heap.size (World.drew wr) wE from by rw [← hqwE]; exact below_alloc (show Below (World.drew wr).heap.size (World.drew wr) wL from BwL.out) _)
          have GwE := Aside0.mk (show wE.heap[wL.heap.size]? = some (.cells #[] 86 (0, 0)) from by rw [← hqwE]; exact ha_at wL _ rfl)
          have HwE := Aside0.mk (show wE.heap[wr.heap.size]? = wL.heap[wr.heap.size]? from by rw [← hqwE]; exact Below.heap_alloc wL _ _ (blk_lt_ GwL.out))
          clear hqwE
          refine hK.out _ _ ⟨(cel (w := World.drew wr) BwE.out pt), (cel (w := World.drew wr) BwE.out x1)⟩ (fun hHeld => ?_)
          clear hK K
          refine norm_ (a' := ?_) ?_ ?_
          rotate_left
          · show Act.put _ (some 32) _ = _
            simp only [Act.put, List.setIfInBounds_toArray, List.set_cons_zero, List.set_cons_succ, i64_w, i32_w]
            rfl
          refine one_ (i := 2) (N := some 34) #[true, true, true, true, true, true, true, true, true, true, true, true, false, false] rfl rfl (by kernel_rfl) (by decide) (fun K hK => ?_)
          refine Kd.R_append_rows_step (Kd.int .i8) (w0 := (World.drew wr)) (W := wE) wr.heap.size (by first | assumption | rfl) (.tmp 32) (.tmp 33) 25 86 (.int .i8 0) 1 rfl Try.underlying25 infoC8 rfl (by decide) (by decide) (.slice (some ⟨wL.heap.size, 0, none⟩) 0 0) [] ts' Bt ts'.length bt (fun k => k ≠ wr.heap.size) (fun _ => False) rfl rfl (empty_R GwE.out BwL.out.size (by have := blk_lt_ GwL.out; omega)) (Kd.C_below CT.out (Below.trans (below_drew1 (Below.refl _ _)) BwE.out)) (fun _ _ h => h) (fun _ h => h.elim) (fun k hk => by have := blk_lt_ (HwE.out.trans GwL.out); omega) BwE.out BwE.out.size (by have := L1.out; simp only [List.length_nil]; omega) ?_
          intro v3 w3 hR3 hb3 hg3 hat3
          rw [List.nil_append] at hR3
          obtain ⟨A3, m3, rfl⟩ := Kd.R_slice hR3
          have hL3 := Aside0.mk (show Lit_ (World.drew wr) w3 A3 ts' m3 wr.heap.size X1 from ⟨hR3, lit_keep (HwE.out.trans GwL.out) hg3 (by have := blk_lt_ GwL.out; simp [Value.ownBlock]; omega), Nat.le_refl _, hb3⟩)
          clear hR3 hb3 hg3 hat3
          refine hK.out _ _ ⟨(cel (w := World.drew wr) hL3.out.2.2.2 pt), (cel (w := World.drew wr) hL3.out.2.2.2 x1)⟩ (fun hHeld => ?_)
          clear hK K
          refine norm_ (a' := ?_) ?_ ?_
          rotate_left
          · show Act.put _ (some 34) _ = _
            simp only [Act.put, List.setIfInBounds_toArray, List.set_cons_zero, List.set_cons_succ, i64_w, i32_w]
            rfl
          exact norm_ (by simp only [putAll, Act.put, List.setIfInBounds_toArray, List.set_cons_zero, List.set_cons_succ]) (hCont (A3, m3, wr.heap.size, wL.heap.size) _ hL3.out)
      rintro ⟨A5, m5, kb, ke⟩ w5 hL5
      replace hL5 : Lit_ (World.drew wr) w5 A5 ts' m5 kb X1 := hL5
      have L5 := Aside0.mk hL5
      clear hL5
      have hHeld : w5.cell? tp = some (.slice (some ad0) l.length c0) ∧ w5.cell? ⟨(Addr.add ad0 (a'.toNat * 5)).block, (Addr.add ad0 (a'.toNat * 5)).off + 1, none⟩ = some (.int .i8 X1) := ⟨(cel (w := World.drew wr) L5.out.2.2.2 pt), (cel (w := World.drew wr) L5.out.2.2.2 x1)⟩
      refine norm_ (a' := ?_) ?_ ?_
      rotate_left
      · simp only [putAll, Act.put, List.setIfInBounds_toArray, List.set_cons_zero, List.set_cons_succ]
        rfl
      refine one_ (i := 12) (N := some 44) #[true, true, true, true, true, true, true, true, true, true, true, true, true, false] rfl rfl (by kernel_rfl) (by decide) (fun K hK => ?_)
      refine Kd.R_append_rows_step (Kd.int .i8) (w0 := (World.drew wr)) (W := w5) wr.heap.size (by first | assumption | rfl) (.tmp 34) (.tmp 43) 25 86 (.int .i8 0) 1 rfl Try.underlying25 infoC8 rfl (by decide) (by decide) (.slice A5 ts'.length m5) ts' [X1] (some ⟨kb, 0, none⟩) 1 1 (fun k => k ≠ kb) (fun _ => False) rfl rfl L5.out.1 (one_C L5.out.2.1) (fun _ _ h => h) (fun _ h => h.elim) (fun k hk => by have := blk_lt_ L5.out.2.1; omega) L5.out.2.2.2 L5.out.2.2.2.size (by have := L1.out; omega) ?_
      intro v6 w6 hR6 hb6 hg6 hat6
      obtain ⟨A6, m6, rfl⟩ := Kd.R_slice hR6
      have R6 := Aside0.mk (Kd.R_lower (Kd.R_mono (ok' := T_) hR6 (fun _ _ => trivial)) SP.out)
      have B6 := Aside0.mk hb6
      have BB6 := Aside0.mk (BP.out.trans ((Below.trans (below_drew1 (Below.refl _ _)) hb6).mono SP.out))
      have K6 := Aside0.mk (Ks.below (T := [151]) (Below.trans (below_drew1 (Below.refl _ _)) hb6 : Below wr.heap.size wr w6))
      clear hR6 hb6 hg6 hat6 L5
      refine hK.out _ _ ⟨(cel (w := World.drew wr) B6.out pt), (cel (w := World.drew wr) B6.out x1)⟩ (fun hHeld => ?_)
      clear hK K
      refine norm_ (a' := ?_) ?_ ?_
      rotate_left
      · show Act.put _ (some 44) _ = _
        simp only [Act.put, List.setIfInBounds_toArray, List.set_cons_zero, List.set_cons_succ, i64_w, i32_w]
        rfl
      refine pure_ (i := 13) (N := some 3) (v := ?_) (a' := ?_) #[true, true, true, true, true, true, true, true, true, true, true, true, true, true] rfl rfl (by kernel_rfl) (fun _ _ _ h => h) (Or.inl ⟨by rfl, ?_⟩) ?_ ?_
      rotate_left
      · intro w'
        go_simp
        with_reducible rfl
      rotate_left
      · simp only [Act.put, List.setIfInBounds_toArray, List.set_cons_zero, List.set_cons_succ, i64_w, i32_w]
        rfl
      refine done_ (by kernel_rfl) ?_

      replace pt := cel (w := World.drew wr) B6.out pt
      replace x2 := cel (w := World.drew wr) B6.out x2
      go_wp2
      go_round
      case rel => exact ⟨j, X2, ts' ++ [X1], A6, m6, rfl, (by simp), HTL, ⟨Kd.S_below RO.out (Below.trans (below_drew1 (Below.refl _ _)) B6.out)⟩, ⟨Kd.R_below RA.out (Below.trans (below_drew1 (Below.refl _ _)) B6.out)⟩, R6, BB6, ⟨KP.out.trans K6.out⟩⟩
      case measure => (have := HCT.out; simp only [lenOf, List.length_append, List.length_singleton]; omega)
    · rw [if_neg ct] at htl
      obtain ⟨rfl, rfl⟩ := Prod.mk.inj (Option.some.inj htl)
      clear htl q1
      have he := HE.out
      unfold endS at he
      by_cases ck : okR l out a' qs ts' ∧ (ts'.length : Int) ≤ n
      case neg => rw [if_neg ck] at he; exact absurd he (by simp)
      rw [if_pos ck] at he
      obtain ⟨⟨q0, q1, q2, i0, i1⟩, qle⟩ := ck
      have L0 := Aside0.mk q0
      have L1 := Aside0.mk q1
      have L2 := Aside0.mk q2
      by_cases cn : (ts'.length : Int) = n
      · rw [if_pos cn] at he
        have cnb : ((ts'.length : Int) == n) = true := beq_iff_eq.mpr cn
        have cnl : decide ((ts'.length : Int) < n) = false := decide_eq_false (by omega)
        clear cn
        by_cases c729 : out.length = 729
        · rw [if_pos c729] at he
          obtain ⟨rfl, rfl⟩ := Prod.mk.inj (Option.some.inj he)
          have c7b : ((out.length : Int) == 729) = true := beq_iff_eq.mpr (by omega)
          clear he c729
          go_wp2
          go_ret2
          exact ⟨_, rfl, fun h_ => absurd h_ (by decide), BP.out, KP.out, KP.out.1⟩
        · rw [if_neg c729] at he
          obtain ⟨rfl, rfl⟩ := Prod.mk.inj (Option.some.inj he)
          have c7b : ((out.length : Int) == 729) = false := beq_eq_false_iff_ne.mpr (by omega)
          clear he c729
          go_wp2_with (first
            | ((with_reducible refine gate_dst (N := 63) rfl ?_); refine Kd.R_lit (Kd.int .i8) _ 86 ?hg (N := 63) ?hd (xs := ([] : List Int)) (inner := []) (ok := fun _ => True) (okp := fun _ => True) ?hr ?hp (fun _ hk => hk) trivial (Below.refl _ _) (Nat.le_refl _) (by simp) ?_; (case hd => rfl); (case hg => rfl); (case hr => first | (go_simp; done) | (go_simp; rfl)); (case hp => exact (Reps.none _ _))
               intro u1 wa ho_ hb_ hg_ hnew_
               have E1 := Aside0.mk ho_
               have F1 := Aside0.mk hb_
               clear ho_ hb_ hg_ hnew_)
            | ((with_reducible refine gate_builtin (b := .append) (xs := #[.tmp 63, .tmp 64]) rfl ?_); at_builtin
               refine Kd.R_append_rows (Kd.int .i8) (w0 := wr) wr.heap.size rfl (.tmp 63) (.tmp 64) 25 86 (.int .i8 0) 1 rfl Try.underlying25 infoC8 rfl (by decide) (by omega) u1 [] qs _ _ _ (fun _ => True) (fun _ => False) rfl rfl E1.out (Kd.C_below CA.out F1.out) (fun _ _ h => h) (fun _ h => h.elim) (fun _ _ => trivial) F1.out F1.out.size (by have := L0.out; simp only [List.length_nil]; omega) ?_
               intro v1 wb ho_ hb_ hg_ hat_
               rw [List.nil_append] at ho_
               obtain ⟨G1, g1, rfl⟩ := Kd.R_slice ho_
               have P1 := Aside0.mk ho_
               have Q1 := Aside0.mk hb_
               clear ho_ hb_ hg_ hat_)
            | ((with_reducible refine gate_dst (N := 66) rfl ?_); refine Kd.R_lit (Kd.int .i8) _ 86 ?hg (N := 66) ?hd (xs := ([] : List Int)) (inner := []) (ok := fun _ => True) (okp := fun _ => True) ?hr ?hp (fun _ hk => hk) trivial (Below.refl _ _) (Nat.le_refl _) (by simp) ?_; (case hd => rfl); (case hg => rfl); (case hr => first | (go_simp; done) | (go_simp; rfl)); (case hp => exact (Reps.none _ _))
               intro u2 wc ho_ hb_ hg_ hnew_
               have E2 := Aside0.mk ho_
               have F2 := Aside0.mk hb_
               clear ho_ hb_ hg_ hnew_)
            | ((with_reducible refine gate_builtin (b := .append) (xs := #[.tmp 66, .tmp 67]) rfl ?_); at_builtin
               refine Kd.R_append_rows (Kd.int .i8) (w0 := wb) wb.heap.size rfl (.tmp 66) (.tmp 67) 25 86 (.int .i8 0) 1 rfl Try.underlying25 infoC8 rfl (by decide) (by omega) u2 [] ts' _ _ _ (fun _ => True) (fun _ => False) rfl rfl E2.out (Kd.C_below (Kd.C_below CT.out Q1.out) F2.out) (fun _ _ h => h) (fun _ h => h.elim) (fun _ _ => trivial) F2.out F2.out.size (by have := L1.out; simp only [List.length_nil]; omega) ?_
               intro v2 wd ho_ hb_ hg_ hat_
               rw [List.nil_append] at ho_
               obtain ⟨G2, g2, rfl⟩ := Kd.R_slice ho_
               have P2 := Aside0.mk ho_
               have Q2 := Aside0.mk hb_
               clear ho_ hb_ hg_ hat_)
            | ((with_reducible refine gate_builtin (b := .append) (xs := #[.tmp 62, .tmp 70]) rfl ?_); at_builtin
               have BW := Aside0.mk (Q1.out.trans (Q2.out.mono Q1.out.size))
               have SB := Aside0.mk (Nat.le_trans BP.out.size BW.out.size)
               have BB := Aside0.mk (BP.out.trans (BW.out.mono BP.out.size))
               have RO2 := Aside0.mk (Kd.S_mono (Kd.S_below (Kd.S_bound RO.out) BW.out) (ok' := fun k => T_ k ∧ ¬ (wr.heap.size ≤ k)) (fun k hk => ⟨trivial, by have := hk.2.2.1; omega⟩))
               have Z0 := Aside0.mk (Kd.R_lower (Kd.R_below (Kd.R_mono (R_fresh P1.out) (ok' := fun k => wr.heap.size ≤ k) (fun k hk => hk)) Q2.out) BP.out.size)
               have Z1 := Aside0.mk (Kd.R_lower (Kd.R_mono (R_fresh P2.out) (ok' := fun k => wr.heap.size ≤ k) (fun k hk => Nat.le_trans Q1.out.size hk)) (Nat.le_trans BP.out.size Q1.out.size))
               have AK := Aside0.mk (fun k (hk : wr.heap.size ≤ k) => (⟨trivial, fun e => absurd (Kd.S_lt RO.out k e.symm) (by omega)⟩ : T_ k ∧ some k ≠ (Value.slice Ao out.length co).ownBlock))
               refine Kd.S_append k151 (w0 := W0) (W := wd) W0.heap.size rfl (.tmp 62) (.tmp 70) 65 151 (.agg #[.slice none 0 0, .slice none 0 0]) 48 rfl Try.underlying65 infoRow rfl (by decide) (by decide) (.slice Ao out.length co) out ⟨qs, ts'⟩ [.slice G1 qs.length g1, .slice G2 ts'.length g2] T_ (fun k => wr.heap.size ≤ k) rfl rfl (k151_mkM _ _ _ ⟨qs, ts'⟩ Z0.out Z1.out) AK.out (fun _ _ => trivial) RO2.out BB.out SB.out (by have := L2.out; omega) ?_
               intro v3 w3 hR3 hb3 hg3 hat3
               obtain ⟨A3, c3, rfl⟩ := Kd.S_slice hR3
               have R3 := Aside0.mk hR3
               have B3 := Aside0.mk hb3
               have KS := Aside0.mk ((KP.out.trans (Ks.below (T := [151]) BW.out)).trans (Ks.grown hg3 (fun k c q fz e hk => by
                 obtain ⟨cells, hc⟩ := Kd.S_typed RO2.out k e
                 rw [hc] at hk; injection hk with hk; injection hk with _ hk; rw [← hk]; simp)))
               clear hR3 hb3 hg3 hat3 Z0 Z1 RO2)
            | fail)
          go_ret2
          exact ⟨_, rfl, fun _ => (by have h := R3.out; rw [List.length_append, List.length_singleton] at h; exact h), B3.out, KS.out, KS.out.1⟩
      · rw [if_neg cn] at he
        have cnb : ((ts'.length : Int) == n) = false := beq_eq_false_iff_ne.mpr cn
        rw [← HXE.out] at he
        have HS := Aside0.mk he
        clear he HE HXE
        have cl : (ts'.length : Int) < n := by omega
        have hx2 : X0 ≠ 2 := fun h => ct ⟨cl, h⟩
        have DL := decide_eq_true cl
        have DX : (X0 == 2) = false := beq_eq_false_iff_ne.mpr hx2
        clear ct cl hx2 hkd qle
        go_upto_block 2 with (fail)
        clear x0 x1 x2 x3 x4 l0 pt DL
        go_wp2_with (fail)
        go_loopw [5, 14] (fun v5 v14 wr => ∃ (j2 : Nat) (o : List S151) (Au : Option Addr) (cu : Nat), v5 = .slice Au o.length cu ∧ v14 = .int .i8 ((j2 : Int) - 1) ∧ Aside0 (j2 ≤ 3) ∧ Aside0 (restI (fun o b q => rec o b q ts') qs ((waysI ⟨X0, X1, ⟨X2, X3, X4⟩⟩).drop j2) o = some (r1, r2)) ∧ Aside0 (RR wr W0.heap.size (.slice Au o.length cu) o) ∧ Aside0 (RI wr W0.heap.size (.slice Aa qs.length ca) qs) ∧ Aside0 (RI wr W0.heap.size (.slice Bt ts'.length bt) ts') ∧ Aside0 (Below W0.heap.size W0 wr) ∧ Aside0 (Ks [151] w wr)) (fun v5 v14 _ => 3 - (intOf v14 + 1).toNat)
        case atStart => exact ⟨0, out, Ao, co, rfl, rfl, ⟨by omega⟩, HS, RO, RA, RT, BP, KP⟩
        case round =>
          clear HS RO RA RT BP KP CA CT SP
          obtain ⟨j2, o, Au, cu, rfl, rfl, HJ3, HS, RO, RA, RT, BP, KP⟩ := hrel
          have CA := Aside0.mk (Kd.R_reads' RA.out).2.2
          have SP := Aside0.mk BP.out.size
          have pt : wr.cell? tp = some (.slice (some ad0) l.length c0) := cel BP.out HTP.out
          have y2 := cel BP.out WX.out.1
          have y3 := cel BP.out WX.out.2.1
          have y4 := cel BP.out WX.out.2.2
          by_cases hj : j2 < 3
          · rcases (show j2 = 0 ∨ j2 = 1 ∨ j2 = 2 by omega) with rfl | rfl | rfl
            · have HJ := HS.out
              rw [show (waysI ⟨X0, X1, ⟨X2, X3, X4⟩⟩).drop 0 = (-1, X2) :: (waysI ⟨X0, X1, ⟨X2, X3, X4⟩⟩).drop 1 from rfl, restI_cons] at HJ
              obtain ⟨⟨t1, t2⟩, ht1, HJ⟩ := Option.bind_eq_some_iff.mp HJ
              have HT_ := Aside0.mk ht1
              clear ht1 HS
              cases t2 with
              | true =>
                have HS := Aside0.mk (show restI (fun o b q => rec o b q ts') qs ((waysI ⟨X0, X1, ⟨X2, X3, X4⟩⟩).drop 1) t1 = some (r1, r2) from HJ)
                clear HJ
                go_wp2
                refine start_ (n := 27) (S := fun w' => w'.cell? tp = some (.slice (some ad0) l.length c0) ∧ w'.cell? ⟨(Addr.add ad0 (a'.toNat * 5)).block, (Addr.add ad0 (a'.toNat * 5)).off + 2, none⟩ = some (.int .i16 X2)) (ds := [21]) #[false, false, false, false, false, false, false, false, false, false, false, false, false, false, false, false, false, false, false, false, false, false, false, false, false, false, false] (by kernel_rfl) rfl rfl ⟨pt, y2⟩ (fun hHeld => ?_)
                refine pure_ (i := 0) (N := some 77) (v := ?_) (a' := ?_) #[true, false, false, false, false, false, false, false, false, false, false, false, false, false, false, false, false, false, false, false, false, false, false, false, false, false, false] rfl rfl (by kernel_rfl) (fun _ _ _ h => h) (Or.inl ⟨by rfl, ?_⟩) ?_ ?_
                rotate_left
                · intro w'
                  go_simp
                  with_reducible rfl
                rotate_left
                · simp only [Act.put, List.setIfInBounds_toArray, List.set_cons_zero, List.set_cons_succ, i64_w, i32_w]
                  rfl
                refine pure_ (i := 1) (N := some 78) (v := ?_) (a' := ?_) #[true, true, false, false, false, false, false, false, false, false, false, false, false, false, false, false, false, false, false, false, false, false, false, false, false, false, false] rfl rfl (by kernel_rfl) (fun _ _ _ h => h) (Or.inl ⟨by rfl, ?_⟩) ?_ ?_
                rotate_left
                · intro w'
                  go_simp
                  with_reducible rfl
                rotate_left
                · simp only [Act.put, List.setIfInBounds_toArray, List.set_cons_zero, List.set_cons_succ, i64_w, i32_w]
                  rfl
                refine pure_ (i := 2) (N := some 79) (v := ?_) (a' := ?_) #[true, true, true, false, false, false, false, false, false, false, false, false, false, false, false, false, false, false, false, false, false, false, false, false, false, false, false] rfl rfl (by kernel_rfl) (fun _ _ _ h => h) (Or.inl ⟨by rfl, ?_⟩) ?_ ?_
                rotate_left
                · intro w'
                  go_simp
                  with_reducible rfl
                rotate_left
                · simp only [Act.put, List.setIfInBounds_toArray, List.set_cons_zero, List.set_cons_succ, i64_w, i32_w]
                  rfl
                refine pure_ (i := 3) (N := some 80) (v := ?_) (a' := ?_) #[true, true, true, true, false, false, false, false, false, false, false, false, false, false, false, false, false, false, false, false, false, false, false, false, false, false, false] rfl rfl (by kernel_rfl) (fun _ _ _ h => h) (Or.inl ⟨by rfl, ?_⟩) ?_ ?_
                rotate_left
                · intro w'
                  go_simp
                  with_reducible rfl
                rotate_left
                · simp only [Act.put, List.setIfInBounds_toArray, List.set_cons_zero, List.set_cons_succ, i64_w, i32_w]
                  rfl
                refine pure_ (i := 5) (N := some 82) (v := ?_) (a' := ?_) #[true, true, true, true, false, true, false, false, false, false, false, false, false, false, false, false, false, false, false, false, false, false, false, false, false, false, false] rfl rfl (by kernel_rfl) (fun _ _ _ h => h) (Or.inl ⟨by rfl, ?_⟩) ?_ ?_
                rotate_left
                · intro w'
                  go_simp
                  with_reducible rfl
                rotate_left
                · simp only [Act.put, List.setIfInBounds_toArray, List.set_cons_zero, List.set_cons_succ, i64_w, i32_w]
                  rfl
                refine pure_ (i := 6) (N := some 83) (v := ?_) (a' := ?_) #[true, true, true, true, false, true, true, false, false, false, false, false, false, false, false, false, false, false, false, false, false, false, false, false, false, false, false] rfl rfl (by kernel_rfl) (fun _ _ _ h => h) (Or.inl ⟨by rfl, ?_⟩) ?_ ?_
                rotate_left
                · intro w'
                  go_simp
                  with_reducible rfl
                rotate_left
                · simp only [Act.put, List.setIfInBounds_toArray, List.set_cons_zero, List.set_cons_succ, i64_w, i32_w]
                  rfl
                refine pure_ (i := 7) (N := some 84) (v := ?_) (a' := ?_) #[true, true, true, true, false, true, true, true, false, false, false, false, false, false, false, false, false, false, false, false, false, false, false, false, false, false, false] rfl rfl (by kernel_rfl) (fun _ _ _ h => h) (Or.inl ⟨by rfl, ?_⟩) ?_ ?_
                rotate_left
                · intro w'
                  go_simp
                  with_reducible rfl
                rotate_left
                · simp only [Act.put, List.setIfInBounds_toArray, List.set_cons_zero, List.set_cons_succ, i64_w, i32_w]
                  rfl
                refine pure_ (i := 13) (N := some 90) (v := ?_) (a' := ?_) #[true, true, true, true, false, true, true, true, false, false, false, false, false, true, false, false, false, false, false, false, false, false, false, false, false, false, false] rfl rfl (by kernel_rfl) (fun _ _ _ h => h) (Or.inl ⟨by rfl, ?_⟩) ?_ ?_
                rotate_left
                · intro w'
                  go_simp
                  with_reducible rfl
                rotate_left
                · simp only [Act.put, List.setIfInBounds_toArray, List.set_cons_zero, List.set_cons_succ, i64_w, i32_w]
                  rfl
                refine pure_ (i := 15) (N := some 92) (v := ?_) (a' := ?_) #[true, true, true, true, false, true, true, true, false, false, false, false, false, true, false, true, false, false, false, false, false, false, false, false, false, false, false] rfl rfl (by kernel_rfl) (fun _ _ _ h => h) (Or.inl ⟨by rfl, ?_⟩) ?_ ?_
                rotate_left
                · intro w'
                  go_simp
                  with_reducible rfl
                rotate_left
                · simp only [Act.put, List.setIfInBounds_toArray, List.set_cons_zero, List.set_cons_succ, i64_w, i32_w]
                  rfl
                refine pure_ (i := 18) (N := some 95) (v := ?_) (a' := ?_) #[true, true, true, true, false, true, true, true, false, false, false, false, false, true, false, true, false, false, true, false, false, false, false, false, false, false, false] rfl rfl (by kernel_rfl) (fun _ _ _ h => h) (Or.inl ⟨by rfl, ?_⟩) ?_ ?_
                rotate_left
                · intro w'
                  go_simp
                  with_reducible rfl
                rotate_left
                · simp only [Act.put, List.setIfInBounds_toArray, List.set_cons_zero, List.set_cons_succ, i64_w, i32_w]
                  rfl
                refine pure_ (i := 19) (N := some 96) (v := ?_) (a' := ?_) #[true, true, true, true, false, true, true, true, false, false, false, false, false, true, false, true, false, false, true, true, false, false, false, false, false, false, false] rfl rfl (by kernel_rfl) (fun _ _ _ h => h) (Or.inl ⟨by rfl, ?_⟩) ?_ ?_
                rotate_left
                · intro w'
                  go_simp
                  with_reducible rfl
                rotate_left
                · simp only [Act.put, List.setIfInBounds_toArray, List.set_cons_zero, List.set_cons_succ, i64_w, i32_w]
                  rfl
                refine pure_ (i := 20) (N := some 97) (v := ?_) (a' := ?_) #[true, true, true, true, false, true, true, true, false, false, false, false, false, true, false, true, false, false, true, true, true, false, false, false, false, false, false] rfl rfl (by kernel_rfl) (fun _ _ _ h => h) (Or.inl ⟨by rfl, ?_⟩) ?_ ?_
                rotate_left
                · intro w'
                  go_simp
                  with_reducible rfl
                rotate_left
                · simp only [Act.put, List.setIfInBounds_toArray, List.set_cons_zero, List.set_cons_succ, i64_w, i32_w]
                  rfl
                refine take_ (i := 4) (N := some 81) (v := ?_) (a' := ?_) #[true, true, true, true, true, true, true, true, false, false, false, false, false, true, false, true, false, false, true, true, true, false, false, false, false, false, false] rfl rfl (by kernel_rfl) (fun _ _ _ h => h) (Or.inl ⟨by rfl, ?_⟩) hHeld ?_ ?_
                rotate_left
                · rintro w' ⟨s0, s1⟩
                  go_simp
                  with_reducible rfl
                rotate_left
                · simp only [Act.put, List.setIfInBounds_toArray, List.set_cons_zero, List.set_cons_succ, i64_w, i32_w]
                  rfl
                refine pure_ (i := 8) (N := some 85) (v := ?_) (a' := ?_) #[true, true, true, true, true, true, true, true, true, false, false, false, false, true, false, true, false, false, true, true, true, false, false, false, false, false, false] rfl rfl (by kernel_rfl) (fun _ _ _ h => h) (Or.inl ⟨by rfl, ?_⟩) ?_ ?_
                rotate_left
                · intro w'
                  go_simp
                  with_reducible rfl
                rotate_left
                · simp only [Act.put, List.setIfInBounds_toArray, List.set_cons_zero, List.set_cons_succ, i64_w, i32_w]
                  rfl
                refine pure_ (i := 9) (N := some 86) (v := ?_) (a' := ?_) #[true, true, true, true, true, true, true, true, true, true, false, false, false, true, false, true, false, false, true, true, true, false, false, false, false, false, false] rfl rfl (by kernel_rfl) (fun _ _ _ h => h) (Or.inl ⟨by rfl, ?_⟩) ?_ ?_
                rotate_left
                · intro w'
                  go_simp
                  with_reducible rfl
                rotate_left
                · simp only [Act.put, List.setIfInBounds_toArray, List.set_cons_zero, List.set_cons_succ, i64_w, i32_w]
                  rfl
                refine pure_ (i := 10) (N := some 87) (v := ?_) (a' := ?_) #[true, true, true, true, true, true, true, true, true, true, true, false, false, true, false, true, false, false, true, true, true, false, false, false, false, false, false] rfl rfl (by kernel_rfl) (fun _ _ _ h => h) (Or.inl ⟨by rfl, ?_⟩) ?_ ?_
                rotate_left
                · intro w'
                  go_simp
                  with_reducible rfl
                rotate_left
                · simp only [Act.put, List.setIfInBounds_toArray, List.set_cons_zero, List.set_cons_succ, i64_w, i32_w]
                  rfl
                refine take_ (i := 11) (N := some 88) (v := ?_) (a' := ?_) #[true, true, true, true, true, true, true, true, true, true, true, true, false, true, false, true, false, false, true, true, true, false, false, false, false, false, false] rfl rfl (by kernel_rfl) (fun _ _ _ h => h) (Or.inl ⟨by rfl, ?_⟩) hHeld ?_ ?_
                rotate_left
                · rintro w' ⟨s0, s1⟩
                  go_simp
                  with_reducible rfl
                rotate_left
                · simp only [Act.put, List.setIfInBounds_toArray, List.set_cons_zero, List.set_cons_succ, i64_w, i32_w]
                  rfl
                refine join_ (σ := Option Addr × Nat × Nat × Nat) 7 #[true, true, true, true, true, true, true, true, true, true, true, true, true, true, true, true, true, false, true, true, true, false, false, false, false, false, false] (fun s => [(89, .slice (some ⟨s.2.2.2, 0, none⟩) 0 0), (91, .slice s.1 qs.length s.2.1), (93, .slice (some ⟨s.2.2.1, 0, none⟩) 1 1)]) (fun s w' => Lit_ (World.drew wr) w' s.1 qs s.2.1 s.2.2.1 (-1)) ?_ ?_
                rotate_left
                · intro hCont
                  refine two_ (i := 12) (j := 16) (Ni := some 89) (Nj := some 93) #[true, true, true, true, true, true, true, true, true, true, true, true, true, true, false, true, false, false, true, true, true, false, false, false, false, false, false] #[true, true, true, true, true, true, true, true, true, true, true, true, false, true, false, true, true, false, true, true, true, false, false, false, false, false, false] rfl rfl rfl rfl (by kernel_rfl) (by decide) (by decide) (fun K hK => ?_) (fun K hK => ?_)
                  · skip
                    refine value_ (w1 := ?_) (v := ?_) (by rfl) rfl ?_ ?_
                    rotate_left 2
                    · go_simp
                      constructor
                      · rfl
                      · rfl
                    generalize hqwE : World.drew (World.alloc wr _) = wE
                    have BwE := Aside0.mk (show Below wr.heap.size (World.drew wr) wE from by rw [← hqwE]; exact (below_alloc (Below.refl (World.drew wr).heap.size (World.drew wr)) (.cells #[] 86) : Below (World.drew wr).heap.size (World.drew wr) ((World.drew wr).alloc (.cells #[] 86))))
                    have GwE := Aside0.mk (show wE.heap[wr.heap.size]? = some (.cells #[] 86 (0, 0)) from by rw [← hqwE]; exact (show (wr.alloc (.cells #[] 86)).heap[wr.heap.size]? = _ from ha_at wr _ rfl))
                    clear hqwE
                    refine hK.out _ _ ⟨(cel (w := World.drew wr) BwE.out pt), (cel (w := World.drew wr) BwE.out y2)⟩ (fun hHeld => ?_)
                    clear hK K
                    refine norm_ (a' := ?_) ?_ ?_
                    rotate_left
                    · show Act.put _ (some 89) _ = _
                      simp only [Act.put, List.setIfInBounds_toArray, List.set_cons_zero, List.set_cons_succ, i64_w, i32_w]
                      rfl
                    refine two_ (i := 14) (j := 16) (Ni := some 91) (Nj := some 93) #[true, true, true, true, true, true, true, true, true, true, true, true, true, true, true, true, false, false, true, true, true, false, false, false, false, false, false] #[true, true, true, true, true, true, true, true, true, true, true, true, true, true, false, true, true, false, true, true, true, false, false, false, false, false, false] rfl rfl rfl rfl (by kernel_rfl) (by decide) (by decide) (fun K hK => ?_) (fun K hK => ?_)
                    · skip
                      refine Kd.R_append_rows_step (Kd.int .i8) (w0 := (World.drew wr)) (W := wE) wr.heap.size (by first | assumption | rfl) (.tmp 89) (.tmp 90) 25 86 (.int .i8 0) 1 rfl Try.underlying25 infoC8 rfl (by decide) (by decide) (.slice (some ⟨wr.heap.size, 0, none⟩) 0 0) [] qs Aa qs.length ca T_ (fun _ => False) rfl rfl (empty_R GwE.out (Nat.le_refl _) trivial) (Kd.C_below CA.out (Below.trans (below_drew1 (Below.refl _ _)) BwE.out)) (fun _ _ h => h) (fun _ h => h.elim) (fun _ _ => trivial) BwE.out BwE.out.size (by have := L0.out; simp only [List.length_nil]; omega) ?_
                      intro v3 w3 hR3 hb3 hg3 hat3
                      rw [List.nil_append] at hR3
                      obtain ⟨A3, m3, rfl⟩ := Kd.R_slice hR3
                      have R3 := Aside0.mk hR3
                      have B3 := Aside0.mk hb3
                      clear hR3 hb3 hg3 hat3
                      refine hK.out _ _ ⟨(cel (w := World.drew wr) B3.out pt), (cel (w := World.drew wr) B3.out y2)⟩ (fun hHeld => ?_)
                      clear hK K
                      refine norm_ (a' := ?_) ?_ ?_
                      rotate_left
                      · show Act.put _ (some 91) _ = _
                        simp only [Act.put, List.setIfInBounds_toArray, List.set_cons_zero, List.set_cons_succ, i64_w, i32_w]
                        rfl
                      refine one_ (i := 16) (N := some 93) #[true, true, true, true, true, true, true, true, true, true, true, true, true, true, true, true, true, false, true, true, true, false, false, false, false, false, false] rfl rfl (by kernel_rfl) (by decide) (fun K hK => ?_)
                      refine value_ (w1 := ?_) (v := ?_) (by rfl) rfl ?_ ?_
                      rotate_left 2
                      · go_simp
                        constructor
                        · rfl
                        · rfl
                      refine hK.out _ _ ⟨(cel (w := World.drew wr) (below_alloc B3.out _) pt), (cel (w := World.drew wr) (below_alloc B3.out _) y2)⟩ (fun hHeld => ?_)
                      clear hK K
                      refine norm_ (a' := ?_) ?_ ?_
                      rotate_left
                      · show Act.put _ (some 93) _ = _
                        simp only [Act.put, List.setIfInBounds_toArray, List.set_cons_zero, List.set_cons_succ, i64_w, i32_w]
                        rfl
                      exact norm_ (by simp only [putAll, Act.put, List.setIfInBounds_toArray, List.set_cons_zero, List.set_cons_succ]) (hCont (A3, m3, w3.heap.size, wr.heap.size) _ (Lit_after (wp := (World.drew wr)) (-1) R3.out B3.out))
                    · skip
                      refine value_ (w1 := ?_) (v := ?_) (by rfl) rfl ?_ ?_
                      rotate_left 2
                      · go_simp
                        constructor
                        · rfl
                        · rfl
                      generalize hqwL : World.alloc wE _ = wL
                      have BwL := Aside0.mk (show Below wr.heap.size (World.drew wr) wL from by rw [← hqwL]; exact below_alloc (show Below (World.drew wr).heap.size (World.drew wr) wE from BwE.out) _)
                      have GwL := Aside0.mk (show wL.heap[wE.heap.size]? = some (.cells #[.int .i8 (-1)] 86 (0, 0)) from by rw [← hqwL]; exact ha_at wE _ rfl)
                      have HwL := Aside0.mk (show wL.heap[wr.heap.size]? = wE.heap[wr.heap.size]? from by rw [← hqwL]; exact Below.heap_alloc wE _ _ (blk_lt_ GwE.out))
                      clear hqwL
                      refine hK.out _ _ ⟨(cel (w := World.drew wr) BwL.out pt), (cel (w := World.drew wr) BwL.out y2)⟩ (fun hHeld => ?_)
                      clear hK K
                      refine norm_ (a' := ?_) ?_ ?_
                      rotate_left
                      · show Act.put _ (some 93) _ = _
                        simp only [Act.put, List.setIfInBounds_toArray, List.set_cons_zero, List.set_cons_succ, i64_w, i32_w]
                        rfl
                      refine one_ (i := 14) (N := some 91) #[true, true, true, true, true, true, true, true, true, true, true, true, true, true, true, true, true, false, true, true, true, false, false, false, false, false, false] rfl rfl (by kernel_rfl) (by decide) (fun K hK => ?_)
                      refine Kd.R_append_rows_step (Kd.int .i8) (w0 := (World.drew wr)) (W := wL) wr.heap.size (by first | assumption | rfl) (.tmp 89) (.tmp 90) 25 86 (.int .i8 0) 1 rfl Try.underlying25 infoC8 rfl (by decide) (by decide) (.slice (some ⟨wr.heap.size, 0, none⟩) 0 0) [] qs Aa qs.length ca (fun k => k ≠ wE.heap.size) (fun _ => False) rfl rfl (empty_R (HwL.out.trans GwE.out) (Nat.le_refl _) (by have := blk_lt_ GwE.out; omega)) (Kd.C_below CA.out (Below.trans (below_drew1 (Below.refl _ _)) BwL.out)) (fun _ _ h => h) (fun _ h => h.elim) (fun k hk => by have := blk_lt_ GwL.out; omega) BwL.out BwL.out.size (by have := L0.out; simp only [List.length_nil]; omega) ?_
                      intro v3 w3 hR3 hb3 hg3 hat3
                      rw [List.nil_append] at hR3
                      obtain ⟨A3, m3, rfl⟩ := Kd.R_slice hR3
                      have hL3 := Aside0.mk (show Lit_ (World.drew wr) w3 A3 qs m3 wE.heap.size (-1) from ⟨hR3, lit_keep GwL.out hg3 (by have := blk_lt_ GwE.out; simp [Value.ownBlock]; omega), BwE.out.size, hb3⟩)
                      clear hR3 hb3 hg3 hat3
                      refine hK.out _ _ ⟨(cel (w := World.drew wr) hL3.out.2.2.2 pt), (cel (w := World.drew wr) hL3.out.2.2.2 y2)⟩ (fun hHeld => ?_)
                      clear hK K
                      refine norm_ (a' := ?_) ?_ ?_
                      rotate_left
                      · show Act.put _ (some 91) _ = _
                        simp only [Act.put, List.setIfInBounds_toArray, List.set_cons_zero, List.set_cons_succ, i64_w, i32_w]
                        rfl
                      exact norm_ (by simp only [putAll, Act.put, List.setIfInBounds_toArray, List.set_cons_zero, List.set_cons_succ]) (hCont (A3, m3, wE.heap.size, wr.heap.size) _ hL3.out)
                  · skip
                    refine value_ (w1 := ?_) (v := ?_) (by rfl) rfl ?_ ?_
                    rotate_left 2
                    · go_simp
                      constructor
                      · rfl
                      · rfl
                    generalize hqwL : World.drew (World.alloc wr _) = wL
                    have BwL := Aside0.mk (show Below wr.heap.size (World.drew wr) wL from by rw [← hqwL]; exact (below_alloc (Below.refl (World.drew wr).heap.size (World.drew wr)) (.cells #[.int .i8 (-1)] 86) : Below (World.drew wr).heap.size (World.drew wr) ((World.drew wr).alloc (.cells #[.int .i8 (-1)] 86))))
                    have GwL := Aside0.mk (show wL.heap[wr.heap.size]? = some (.cells #[.int .i8 (-1)] 86 (0, 0)) from by rw [← hqwL]; exact (show (wr.alloc (.cells #[.int .i8 (-1)] 86)).heap[wr.heap.size]? = _ from ha_at wr _ rfl))
                    clear hqwL
                    refine hK.out _ _ ⟨(cel (w := World.drew wr) BwL.out pt), (cel (w := World.drew wr) BwL.out y2)⟩ (fun hHeld => ?_)
                    clear hK K
                    refine norm_ (a' := ?_) ?_ ?_
                    rotate_left
                    · show Act.put _ (some 93) _ = _
                      simp only [Act.put, List.setIfInBounds_toArray, List.set_cons_zero, List.set_cons_succ, i64_w, i32_w]
                      rfl
                    refine one_ (i := 12) (N := some 89) #[true, true, true, true, true, true, true, true, true, true, true, true, true, true, false, true, true, false, true, true, true, false, false, false, false, false, false] rfl rfl (by kernel_rfl) (by decide) (fun K hK => ?_)
                    refine value_ (w1 := ?_) (v := ?_) (by rfl) rfl ?_ ?_
                    rotate_left 2
                    · go_simp
                      constructor
                      · rfl
                      · rfl
                    generalize hqwE : World.alloc wL _ = wE
                    have BwE := Aside0.mk (show Below wr.heap.size (World.drew wr) wE from by rw [← hqwE]; exact below_alloc (show Below (World.drew wr).heap.size (World.drew wr) wL from BwL.out) _)
                    have GwE := Aside0.mk (show wE.heap[wL.heap.size]? = some (.cells #[] 86 (0, 0)) from by rw [← hqwE]; exact ha_at wL _ rfl)
                    have HwE := Aside0.mk (show wE.heap[wr.heap.size]? = wL.heap[wr.heap.size]? from by rw [← hqwE]; exact Below.heap_alloc wL _ _ (blk_lt_ GwL.out))
                    clear hqwE
                    refine hK.out _ _ ⟨(cel (w := World.drew wr) BwE.out pt), (cel (w := World.drew wr) BwE.out y2)⟩ (fun hHeld => ?_)
                    clear hK K
                    refine norm_ (a' := ?_) ?_ ?_
                    rotate_left
                    · show Act.put _ (some 89) _ = _
                      simp only [Act.put, List.setIfInBounds_toArray, List.set_cons_zero, List.set_cons_succ, i64_w, i32_w]
                      rfl
                    refine one_ (i := 14) (N := some 91) #[true, true, true, true, true, true, true, true, true, true, true, true, true, true, true, true, true, false, true, true, true, false, false, false, false, false, false] rfl rfl (by kernel_rfl) (by decide) (fun K hK => ?_)
                    refine Kd.R_append_rows_step (Kd.int .i8) (w0 := (World.drew wr)) (W := wE) wr.heap.size (by first | assumption | rfl) (.tmp 89) (.tmp 90) 25 86 (.int .i8 0) 1 rfl Try.underlying25 infoC8 rfl (by decide) (by decide) (.slice (some ⟨wL.heap.size, 0, none⟩) 0 0) [] qs Aa qs.length ca (fun k => k ≠ wr.heap.size) (fun _ => False) rfl rfl (empty_R GwE.out BwL.out.size (by have := blk_lt_ GwL.out; omega)) (Kd.C_below CA.out (Below.trans (below_drew1 (Below.refl _ _)) BwE.out)) (fun _ _ h => h) (fun _ h => h.elim) (fun k hk => by have := blk_lt_ (HwE.out.trans GwL.out); omega) BwE.out BwE.out.size (by have := L0.out; simp only [List.length_nil]; omega) ?_
                    intro v3 w3 hR3 hb3 hg3 hat3
                    rw [List.nil_append] at hR3
                    obtain ⟨A3, m3, rfl⟩ := Kd.R_slice hR3
                    have hL3 := Aside0.mk (show Lit_ (World.drew wr) w3 A3 qs m3 wr.heap.size (-1) from ⟨hR3, lit_keep (HwE.out.trans GwL.out) hg3 (by have := blk_lt_ GwL.out; simp [Value.ownBlock]; omega), Nat.le_refl _, hb3⟩)
                    clear hR3 hb3 hg3 hat3
                    refine hK.out _ _ ⟨(cel (w := World.drew wr) hL3.out.2.2.2 pt), (cel (w := World.drew wr) hL3.out.2.2.2 y2)⟩ (fun hHeld => ?_)
                    clear hK K
                    refine norm_ (a' := ?_) ?_ ?_
                    rotate_left
                    · show Act.put _ (some 91) _ = _
                      simp only [Act.put, List.setIfInBounds_toArray, List.set_cons_zero, List.set_cons_succ, i64_w, i32_w]
                      rfl
                    exact norm_ (by simp only [putAll, Act.put, List.setIfInBounds_toArray, List.set_cons_zero, List.set_cons_succ]) (hCont (A3, m3, wr.heap.size, wL.heap.size) _ hL3.out)
                rintro ⟨A5, m5, kb, ke⟩ w5 hL5
                replace hL5 : Lit_ (World.drew wr) w5 A5 qs m5 kb (-1) := hL5
                have L5 := Aside0.mk hL5
                clear hL5
                have hHeld : w5.cell? tp = some (.slice (some ad0) l.length c0) ∧ w5.cell? ⟨(Addr.add ad0 (a'.toNat * 5)).block, (Addr.add ad0 (a'.toNat * 5)).off + 2, none⟩ = some (.int .i16 X2) := ⟨(cel (w := World.drew wr) L5.out.2.2.2 pt), (cel (w := World.drew wr) L5.out.2.2.2 y2)⟩
                refine norm_ (a' := ?_) ?_ ?_
                rotate_left
                · simp only [putAll, Act.put, List.setIfInBounds_toArray, List.set_cons_zero, List.set_cons_succ]
                  rfl
                refine one_ (i := 17) (N := some 94) #[true, true, true, true, true, true, true, true, true, true, true, true, true, true, true, true, true, true, true, true, true, false, false, false, false, false, false] rfl rfl (by kernel_rfl) (by decide) (fun K hK => ?_)
                refine Kd.R_append_rows_step (Kd.int .i8) (w0 := (World.drew wr)) (W := w5) wr.heap.size (by first | assumption | rfl) (.tmp 91) (.tmp 93) 25 86 (.int .i8 0) 1 rfl Try.underlying25 infoC8 rfl (by decide) (by decide) (.slice A5 qs.length m5) qs [(-1)] (some ⟨kb, 0, none⟩) 1 1 (fun k => k ≠ kb) (fun _ => False) rfl rfl L5.out.1 (one_C L5.out.2.1) (fun _ _ h => h) (fun _ h => h.elim) (fun k hk => by have := blk_lt_ L5.out.2.1; omega) L5.out.2.2.2 L5.out.2.2.2.size (by have := L0.out; omega) ?_
                intro v6 w6 hR6 hb6 hg6 hat6
                obtain ⟨A6, m6, rfl⟩ := Kd.R_slice hR6
                have R6 := Aside0.mk (Kd.R_lower (Kd.R_mono (ok' := T_) hR6 (fun _ _ => trivial)) SP.out)
                have B6 := Aside0.mk hb6
                have BB6 := Aside0.mk (BP.out.trans ((Below.trans (below_drew1 (Below.refl _ _)) hb6).mono SP.out))
                have K6 := Aside0.mk (Ks.below (T := [151]) (Below.trans (below_drew1 (Below.refl _ _)) hb6 : Below wr.heap.size wr w6))
                clear hR6 hb6 hg6 hat6 L5
                refine hK.out _ _ ⟨(cel (w := World.drew wr) B6.out pt), (cel (w := World.drew wr) B6.out y2)⟩ (fun hHeld => ?_)
                clear hK K
                refine norm_ (a' := ?_) ?_ ?_
                rotate_left
                · show Act.put _ (some 94) _ = _
                  simp only [Act.put, List.setIfInBounds_toArray, List.set_cons_zero, List.set_cons_succ, i64_w, i32_w]
                  rfl
                refine last_ (i := 21) (N := some 98) #[true, true, true, true, true, true, true, true, true, true, true, true, true, true, true, true, true, true, true, true, true, true, false, false, false, false, false] rfl rfl (by kernel_rfl) (by decide) (fun K hK => ?_)
                refine goes_ Try.func138 (by kernel_rfl) rfl #[.pointer (some tp), .int .i16 X2, .slice A6 (qs ++ [(-1)]).length m6, .slice Bt ts'.length bt, .int .i64 n, .slice Au o.length cu] (by rfl) rfl rfl (by simp only [List.map_toArray, List.map_cons, List.map_nil]; rfl) ?_
                with_reducible refine (HREC.out o X2 (-1) ts' (t1, true) (.slice Au o.length cu) (.slice A6 (qs ++ [(-1)]).length m6) (.slice Bt ts'.length bt) w6 HT_.out (Kd.S_below RO.out (Below.trans (below_drew1 (Below.refl _ _)) B6.out)) R6.out (Kd.R_below RT.out (Below.trans (below_drew1 (Below.refl _ _)) B6.out)) BB6.out).mono ?_
                rintro e w7 ⟨v7, rfl, hR7, hb7, hk7, hs7⟩
                refine ⟨_, rfl, ?_⟩
                obtain ⟨A7, c7, rfl⟩ := Kd.S_slice (hR7 rfl)
                have R7 := Aside0.mk (hR7 rfl)
                have B7 := Aside0.mk hb7
                have J7 := Aside0.mk (K6.out.trans hk7)
                have K7 := Aside0.mk (KP.out.trans J7.out)
                clear hR7 hb7 hk7 hs7
                refine hK.out _ _ ?_
                clear hK K
                refine norm_ (a' := ?_) ?_ ?_
                rotate_left
                · show Act.put _ (some 98) _ = _
                  simp only [Act.put, List.setIfInBounds_toArray, List.set_cons_zero, List.set_cons_succ, i64_w, i32_w]
                  rfl
                refine pure_ (i := 22) (N := some 76) (v := ?_) (a' := ?_) #[true, true, true, true, true, true, true, true, true, true, true, true, true, true, true, true, true, true, true, true, true, true, true, false, false, false, false] rfl rfl (by kernel_rfl) (fun _ _ _ h => h) (Or.inl ⟨by rfl, ?_⟩) ?_ ?_
                rotate_left
                · intro w'
                  go_simp
                  with_reducible rfl
                rotate_left
                · simp only [Act.put, List.setIfInBounds_toArray, List.set_cons_zero, List.set_cons_succ, i64_w, i32_w]
                  rfl
                refine pure_ (i := 23) (N := some 99) (v := ?_) (a' := ?_) #[true, true, true, true, true, true, true, true, true, true, true, true, true, true, true, true, true, true, true, true, true, true, true, true, false, false, false] rfl rfl (by kernel_rfl) (fun _ _ _ h => h) (Or.inl ⟨by rfl, ?_⟩) ?_ ?_
                rotate_left
                · intro w'
                  go_simp
                  with_reducible rfl
                rotate_left
                · simp only [Act.put, List.setIfInBounds_toArray, List.set_cons_zero, List.set_cons_succ, i64_w, i32_w]
                  rfl
                refine pure_ (i := 24) (N := some 100) (v := ?_) (a' := ?_) #[true, true, true, true, true, true, true, true, true, true, true, true, true, true, true, true, true, true, true, true, true, true, true, true, true, false, false] rfl rfl (by kernel_rfl) (fun _ _ _ h => h) (Or.inl ⟨by rfl, ?_⟩) ?_ ?_
                rotate_left
                · intro w'
                  go_simp
                  with_reducible rfl
                rotate_left
                · simp only [Act.put, List.setIfInBounds_toArray, List.set_cons_zero, List.set_cons_succ, i64_w, i32_w]
                  rfl
                refine pure_ (i := 25) (N := some 15) (v := ?_) (a' := ?_) #[true, true, true, true, true, true, true, true, true, true, true, true, true, true, true, true, true, true, true, true, true, true, true, true, true, true, false] rfl rfl (by kernel_rfl) (fun _ _ _ h => h) (Or.inl ⟨by rfl, ?_⟩) ?_ ?_
                rotate_left
                · intro w'
                  go_simp
                  with_reducible rfl
                rotate_left
                · simp only [Act.put, List.setIfInBounds_toArray, List.set_cons_zero, List.set_cons_succ, i64_w, i32_w]
                  rfl
                refine pure_ (i := 26) (N := some 16) (v := ?_) (a' := ?_) #[true, true, true, true, true, true, true, true, true, true, true, true, true, true, true, true, true, true, true, true, true, true, true, true, true, true, true] rfl rfl (by kernel_rfl) (fun _ _ _ h => h) (Or.inl ⟨by rfl, ?_⟩) ?_ ?_
                rotate_left
                · intro w'
                  go_simp
                  with_reducible rfl
                rotate_left
                · simp only [Act.put, List.setIfInBounds_toArray, List.set_cons_zero, List.set_cons_succ, i64_w, i32_w]
                  rfl
                refine done_ (by kernel_rfl) ?_
                go_wp2
                go_round
                case rel => exact ⟨1, t1, A7, c7, rfl, by first | (with_reducible rfl) | rfl | go_num, ⟨by omega⟩, HS, R7, ⟨R_Ks RA.out J7.out (by decide)⟩, ⟨R_Ks RT.out J7.out (by decide)⟩, B7, K7⟩
                case measure => first | (simp [intOf]; done) | (simp [intOf]; omega)
              | false =>
                have hz : some (([] : List S151), false) = some (r1, r2) := HJ
                obtain ⟨rfl, rfl⟩ := Prod.mk.inj (Option.some.inj hz)
                clear HJ hz
                go_wp2
                refine start_ (n := 27) (S := fun w' => w'.cell? tp = some (.slice (some ad0) l.length c0) ∧ w'.cell? ⟨(Addr.add ad0 (a'.toNat * 5)).block, (Addr.add ad0 (a'.toNat * 5)).off + 2, none⟩ = some (.int .i16 X2)) (ds := [21]) #[false, false, false, false, false, false, false, false, false, false, false, false, false, false, false, false, false, false, false, false, false, false, false, false, false, false, false] (by kernel_rfl) rfl rfl ⟨pt, y2⟩ (fun hHeld => ?_)
                refine pure_ (i := 0) (N := some 77) (v := ?_) (a' := ?_) #[true, false, false, false, false, false, false, false, false, false, false, false, false, false, false, false, false, false, false, false, false, false, false, false, false, false, false] rfl rfl (by kernel_rfl) (fun _ _ _ h => h) (Or.inl ⟨by rfl, ?_⟩) ?_ ?_
                rotate_left
                · intro w'
                  go_simp
                  with_reducible rfl
                rotate_left
                · simp only [Act.put, List.setIfInBounds_toArray, List.set_cons_zero, List.set_cons_succ, i64_w, i32_w]
                  rfl
                refine pure_ (i := 1) (N := some 78) (v := ?_) (a' := ?_) #[true, true, false, false, false, false, false, false, false, false, false, false, false, false, false, false, false, false, false, false, false, false, false, false, false, false, false] rfl rfl (by kernel_rfl) (fun _ _ _ h => h) (Or.inl ⟨by rfl, ?_⟩) ?_ ?_
                rotate_left
                · intro w'
                  go_simp
                  with_reducible rfl
                rotate_left
                · simp only [Act.put, List.setIfInBounds_toArray, List.set_cons_zero, List.set_cons_succ, i64_w, i32_w]
                  rfl
                refine pure_ (i := 2) (N := some 79) (v := ?_) (a' := ?_) #[true, true, true, false, false, false, false, false, false, false, false, false, false, false, false, false, false, false, false, false, false, false, false, false, false, false, false] rfl rfl (by kernel_rfl) (fun _ _ _ h => h) (Or.inl ⟨by rfl, ?_⟩) ?_ ?_
                rotate_left
                · intro w'
                  go_simp
                  with_reducible rfl
                rotate_left
                · simp only [Act.put, List.setIfInBounds_toArray, List.set_cons_zero, List.set_cons_succ, i64_w, i32_w]
                  rfl
                refine pure_ (i := 3) (N := some 80) (v := ?_) (a' := ?_) #[true, true, true, true, false, false, false, false, false, false, false, false, false, false, false, false, false, false, false, false, false, false, false, false, false, false, false] rfl rfl (by kernel_rfl) (fun _ _ _ h => h) (Or.inl ⟨by rfl, ?_⟩) ?_ ?_
                rotate_left
                · intro w'
                  go_simp
                  with_reducible rfl
                rotate_left
                · simp only [Act.put, List.setIfInBounds_toArray, List.set_cons_zero, List.set_cons_succ, i64_w, i32_w]
                  rfl
                refine pure_ (i := 5) (N := some 82) (v := ?_) (a' := ?_) #[true, true, true, true, false, true, false, false, false, false, false, false, false, false, false, false, false, false, false, false, false, false, false, false, false, false, false] rfl rfl (by kernel_rfl) (fun _ _ _ h => h) (Or.inl ⟨by rfl, ?_⟩) ?_ ?_
                rotate_left
                · intro w'
                  go_simp
                  with_reducible rfl
                rotate_left
                · simp only [Act.put, List.setIfInBounds_toArray, List.set_cons_zero, List.set_cons_succ, i64_w, i32_w]
                  rfl
                refine pure_ (i := 6) (N := some 83) (v := ?_) (a' := ?_) #[true, true, true, true, false, true, true, false, false, false, false, false, false, false, false, false, false, false, false, false, false, false, false, false, false, false, false] rfl rfl (by kernel_rfl) (fun _ _ _ h => h) (Or.inl ⟨by rfl, ?_⟩) ?_ ?_
                rotate_left
                · intro w'
                  go_simp
                  with_reducible rfl
                rotate_left
                · simp only [Act.put, List.setIfInBounds_toArray, List.set_cons_zero, List.set_cons_succ, i64_w, i32_w]
                  rfl
                refine pure_ (i := 7) (N := some 84) (v := ?_) (a' := ?_) #[true, true, true, true, false, true, true, true, false, false, false, false, false, false, false, false, false, false, false, false, false, false, false, false, false, false, false] rfl rfl (by kernel_rfl) (fun _ _ _ h => h) (Or.inl ⟨by rfl, ?_⟩) ?_ ?_
                rotate_left
                · intro w'
                  go_simp
                  with_reducible rfl
                rotate_left
                · simp only [Act.put, List.setIfInBounds_toArray, List.set_cons_zero, List.set_cons_succ, i64_w, i32_w]
                  rfl
                refine pure_ (i := 13) (N := some 90) (v := ?_) (a' := ?_) #[true, true, true, true, false, true, true, true, false, false, false, false, false, true, false, false, false, false, false, false, false, false, false, false, false, false, false] rfl rfl (by kernel_rfl) (fun _ _ _ h => h) (Or.inl ⟨by rfl, ?_⟩) ?_ ?_
                rotate_left
                · intro w'
                  go_simp
                  with_reducible rfl
                rotate_left
                · simp only [Act.put, List.setIfInBounds_toArray, List.set_cons_zero, List.set_cons_succ, i64_w, i32_w]
                  rfl
                refine pure_ (i := 15) (N := some 92) (v := ?_) (a' := ?_) #[true, true, true, true, false, true, true, true, false, false, false, false, false, true, false, true, false, false, false, false, false, false, false, false, false, false, false] rfl rfl (by kernel_rfl) (fun _ _ _ h => h) (Or.inl ⟨by rfl, ?_⟩) ?_ ?_
                rotate_left
                · intro w'
                  go_simp
                  with_reducible rfl
                rotate_left
                · simp only [Act.put, List.setIfInBounds_toArray, List.set_cons_zero, List.set_cons_succ, i64_w, i32_w]
                  rfl
                refine pure_ (i := 18) (N := some 95) (v := ?_) (a' := ?_) #[true, true, true, true, false, true, true, true, false, false, false, false, false, true, false, true, false, false, true, false, false, false, false, false, false, false, false] rfl rfl (by kernel_rfl) (fun _ _ _ h => h) (Or.inl ⟨by rfl, ?_⟩) ?_ ?_
                rotate_left
                · intro w'
                  go_simp
                  with_reducible rfl
                rotate_left
                · simp only [Act.put, List.setIfInBounds_toArray, List.set_cons_zero, List.set_cons_succ, i64_w, i32_w]
                  rfl
                refine pure_ (i := 19) (N := some 96) (v := ?_) (a' := ?_) #[true, true, true, true, false, true, true, true, false, false, false, false, false, true, false, true, false, false, true, true, false, false, false, false, false, false, false] rfl rfl (by kernel_rfl) (fun _ _ _ h => h) (Or.inl ⟨by rfl, ?_⟩) ?_ ?_
                rotate_left
                · intro w'
                  go_simp
                  with_reducible rfl
                rotate_left
                · simp only [Act.put, List.setIfInBounds_toArray, List.set_cons_zero, List.set_cons_succ, i64_w, i32_w]
                  rfl
                refine pure_ (i := 20) (N := some 97) (v := ?_) (a' := ?_) #[true, true, true, true, false, true, true, true, false, false, false, false, false, true, false, true, false, false, true, true, true, false, false, false, false, false, false] rfl rfl (by kernel_rfl) (fun _ _ _ h => h) (Or.inl ⟨by rfl, ?_⟩) ?_ ?_
                rotate_left
                · intro w'
                  go_simp
                  with_reducible rfl
                rotate_left
                · simp only [Act.put, List.setIfInBounds_toArray, List.set_cons_zero, List.set_cons_succ, i64_w, i32_w]
                  rfl
                refine take_ (i := 4) (N := some 81) (v := ?_) (a' := ?_) #[true, true, true, true, true, true, true, true, false, false, false, false, false, true, false, true, false, false, true, true, true, false, false, false, false, false, false] rfl rfl (by kernel_rfl) (fun _ _ _ h => h) (Or.inl ⟨by rfl, ?_⟩) hHeld ?_ ?_
                rotate_left
                · rintro w' ⟨s0, s1⟩
                  go_simp
                  with_reducible rfl
                rotate_left
                · simp only [Act.put, List.setIfInBounds_toArray, List.set_cons_zero, List.set_cons_succ, i64_w, i32_w]
                  rfl
                refine pure_ (i := 8) (N := some 85) (v := ?_) (a' := ?_) #[true, true, true, true, true, true, true, true, true, false, false, false, false, true, false, true, false, false, true, true, true, false, false, false, false, false, false] rfl rfl (by kernel_rfl) (fun _ _ _ h => h) (Or.inl ⟨by rfl, ?_⟩) ?_ ?_
                rotate_left
                · intro w'
                  go_simp
                  with_reducible rfl
                rotate_left
                · simp only [Act.put, List.setIfInBounds_toArray, List.set_cons_zero, List.set_cons_succ, i64_w, i32_w]
                  rfl
                refine pure_ (i := 9) (N := some 86) (v := ?_) (a' := ?_) #[true, true, true, true, true, true, true, true, true, true, false, false, false, true, false, true, false, false, true, true, true, false, false, false, false, false, false] rfl rfl (by kernel_rfl) (fun _ _ _ h => h) (Or.inl ⟨by rfl, ?_⟩) ?_ ?_
                rotate_left
                · intro w'
                  go_simp
                  with_reducible rfl
                rotate_left
                · simp only [Act.put, List.setIfInBounds_toArray, List.set_cons_zero, List.set_cons_succ, i64_w, i32_w]
                  rfl
                refine pure_ (i := 10) (N := some 87) (v := ?_) (a' := ?_) #[true, true, true, true, true, true, true, true, true, true, true, false, false, true, false, true, false, false, true, true, true, false, false, false, false, false, false] rfl rfl (by kernel_rfl) (fun _ _ _ h => h) (Or.inl ⟨by rfl, ?_⟩) ?_ ?_
                rotate_left
                · intro w'
                  go_simp
                  with_reducible rfl
                rotate_left
                · simp only [Act.put, List.setIfInBounds_toArray, List.set_cons_zero, List.set_cons_succ, i64_w, i32_w]
                  rfl
                refine take_ (i := 11) (N := some 88) (v := ?_) (a' := ?_) #[true, true, true, true, true, true, true, true, true, true, true, true, false, true, false, true, false, false, true, true, true, false, false, false, false, false, false] rfl rfl (by kernel_rfl) (fun _ _ _ h => h) (Or.inl ⟨by rfl, ?_⟩) hHeld ?_ ?_
                rotate_left
                · rintro w' ⟨s0, s1⟩
                  go_simp
                  with_reducible rfl
                rotate_left
                · simp only [Act.put, List.setIfInBounds_toArray, List.set_cons_zero, List.set_cons_succ, i64_w, i32_w]
                  rfl
                refine join_ (σ := Option Addr × Nat × Nat × Nat) 7 #[true, true, true, true, true, true, true, true, true, true, true, true, true, true, true, true, true, false, true, true, true, false, false, false, false, false, false] (fun s => [(89, .slice (some ⟨s.2.2.2, 0, none⟩) 0 0), (91, .slice s.1 qs.length s.2.1), (93, .slice (some ⟨s.2.2.1, 0, none⟩) 1 1)]) (fun s w' => Lit_ (World.drew wr) w' s.1 qs s.2.1 s.2.2.1 (-1)) ?_ ?_
                rotate_left
                · intro hCont
                  refine two_ (i := 12) (j := 16) (Ni := some 89) (Nj := some 93) #[true, true, true, true, true, true, true, true, true, true, true, true, true, true, false, true, false, false, true, true, true, false, false, false, false, false, false] #[true, true, true, true, true, true, true, true, true, true, true, true, false, true, false, true, true, false, true, true, true, false, false, false, false, false, false] rfl rfl rfl rfl (by kernel_rfl) (by decide) (by decide) (fun K hK => ?_) (fun K hK => ?_)
                  · skip
                    refine value_ (w1 := ?_) (v := ?_) (by rfl) rfl ?_ ?_
                    rotate_left 2
                    · go_simp
                      constructor
                      · rfl
                      · rfl
                    generalize hqwE : World.drew (World.alloc wr _) = wE
                    have BwE := Aside0.mk (show Below wr.heap.size (World.drew wr) wE from by rw [← hqwE]; exact (below_alloc (Below.refl (World.drew wr).heap.size (World.drew wr)) (.cells #[] 86) : Below (World.drew wr).heap.size (World.drew wr) ((World.drew wr).alloc (.cells #[] 86))))
                    have GwE := Aside0.mk (show wE.heap[wr.heap.size]? = some (.cells #[] 86 (0, 0)) from by rw [← hqwE]; exact (show (wr.alloc (.cells #[] 86)).heap[wr.heap.size]? = _ from ha_at wr _ rfl))
                    clear hqwE
                    refine hK.out _ _ ⟨(cel (w := World.drew wr) BwE.out pt), (cel (w := World.drew wr) BwE.out y2)⟩ (fun hHeld => ?_)
                    clear hK K
                    refine norm_ (a' := ?_) ?_ ?_
                    rotate_left
                    · show Act.put _ (some 89) _ = _
                      simp only [Act.put, List.setIfInBounds_toArray, List.set_cons_zero, List.set_cons_succ, i64_w, i32_w]
                      rfl
                    refine two_ (i := 14) (j := 16) (Ni := some 91) (Nj := some 93) #[true, true, true, true, true, true, true, true, true, true, true, true, true, true, true, true, false, false, true, true, true, false, false, false, false, false, false] #[true, true, true, true, true, true, true, true, true, true, true, true, true, true, false, true, true, false, true, true, true, false, false, false, false, false, false] rfl rfl rfl rfl (by kernel_rfl) (by decide) (by decide) (fun K hK => ?_) (fun K hK => ?_)
                    · skip
                      refine Kd.R_append_rows_step (Kd.int .i8) (w0 := (World.drew wr)) (W := wE) wr.heap.size (by first | assumption | rfl) (.tmp 89) (.tmp 90) 25 86 (.int .i8 0) 1 rfl Try.underlying25 infoC8 rfl (by decide) (by decide) (.slice (some ⟨wr.heap.size, 0, none⟩) 0 0) [] qs Aa qs.length ca T_ (fun _ => False) rfl rfl (empty_R GwE.out (Nat.le_refl _) trivial) (Kd.C_below CA.out (Below.trans (below_drew1 (Below.refl _ _)) BwE.out)) (fun _ _ h => h) (fun _ h => h.elim) (fun _ _ => trivial) BwE.out BwE.out.size (by have := L0.out; simp only [List.length_nil]; omega) ?_
                      intro v3 w3 hR3 hb3 hg3 hat3
                      rw [List.nil_append] at hR3
                      obtain ⟨A3, m3, rfl⟩ := Kd.R_slice hR3
                      have R3 := Aside0.mk hR3
                      have B3 := Aside0.mk hb3
                      clear hR3 hb3 hg3 hat3
                      refine hK.out _ _ ⟨(cel (w := World.drew wr) B3.out pt), (cel (w := World.drew wr) B3.out y2)⟩ (fun hHeld => ?_)
                      clear hK K
                      refine norm_ (a' := ?_) ?_ ?_
                      rotate_left
                      · show Act.put _ (some 91) _ = _
                        simp only [Act.put, List.setIfInBounds_toArray, List.set_cons_zero, List.set_cons_succ, i64_w, i32_w]
                        rfl
                      refine one_ (i := 16) (N := some 93) #[true, true, true, true, true, true, true, true, true, true, true, true, true, true, true, true, true, false, true, true, true, false, false, false, false, false, false] rfl rfl (by kernel_rfl) (by decide) (fun K hK => ?_)
                      refine value_ (w1 := ?_) (v := ?_) (by rfl) rfl ?_ ?_
                      rotate_left 2
                      · go_simp
                        constructor
                        · rfl
                        · rfl
                      refine hK.out _ _ ⟨(cel (w := World.drew wr) (below_alloc B3.out _) pt), (cel (w := World.drew wr) (below_alloc B3.out _) y2)⟩ (fun hHeld => ?_)
                      clear hK K
                      refine norm_ (a' := ?_) ?_ ?_
                      rotate_left
                      · show Act.put _ (some 93) _ = _
                        simp only [Act.put, List.setIfInBounds_toArray, List.set_cons_zero, List.set_cons_succ, i64_w, i32_w]
                        rfl
                      exact norm_ (by simp only [putAll, Act.put, List.setIfInBounds_toArray, List.set_cons_zero, List.set_cons_succ]) (hCont (A3, m3, w3.heap.size, wr.heap.size) _ (Lit_after (wp := (World.drew wr)) (-1) R3.out B3.out))
                    · skip
                      refine value_ (w1 := ?_) (v := ?_) (by rfl) rfl ?_ ?_
                      rotate_left 2
                      · go_simp
                        constructor
                        · rfl
                        · rfl
                      generalize hqwL : World.alloc wE _ = wL
                      have BwL := Aside0.mk (show Below wr.heap.size (World.drew wr) wL from by rw [← hqwL]; exact below_alloc (show Below (World.drew wr).heap.size (World.drew wr) wE from BwE.out) _)
                      have GwL := Aside0.mk (show wL.heap[wE.heap.size]? = some (.cells #[.int .i8 (-1)] 86 (0, 0)) from by rw [← hqwL]; exact ha_at wE _ rfl)
                      have HwL := Aside0.mk (show wL.heap[wr.heap.size]? = wE.heap[wr.heap.size]? from by rw [← hqwL]; exact Below.heap_alloc wE _ _ (blk_lt_ GwE.out))
                      clear hqwL
                      refine hK.out _ _ ⟨(cel (w := World.drew wr) BwL.out pt), (cel (w := World.drew wr) BwL.out y2)⟩ (fun hHeld => ?_)
                      clear hK K
                      refine norm_ (a' := ?_) ?_ ?_
                      rotate_left
                      · show Act.put _ (some 93) _ = _
                        simp only [Act.put, List.setIfInBounds_toArray, List.set_cons_zero, List.set_cons_succ, i64_w, i32_w]
                        rfl
                      refine one_ (i := 14) (N := some 91) #[true, true, true, true, true, true, true, true, true, true, true, true, true, true, true, true, true, false, true, true, true, false, false, false, false, false, false] rfl rfl (by kernel_rfl) (by decide) (fun K hK => ?_)
                      refine Kd.R_append_rows_step (Kd.int .i8) (w0 := (World.drew wr)) (W := wL) wr.heap.size (by first | assumption | rfl) (.tmp 89) (.tmp 90) 25 86 (.int .i8 0) 1 rfl Try.underlying25 infoC8 rfl (by decide) (by decide) (.slice (some ⟨wr.heap.size, 0, none⟩) 0 0) [] qs Aa qs.length ca (fun k => k ≠ wE.heap.size) (fun _ => False) rfl rfl (empty_R (HwL.out.trans GwE.out) (Nat.le_refl _) (by have := blk_lt_ GwE.out; omega)) (Kd.C_below CA.out (Below.trans (below_drew1 (Below.refl _ _)) BwL.out)) (fun _ _ h => h) (fun _ h => h.elim) (fun k hk => by have := blk_lt_ GwL.out; omega) BwL.out BwL.out.size (by have := L0.out; simp only [List.length_nil]; omega) ?_
                      intro v3 w3 hR3 hb3 hg3 hat3
                      rw [List.nil_append] at hR3
                      obtain ⟨A3, m3, rfl⟩ := Kd.R_slice hR3
                      have hL3 := Aside0.mk (show Lit_ (World.drew wr) w3 A3 qs m3 wE.heap.size (-1) from ⟨hR3, lit_keep GwL.out hg3 (by have := blk_lt_ GwE.out; simp [Value.ownBlock]; omega), BwE.out.size, hb3⟩)
                      clear hR3 hb3 hg3 hat3
                      refine hK.out _ _ ⟨(cel (w := World.drew wr) hL3.out.2.2.2 pt), (cel (w := World.drew wr) hL3.out.2.2.2 y2)⟩ (fun hHeld => ?_)
                      clear hK K
                      refine norm_ (a' := ?_) ?_ ?_
                      rotate_left
                      · show Act.put _ (some 91) _ = _
                        simp only [Act.put, List.setIfInBounds_toArray, List.set_cons_zero, List.set_cons_succ, i64_w, i32_w]
                        rfl
                      exact norm_ (by simp only [putAll, Act.put, List.setIfInBounds_toArray, List.set_cons_zero, List.set_cons_succ]) (hCont (A3, m3, wE.heap.size, wr.heap.size) _ hL3.out)
                  · skip
                    refine value_ (w1 := ?_) (v := ?_) (by rfl) rfl ?_ ?_
                    rotate_left 2
                    · go_simp
                      constructor
                      · rfl
                      · rfl
                    generalize hqwL : World.drew (World.alloc wr _) = wL
                    have BwL := Aside0.mk (show Below wr.heap.size (World.drew wr) wL from by rw [← hqwL]; exact (below_alloc (Below.refl (World.drew wr).heap.size (World.drew wr)) (.cells #[.int .i8 (-1)] 86) : Below (World.drew wr).heap.size (World.drew wr) ((World.drew wr).alloc (.cells #[.int .i8 (-1)] 86))))
                    have GwL := Aside0.mk (show wL.heap[wr.heap.size]? = some (.cells #[.int .i8 (-1)] 86 (0, 0)) from by rw [← hqwL]; exact (show (wr.alloc (.cells #[.int .i8 (-1)] 86)).heap[wr.heap.size]? = _ from ha_at wr _ rfl))
                    clear hqwL
                    refine hK.out _ _ ⟨(cel (w := World.drew wr) BwL.out pt), (cel (w := World.drew wr) BwL.out y2)⟩ (fun hHeld => ?_)
                    clear hK K
                    refine norm_ (a' := ?_) ?_ ?_
                    rotate_left
                    · show Act.put _ (some 93) _ = _
                      simp only [Act.put, List.setIfInBounds_toArray, List.set_cons_zero, List.set_cons_succ, i64_w, i32_w]
                      rfl
                    refine one_ (i := 12) (N := some 89) #[true, true, true, true, true, true, true, true, true, true, true, true, true, true, false, true, true, false, true, true, true, false, false, false, false, false, false] rfl rfl (by kernel_rfl) (by decide) (fun K hK => ?_)
                    refine value_ (w1 := ?_) (v := ?_) (by rfl) rfl ?_ ?_
                    rotate_left 2
                    · go_simp
                      constructor
                      · rfl
                      · rfl
                    generalize hqwE : World.alloc wL _ = wE
                    have BwE := Aside0.mk (show Below wr.heap.size (World.drew wr) wE from by rw [← hqwE]; exact below_alloc (show Below (World.drew wr).heap.size (World.drew wr) wL from BwL.out) _)
                    have GwE := Aside0.mk (show wE.heap[wL.heap.size]? = some (.cells #[] 86 (0, 0)) from by rw [← hqwE]; exact ha_at wL _ rfl)
                    have HwE := Aside0.mk (show wE.heap[wr.heap.size]? = wL.heap[wr.heap.size]? from by rw [← hqwE]; exact Below.heap_alloc wL _ _ (blk_lt_ GwL.out))
                    clear hqwE
                    refine hK.out _ _ ⟨(cel (w := World.drew wr) BwE.out pt), (cel (w := World.drew wr) BwE.out y2)⟩ (fun hHeld => ?_)
                    clear hK K
                    refine norm_ (a' := ?_) ?_ ?_
                    rotate_left
                    · show Act.put _ (some 89) _ = _
                      simp only [Act.put, List.setIfInBounds_toArray, List.set_cons_zero, List.set_cons_succ, i64_w, i32_w]
                      rfl
                    refine one_ (i := 14) (N := some 91) #[true, true, true, true, true, true, true, true, true, true, true, true, true, true, true, true, true, false, true, true, true, false, false, false, false, false, false] rfl rfl (by kernel_rfl) (by decide) (fun K hK => ?_)
                    refine Kd.R_append_rows_step (Kd.int .i8) (w0 := (World.drew wr)) (W := wE) wr.heap.size (by first | assumption | rfl) (.tmp 89) (.tmp 90) 25 86 (.int .i8 0) 1 rfl Try.underlying25 infoC8 rfl (by decide) (by decide) (.slice (some ⟨wL.heap.size, 0, none⟩) 0 0) [] qs Aa qs.length ca (fun k => k ≠ wr.heap.size) (fun _ => False) rfl rfl (empty_R GwE.out BwL.out.size (by have := blk_lt_ GwL.out; omega)) (Kd.C_below CA.out (Below.trans (below_drew1 (Below.refl _ _)) BwE.out)) (fun _ _ h => h) (fun _ h => h.elim) (fun k hk => by have := blk_lt_ (HwE.out.trans GwL.out); omega) BwE.out BwE.out.size (by have := L0.out; simp only [List.length_nil]; omega) ?_
                    intro v3 w3 hR3 hb3 hg3 hat3
                    rw [List.nil_append] at hR3
                    obtain ⟨A3, m3, rfl⟩ := Kd.R_slice hR3
                    have hL3 := Aside0.mk (show Lit_ (World.drew wr) w3 A3 qs m3 wr.heap.size (-1) from ⟨hR3, lit_keep (HwE.out.trans GwL.out) hg3 (by have := blk_lt_ GwL.out; simp [Value.ownBlock]; omega), Nat.le_refl _, hb3⟩)
                    clear hR3 hb3 hg3 hat3
                    refine hK.out _ _ ⟨(cel (w := World.drew wr) hL3.out.2.2.2 pt), (cel (w := World.drew wr) hL3.out.2.2.2 y2)⟩ (fun hHeld => ?_)
                    clear hK K
                    refine norm_ (a' := ?_) ?_ ?_
                    rotate_left
                    · show Act.put _ (some 91) _ = _
                      simp only [Act.put, List.setIfInBounds_toArray, List.set_cons_zero, List.set_cons_succ, i64_w, i32_w]
                      rfl
                    exact norm_ (by simp only [putAll, Act.put, List.setIfInBounds_toArray, List.set_cons_zero, List.set_cons_succ]) (hCont (A3, m3, wr.heap.size, wL.heap.size) _ hL3.out)
                rintro ⟨A5, m5, kb, ke⟩ w5 hL5
                replace hL5 : Lit_ (World.drew wr) w5 A5 qs m5 kb (-1) := hL5
                have L5 := Aside0.mk hL5
                clear hL5
                have hHeld : w5.cell? tp = some (.slice (some ad0) l.length c0) ∧ w5.cell? ⟨(Addr.add ad0 (a'.toNat * 5)).block, (Addr.add ad0 (a'.toNat * 5)).off + 2, none⟩ = some (.int .i16 X2) := ⟨(cel (w := World.drew wr) L5.out.2.2.2 pt), (cel (w := World.drew wr) L5.out.2.2.2 y2)⟩
                refine norm_ (a' := ?_) ?_ ?_
                rotate_left
                · simp only [putAll, Act.put, List.setIfInBounds_toArray, List.set_cons_zero, List.set_cons_succ]
                  rfl
                refine one_ (i := 17) (N := some 94) #[true, true, true, true, true, true, true, true, true, true, true, true, true, true, true, true, true, true, true, true, true, false, false, false, false, false, false] rfl rfl (by kernel_rfl) (by decide) (fun K hK => ?_)
                refine Kd.R_append_rows_step (Kd.int .i8) (w0 := (World.drew wr)) (W := w5) wr.heap.size (by first | assumption | rfl) (.tmp 91) (.tmp 93) 25 86 (.int .i8 0) 1 rfl Try.underlying25 infoC8 rfl (by decide) (by decide) (.slice A5 qs.length m5) qs [(-1)] (some ⟨kb, 0, none⟩) 1 1 (fun k => k ≠ kb) (fun _ => False) rfl rfl L5.out.1 (one_C L5.out.2.1) (fun _ _ h => h) (fun _ h => h.elim) (fun k hk => by have := blk_lt_ L5.out.2.1; omega) L5.out.2.2.2 L5.out.2.2.2.size (by have := L0.out; omega) ?_
                intro v6 w6 hR6 hb6 hg6 hat6
                obtain ⟨A6, m6, rfl⟩ := Kd.R_slice hR6
                have R6 := Aside0.mk (Kd.R_lower (Kd.R_mono (ok' := T_) hR6 (fun _ _ => trivial)) SP.out)
                have B6 := Aside0.mk hb6
                have BB6 := Aside0.mk (BP.out.trans ((Below.trans (below_drew1 (Below.refl _ _)) hb6).mono SP.out))
                have K6 := Aside0.mk (Ks.below (T := [151]) (Below.trans (below_drew1 (Below.refl _ _)) hb6 : Below wr.heap.size wr w6))
                clear hR6 hb6 hg6 hat6 L5
                refine hK.out _ _ ⟨(cel (w := World.drew wr) B6.out pt), (cel (w := World.drew wr) B6.out y2)⟩ (fun hHeld => ?_)
                clear hK K
                refine norm_ (a' := ?_) ?_ ?_
                rotate_left
                · show Act.put _ (some 94) _ = _
                  simp only [Act.put, List.setIfInBounds_toArray, List.set_cons_zero, List.set_cons_succ, i64_w, i32_w]
                  rfl
                refine last_ (i := 21) (N := some 98) #[true, true, true, true, true, true, true, true, true, true, true, true, true, true, true, true, true, true, true, true, true, true, false, false, false, false, false] rfl rfl (by kernel_rfl) (by decide) (fun K hK => ?_)
                refine goes_ Try.func138 (by kernel_rfl) rfl #[.pointer (some tp), .int .i16 X2, .slice A6 (qs ++ [(-1)]).length m6, .slice Bt ts'.length bt, .int .i64 n, .slice Au o.length cu] (by rfl) rfl rfl (by simp only [List.map_toArray, List.map_cons, List.map_nil]; rfl) ?_
                with_reducible refine (HREC.out o X2 (-1) ts' (t1, false) (.slice Au o.length cu) (.slice A6 (qs ++ [(-1)]).length m6) (.slice Bt ts'.length bt) w6 HT_.out (Kd.S_below RO.out (Below.trans (below_drew1 (Below.refl _ _)) B6.out)) R6.out (Kd.R_below RT.out (Below.trans (below_drew1 (Below.refl _ _)) B6.out)) BB6.out).mono ?_
                rintro e w7 ⟨v7, rfl, hR7, hb7, hk7, hs7⟩
                refine ⟨_, rfl, ?_⟩
                have B7 := Aside0.mk hb7
                have J7 := Aside0.mk (K6.out.trans hk7)
                have K7 := Aside0.mk (KP.out.trans J7.out)
                clear hR7 hb7 hk7 hs7
                refine hK.out _ _ ?_
                clear hK K
                refine norm_ (a' := ?_) ?_ ?_
                rotate_left
                · show Act.put _ (some 98) _ = _
                  simp only [Act.put, List.setIfInBounds_toArray, List.set_cons_zero, List.set_cons_succ, i64_w, i32_w]
                  rfl
                refine pure_ (i := 22) (N := some 76) (v := ?_) (a' := ?_) #[true, true, true, true, true, true, true, true, true, true, true, true, true, true, true, true, true, true, true, true, true, true, true, false, false, false, false] rfl rfl (by kernel_rfl) (fun _ _ _ h => h) (Or.inl ⟨by rfl, ?_⟩) ?_ ?_
                rotate_left
                · intro w'
                  go_simp
                  with_reducible rfl
                rotate_left
                · simp only [Act.put, List.setIfInBounds_toArray, List.set_cons_zero, List.set_cons_succ, i64_w, i32_w]
                  rfl
                refine pure_ (i := 23) (N := some 99) (v := ?_) (a' := ?_) #[true, true, true, true, true, true, true, true, true, true, true, true, true, true, true, true, true, true, true, true, true, true, true, true, false, false, false] rfl rfl (by kernel_rfl) (fun _ _ _ h => h) (Or.inl ⟨by rfl, ?_⟩) ?_ ?_
                rotate_left
                · intro w'
                  go_simp
                  with_reducible rfl
                rotate_left
                · simp only [Act.put, List.setIfInBounds_toArray, List.set_cons_zero, List.set_cons_succ, i64_w, i32_w]
                  rfl
                refine pure_ (i := 24) (N := some 100) (v := ?_) (a' := ?_) #[true, true, true, true, true, true, true, true, true, true, true, true, true, true, true, true, true, true, true, true, true, true, true, true, true, false, false] rfl rfl (by kernel_rfl) (fun _ _ _ h => h) (Or.inl ⟨by rfl, ?_⟩) ?_ ?_
                rotate_left
                · intro w'
                  go_simp
                  with_reducible rfl
                rotate_left
                · simp only [Act.put, List.setIfInBounds_toArray, List.set_cons_zero, List.set_cons_succ, i64_w, i32_w]
                  rfl
                refine pure_ (i := 25) (N := some 15) (v := ?_) (a' := ?_) #[true, true, true, true, true, true, true, true, true, true, true, true, true, true, true, true, true, true, true, true, true, true, true, true, true, true, false] rfl rfl (by kernel_rfl) (fun _ _ _ h => h) (Or.inl ⟨by rfl, ?_⟩) ?_ ?_
                rotate_left
                · intro w'
                  go_simp
                  with_reducible rfl
                rotate_left
                · simp only [Act.put, List.setIfInBounds_toArray, List.set_cons_zero, List.set_cons_succ, i64_w, i32_w]
                  rfl
                refine pure_ (i := 26) (N := some 16) (v := ?_) (a' := ?_) #[true, true, true, true, true, true, true, true, true, true, true, true, true, true, true, true, true, true, true, true, true, true, true, true, true, true, true] rfl rfl (by kernel_rfl) (fun _ _ _ h => h) (Or.inl ⟨by rfl, ?_⟩) ?_ ?_
                rotate_left
                · intro w'
                  go_simp
                  with_reducible rfl
                rotate_left
                · simp only [Act.put, List.setIfInBounds_toArray, List.set_cons_zero, List.set_cons_succ, i64_w, i32_w]
                  rfl
                refine done_ (by kernel_rfl) ?_
                go_wp2
                go_ret2
                exact ⟨_, rfl, fun h_ => absurd h_ (by decide), B7.out, K7.out, K7.out.1⟩
            · have HJ := HS.out
              rw [show (waysI ⟨X0, X1, ⟨X2, X3, X4⟩⟩).drop 1 = (0, X3) :: (waysI ⟨X0, X1, ⟨X2, X3, X4⟩⟩).drop 2 from rfl, restI_cons] at HJ
              obtain ⟨⟨t1, t2⟩, ht1, HJ⟩ := Option.bind_eq_some_iff.mp HJ
              have HT_ := Aside0.mk ht1
              clear ht1 HS
              cases t2 with
              | true =>
                have HS := Aside0.mk (show restI (fun o b q => rec o b q ts') qs ((waysI ⟨X0, X1, ⟨X2, X3, X4⟩⟩).drop 2) t1 = some (r1, r2) from HJ)
                clear HJ
                go_wp2
                refine start_ (n := 27) (S := fun w' => w'.cell? tp = some (.slice (some ad0) l.length c0) ∧ w'.cell? ⟨(Addr.add ad0 (a'.toNat * 5)).block, (Addr.add ad0 (a'.toNat * 5)).off + 3, none⟩ = some (.int .i16 X3)) (ds := [21]) #[false, false, false, false, false, false, false, false, false, false, false, false, false, false, false, false, false, false, false, false, false, false, false, false, false, false, false] (by kernel_rfl) rfl rfl ⟨pt, y3⟩ (fun hHeld => ?_)
                refine pure_ (i := 0) (N := some 77) (v := ?_) (a' := ?_) #[true, false, false, false, false, false, false, false, false, false, false, false, false, false, false, false, false, false, false, false, false, false, false, false, false, false, false] rfl rfl (by kernel_rfl) (fun _ _ _ h => h) (Or.inl ⟨by rfl, ?_⟩) ?_ ?_
                rotate_left
                · intro w'
                  go_simp
                  with_reducible rfl
                rotate_left
                · simp only [Act.put, List.setIfInBounds_toArray, List.set_cons_zero, List.set_cons_succ, i64_w, i32_w]
                  rfl
                refine pure_ (i := 1) (N := some 78) (v := ?_) (a' := ?_) #[true, true, false, false, false, false, false, false, false, false, false, false, false, false, false, false, false, false, false, false, false, false, false, false, false, false, false] rfl rfl (by kernel_rfl) (fun _ _ _ h => h) (Or.inl ⟨by rfl, ?_⟩) ?_ ?_
                rotate_left
                · intro w'
                  go_simp
                  with_reducible rfl
                rotate_left
                · simp only [Act.put, List.setIfInBounds_toArray, List.set_cons_zero, List.set_cons_succ, i64_w, i32_w]
                  rfl
                refine pure_ (i := 2) (N := some 79) (v := ?_) (a' := ?_) #[true, true, true, false, false, false, false, false, false, false, false, false, false, false, false, false, false, false, false, false, false, false, false, false, false, false, false] rfl rfl (by kernel_rfl) (fun _ _ _ h => h) (Or.inl ⟨by rfl, ?_⟩) ?_ ?_
                rotate_left
                · intro w'
                  go_simp
                  with_reducible rfl
                rotate_left
                · simp only [Act.put, List.setIfInBounds_toArray, List.set_cons_zero, List.set_cons_succ, i64_w, i32_w]
                  rfl
                refine pure_ (i := 3) (N := some 80) (v := ?_) (a' := ?_) #[true, true, true, true, false, false, false, false, false, false, false, false, false, false, false, false, false, false, false, false, false, false, false, false, false, false, false] rfl rfl (by kernel_rfl) (fun _ _ _ h => h) (Or.inl ⟨by rfl, ?_⟩) ?_ ?_
                rotate_left
                · intro w'
                  go_simp
                  with_reducible rfl
                rotate_left
                · simp only [Act.put, List.setIfInBounds_toArray, List.set_cons_zero, List.set_cons_succ, i64_w, i32_w]
                  rfl
                refine pure_ (i := 5) (N := some 82) (v := ?_) (a' := ?_) #[true, true, true, true, false, true, false, false, false, false, false, false, false, false, false, false, false, false, false, false, false, false, false, false, false, false, false] rfl rfl (by kernel_rfl) (fun _ _ _ h => h) (Or.inl ⟨by rfl, ?_⟩) ?_ ?_
                rotate_left
                · intro w'
                  go_simp
                  with_reducible rfl
                rotate_left
                · simp only [Act.put, List.setIfInBounds_toArray, List.set_cons_zero, List.set_cons_succ, i64_w, i32_w]
                  rfl
                refine pure_ (i := 6) (N := some 83) (v := ?_) (a' := ?_) #[true, true, true, true, false, true, true, false, false, false, false, false, false, false, false, false, false, false, false, false, false, false, false, false, false, false, false] rfl rfl (by kernel_rfl) (fun _ _ _ h => h) (Or.inl ⟨by rfl, ?_⟩) ?_ ?_
                rotate_left
                · intro w'
                  go_simp
                  with_reducible rfl
                rotate_left
                · simp only [Act.put, List.setIfInBounds_toArray, List.set_cons_zero, List.set_cons_succ, i64_w, i32_w]
                  rfl
                refine pure_ (i := 7) (N := some 84) (v := ?_) (a' := ?_) #[true, true, true, true, false, true, true, true, false, false, false, false, false, false, false, false, false, false, false, false, false, false, false, false, false, false, false] rfl rfl (by kernel_rfl) (fun _ _ _ h => h) (Or.inl ⟨by rfl, ?_⟩) ?_ ?_
                rotate_left
                · intro w'
                  go_simp
                  with_reducible rfl
                rotate_left
                · simp only [Act.put, List.setIfInBounds_toArray, List.set_cons_zero, List.set_cons_succ, i64_w, i32_w]
                  rfl
                refine pure_ (i := 13) (N := some 90) (v := ?_) (a' := ?_) #[true, true, true, true, false, true, true, true, false, false, false, false, false, true, false, false, false, false, false, false, false, false, false, false, false, false, false] rfl rfl (by kernel_rfl) (fun _ _ _ h => h) (Or.inl ⟨by rfl, ?_⟩) ?_ ?_
                rotate_left
                · intro w'
                  go_simp
                  with_reducible rfl
                rotate_left
                · simp only [Act.put, List.setIfInBounds_toArray, List.set_cons_zero, List.set_cons_succ, i64_w, i32_w]
                  rfl
                refine pure_ (i := 15) (N := some 92) (v := ?_) (a' := ?_) #[true, true, true, true, false, true, true, true, false, false, false, false, false, true, false, true, false, false, false, false, false, false, false, false, false, false, false] rfl rfl (by kernel_rfl) (fun _ _ _ h => h) (Or.inl ⟨by rfl, ?_⟩) ?_ ?_
                rotate_left
                · intro w'
                  go_simp
                  with_reducible rfl
                rotate_left
                · simp only [Act.put, List.setIfInBounds_toArray, List.set_cons_zero, List.set_cons_succ, i64_w, i32_w]
                  rfl
                refine pure_ (i := 18) (N := some 95) (v := ?_) (a' := ?_) #[true, true, true, true, false, true, true, true, false, false, false, false, false, true, false, true, false, false, true, false, false, false, false, false, false, false, false] rfl rfl (by kernel_rfl) (fun _ _ _ h => h) (Or.inl ⟨by rfl, ?_⟩) ?_ ?_
                rotate_left
                · intro w'
                  go_simp
                  with_reducible rfl
                rotate_left
                · simp only [Act.put, List.setIfInBounds_toArray, List.set_cons_zero, List.set_cons_succ, i64_w, i32_w]
                  rfl
                refine pure_ (i := 19) (N := some 96) (v := ?_) (a' := ?_) #[true, true, true, true, false, true, true, true, false, false, false, false, false, true, false, true, false, false, true, true, false, false, false, false, false, false, false] rfl rfl (by kernel_rfl) (fun _ _ _ h => h) (Or.inl ⟨by rfl, ?_⟩) ?_ ?_
                rotate_left
                · intro w'
                  go_simp
                  with_reducible rfl
                rotate_left
                · simp only [Act.put, List.setIfInBounds_toArray, List.set_cons_zero, List.set_cons_succ, i64_w, i32_w]
                  rfl
                refine pure_ (i := 20) (N := some 97) (v := ?_) (a' := ?_) #[true, true, true, true, false, true, true, true, false, false, false, false, false, true, false, true, false, false, true, true, true, false, false, false, false, false, false] rfl rfl (by kernel_rfl) (fun _ _ _ h => h) (Or.inl ⟨by rfl, ?_⟩) ?_ ?_
                rotate_left
                · intro w'
                  go_simp
                  with_reducible rfl
                rotate_left
                · simp only [Act.put, List.setIfInBounds_toArray, List.set_cons_zero, List.set_cons_succ, i64_w, i32_w]
                  rfl
                refine take_ (i := 4) (N := some 81) (v := ?_) (a' := ?_) #[true, true, true, true, true, true, true, true, false, false, false, false, false, true, false, true, false, false, true, true, true, false, false, false, false, false, false] rfl rfl (by kernel_rfl) (fun _ _ _ h => h) (Or.inl ⟨by rfl, ?_⟩) hHeld ?_ ?_
                rotate_left
                · rintro w' ⟨s0, s1⟩
                  go_simp
                  with_reducible rfl
                rotate_left
                · simp only [Act.put, List.setIfInBounds_toArray, List.set_cons_zero, List.set_cons_succ, i64_w, i32_w]
                  rfl
                refine pure_ (i := 8) (N := some 85) (v := ?_) (a' := ?_) #[true, true, true, true, true, true, true, true, true, false, false, false, false, true, false, true, false, false, true, true, true, false, false, false, false, false, false] rfl rfl (by kernel_rfl) (fun _ _ _ h => h) (Or.inl ⟨by rfl, ?_⟩) ?_ ?_
                rotate_left
                · intro w'
                  go_simp
                  with_reducible rfl
                rotate_left
                · simp only [Act.put, List.setIfInBounds_toArray, List.set_cons_zero, List.set_cons_succ, i64_w, i32_w]
                  rfl
                refine pure_ (i := 9) (N := some 86) (v := ?_) (a' := ?_) #[true, true, true, true, true, true, true, true, true, true, false, false, false, true, false, true, false, false, true, true, true, false, false, false, false, false, false] rfl rfl (by kernel_rfl) (fun _ _ _ h => h) (Or.inl ⟨by rfl, ?_⟩) ?_ ?_
                rotate_left
                · intro w'
                  go_simp
                  with_reducible rfl
                rotate_left
                · simp only [Act.put, List.setIfInBounds_toArray, List.set_cons_zero, List.set_cons_succ, i64_w, i32_w]
                  rfl
                refine pure_ (i := 10) (N := some 87) (v := ?_) (a' := ?_) #[true, true, true, true, true, true, true, true, true, true, true, false, false, true, false, true, false, false, true, true, true, false, false, false, false, false, false] rfl rfl (by kernel_rfl) (fun _ _ _ h => h) (Or.inl ⟨by rfl, ?_⟩) ?_ ?_
                rotate_left
                · intro w'
                  go_simp
                  with_reducible rfl
                rotate_left
                · simp only [Act.put, List.setIfInBounds_toArray, List.set_cons_zero, List.set_cons_succ, i64_w, i32_w]
                  rfl
                refine take_ (i := 11) (N := some 88) (v := ?_) (a' := ?_) #[true, true, true, true, true, true, true, true, true, true, true, true, false, true, false, true, false, false, true, true, true, false, false, false, false, false, false] rfl rfl (by kernel_rfl) (fun _ _ _ h => h) (Or.inl ⟨by rfl, ?_⟩) hHeld ?_ ?_
                rotate_left
                · rintro w' ⟨s0, s1⟩
                  go_simp
                  with_reducible rfl
                rotate_left
                · simp only [Act.put, List.setIfInBounds_toArray, List.set_cons_zero, List.set_cons_succ, i64_w, i32_w]
                  rfl
                refine join_ (σ := Option Addr × Nat × Nat × Nat) 7 #[true, true, true, true, true, true, true, true, true, true, true, true, true, true, true, true, true, false, true, true, true, false, false, false, false, false, false] (fun s => [(89, .slice (some ⟨s.2.2.2, 0, none⟩) 0 0), (91, .slice s.1 qs.length s.2.1), (93, .slice (some ⟨s.2.2.1, 0, none⟩) 1 1)]) (fun s w' => Lit_ (World.drew wr) w' s.1 qs s.2.1 s.2.2.1 0) ?_ ?_
                rotate_left
                · intro hCont
                  refine two_ (i := 12) (j := 16) (Ni := some 89) (Nj := some 93) #[true, true, true, true, true, true, true, true, true, true, true, true, true, true, false, true, false, false, true, true, true, false, false, false, false, false, false] #[true, true, true, true, true, true, true, true, true, true, true, true, false, true, false, true, true, false, true, true, true, false, false, false, false, false, false] rfl rfl rfl rfl (by kernel_rfl) (by decide) (by decide) (fun K hK => ?_) (fun K hK => ?_)
                  · skip
                    refine value_ (w1 := ?_) (v := ?_) (by rfl) rfl ?_ ?_
                    rotate_left 2
                    · go_simp
                      constructor
                      · rfl
                      · rfl
                    generalize hqwE : World.drew (World.alloc wr _) = wE
                    have BwE := Aside0.mk (show Below wr.heap.size (World.drew wr) wE from by rw [← hqwE]; exact (below_alloc (Below.refl (World.drew wr).heap.size (World.drew wr)) (.cells #[] 86) : Below (World.drew wr).heap.size (World.drew wr) ((World.drew wr).alloc (.cells #[] 86))))
                    have GwE := Aside0.mk (show wE.heap[wr.heap.size]? = some (.cells #[] 86 (0, 0)) from by rw [← hqwE]; exact (show (wr.alloc (.cells #[] 86)).heap[wr.heap.size]? = _ from ha_at wr _ rfl))
                    clear hqwE
                    refine hK.out _ _ ⟨(cel (w := World.drew wr) BwE.out pt), (cel (w := World.drew wr) BwE.out y3)⟩ (fun hHeld => ?_)
                    clear hK K
                    refine norm_ (a' := ?_) ?_ ?_
                    rotate_left
                    · show Act.put _ (some 89) _ = _
                      simp only [Act.put, List.setIfInBounds_toArray, List.set_cons_zero, List.set_cons_succ, i64_w, i32_w]
                      rfl
                    refine two_ (i := 14) (j := 16) (Ni := some 91) (Nj := some 93) #[true, true, true, true, true, true, true, true, true, true, true, true, true, true, true, true, false, false, true, true, true, false, false, false, false, false, false] #[true, true, true, true, true, true, true, true, true, true, true, true, true, true, false, true, true, false, true, true, true, false, false, false, false, false, false] rfl rfl rfl rfl (by kernel_rfl) (by decide) (by decide) (fun K hK => ?_) (fun K hK => ?_)
                    · skip
                      refine Kd.R_append_rows_step (Kd.int .i8) (w0 := (World.drew wr)) (W := wE) wr.heap.size (by first | assumption | rfl) (.tmp 89) (.tmp 90) 25 86 (.int .i8 0) 1 rfl Try.underlying25 infoC8 rfl (by decide) (by decide) (.slice (some ⟨wr.heap.size, 0, none⟩) 0 0) [] qs Aa qs.length ca T_ (fun _ => False) rfl rfl (empty_R GwE.out (Nat.le_refl _) trivial) (Kd.C_below CA.out (Below.trans (below_drew1 (Below.refl _ _)) BwE.out)) (fun _ _ h => h) (fun _ h => h.elim) (fun _ _ => trivial) BwE.out BwE.out.size (by have := L0.out; simp only [List.length_nil]; omega) ?_
                      intro v3 w3 hR3 hb3 hg3 hat3
                      rw [List.nil_append] at hR3
                      obtain ⟨A3, m3, rfl⟩ := Kd.R_slice hR3
                      have R3 := Aside0.mk hR3
                      have B3 := Aside0.mk hb3
                      clear hR3 hb3 hg3 hat3
                      refine hK.out _ _ ⟨(cel (w := World.drew wr) B3.out pt), (cel (w := World.drew wr) B3.out y3)⟩ (fun hHeld => ?_)
                      clear hK K
                      refine norm_ (a' := ?_) ?_ ?_
                      rotate_left
                      · show Act.put _ (some 91) _ = _
                        simp only [Act.put, List.setIfInBounds_toArray, List.set_cons_zero, List.set_cons_succ, i64_w, i32_w]
                        rfl
                      refine one_ (i := 16) (N := some 93) #[true, true, true, true, true, true, true, true, true, true, true, true, true, true, true, true, true, false, true, true, true, false, false, false, false, false, false] rfl rfl (by kernel_rfl) (by decide) (fun K hK => ?_)
                      refine value_ (w1 := ?_) (v := ?_) (by rfl) rfl ?_ ?_
                      rotate_left 2
                      · go_simp
                        constructor
                        · rfl
                        · rfl
                      refine hK.out _ _ ⟨(cel (w := World.drew wr) (below_alloc B3.out _) pt), (cel (w := World.drew wr) (below_alloc B3.out _) y3)⟩ (fun hHeld => ?_)
                      clear hK K
                      refine norm_ (a' := ?_) ?_ ?_
                      rotate_left
                      · show Act.put _ (some 93) _ = _
                        simp only [Act.put, List.setIfInBounds_toArray, List.set_cons_zero, List.set_cons_succ, i64_w, i32_w]
                        rfl
                      exact norm_ (by simp only [putAll, Act.put, List.setIfInBounds_toArray, List.set_cons_zero, List.set_cons_succ]) (hCont (A3, m3, w3.heap.size, wr.heap.size) _ (Lit_after (wp := (World.drew wr)) 0 R3.out B3.out))
                    · skip
                      refine value_ (w1 := ?_) (v := ?_) (by rfl) rfl ?_ ?_
                      rotate_left 2
                      · go_simp
                        constructor
                        · rfl
                        · rfl
                      generalize hqwL : World.alloc wE _ = wL
                      have BwL := Aside0.mk (show Below wr.heap.size (World.drew wr) wL from by rw [← hqwL]; exact below_alloc (show Below (World.drew wr).heap.size (World.drew wr) wE from BwE.out) _)
                      have GwL := Aside0.mk (show wL.heap[wE.heap.size]? = some (.cells #[.int .i8 0] 86 (0, 0)) from by rw [← hqwL]; exact ha_at wE _ rfl)
                      have HwL := Aside0.mk (show wL.heap[wr.heap.size]? = wE.heap[wr.heap.size]? from by rw [← hqwL]; exact Below.heap_alloc wE _ _ (blk_lt_ GwE.out))
                      clear hqwL
                      refine hK.out _ _ ⟨(cel (w := World.drew wr) BwL.out pt), (cel (w := World.drew wr) BwL.out y3)⟩ (fun hHeld => ?_)
                      clear hK K
                      refine norm_ (a' := ?_) ?_ ?_
                      rotate_left
                      · show Act.put _ (some 93) _ = _
                        simp only [Act.put, List.setIfInBounds_toArray, List.set_cons_zero, List.set_cons_succ, i64_w, i32_w]
                        rfl
                      refine one_ (i := 14) (N := some 91) #[true, true, true, true, true, true, true, true, true, true, true, true, true, true, true, true, true, false, true, true, true, false, false, false, false, false, false] rfl rfl (by kernel_rfl) (by decide) (fun K hK => ?_)
                      refine Kd.R_append_rows_step (Kd.int .i8) (w0 := (World.drew wr)) (W := wL) wr.heap.size (by first | assumption | rfl) (.tmp 89) (.tmp 90) 25 86 (.int .i8 0) 1 rfl Try.underlying25 infoC8 rfl (by decide) (by decide) (.slice (some ⟨wr.heap.size, 0, none⟩) 0 0) [] qs Aa qs.length ca (fun k => k ≠ wE.heap.size) (fun _ => False) rfl rfl (empty_R (HwL.out.trans GwE.out) (Nat.le_refl _) (by have := blk_lt_ GwE.out; omega)) (Kd.C_below CA.out (Below.trans (below_drew1 (Below.refl _ _)) BwL.out)) (fun _ _ h => h) (fun _ h => h.elim) (fun k hk => by have := blk_lt_ GwL.out; omega) BwL.out BwL.out.size (by have := L0.out; simp only [List.length_nil]; omega) ?_
                      intro v3 w3 hR3 hb3 hg3 hat3
                      rw [List.nil_append] at hR3
                      obtain ⟨A3, m3, rfl⟩ := Kd.R_slice hR3
                      have hL3 := Aside0.mk (show Lit_ (World.drew wr) w3 A3 qs m3 wE.heap.size 0 from ⟨hR3, lit_keep GwL.out hg3 (by have := blk_lt_ GwE.out; simp [Value.ownBlock]; omega), BwE.out.size, hb3⟩)
                      clear hR3 hb3 hg3 hat3
                      refine hK.out _ _ ⟨(cel (w := World.drew wr) hL3.out.2.2.2 pt), (cel (w := World.drew wr) hL3.out.2.2.2 y3)⟩ (fun hHeld => ?_)
                      clear hK K
                      refine norm_ (a' := ?_) ?_ ?_
                      rotate_left
                      · show Act.put _ (some 91) _ = _
                        simp only [Act.put, List.setIfInBounds_toArray, List.set_cons_zero, List.set_cons_succ, i64_w, i32_w]
                        rfl
                      exact norm_ (by simp only [putAll, Act.put, List.setIfInBounds_toArray, List.set_cons_zero, List.set_cons_succ]) (hCont (A3, m3, wE.heap.size, wr.heap.size) _ hL3.out)
                  · skip
                    refine value_ (w1 := ?_) (v := ?_) (by rfl) rfl ?_ ?_
                    rotate_left 2
                    · go_simp
                      constructor
                      · rfl
                      · rfl
                    generalize hqwL : World.drew (World.alloc wr _) = wL
                    have BwL := Aside0.mk (show Below wr.heap.size (World.drew wr) wL from by rw [← hqwL]; exact (below_alloc (Below.refl (World.drew wr).heap.size (World.drew wr)) (.cells #[.int .i8 0] 86) : Below (World.drew wr).heap.size (World.drew wr) ((World.drew wr).alloc (.cells #[.int .i8 0] 86))))
                    have GwL := Aside0.mk (show wL.heap[wr.heap.size]? = some (.cells #[.int .i8 0] 86 (0, 0)) from by rw [← hqwL]; exact (show (wr.alloc (.cells #[.int .i8 0] 86)).heap[wr.heap.size]? = _ from ha_at wr _ rfl))
                    clear hqwL
                    refine hK.out _ _ ⟨(cel (w := World.drew wr) BwL.out pt), (cel (w := World.drew wr) BwL.out y3)⟩ (fun hHeld => ?_)
                    clear hK K
                    refine norm_ (a' := ?_) ?_ ?_
                    rotate_left
                    · show Act.put _ (some 93) _ = _
                      simp only [Act.put, List.setIfInBounds_toArray, List.set_cons_zero, List.set_cons_succ, i64_w, i32_w]
                      rfl
                    refine one_ (i := 12) (N := some 89) #[true, true, true, true, true, true, true, true, true, true, true, true, true, true, false, true, true, false, true, true, true, false, false, false, false, false, false] rfl rfl (by kernel_rfl) (by decide) (fun K hK => ?_)
                    refine value_ (w1 := ?_) (v := ?_) (by rfl) rfl ?_ ?_
                    rotate_left 2
                    · go_simp
                      constructor
                      · rfl
                      · rfl
                    generalize hqwE : World.alloc wL _ = wE
                    have BwE := Aside0.mk (show Below wr.heap.size (World.drew wr) wE from by rw [← hqwE]; exact below_alloc (show Below (World.drew wr).heap.size (World.drew wr) wL from BwL.out) _)
                    have GwE := Aside0.mk (show wE.heap[wL.heap.size]? = some (.cells #[] 86 (0, 0)) from by rw [← hqwE]; exact ha_at wL _ rfl)
                    have HwE := Aside0.mk (show wE.heap[wr.heap.size]? = wL.heap[wr.heap.size]? from by rw [← hqwE]; exact Below.heap_alloc wL _ _ (blk_lt_ GwL.out))
                    clear hqwE
                    refine hK.out _ _ ⟨(cel (w := World.drew wr) BwE.out pt), (cel (w := World.drew wr) BwE.out y3)⟩ (fun hHeld => ?_)
                    clear hK K
                    refine norm_ (a' := ?_) ?_ ?_
                    rotate_left
                    · show Act.put _ (some 89) _ = _
                      simp only [Act.put, List.setIfInBounds_toArray, List.set_cons_zero, List.set_cons_succ, i64_w, i32_w]
                      rfl
                    refine one_ (i := 14) (N := some 91) #[true, true, true, true, true, true, true, true, true, true, true, true, true, true, true, true, true, false, true, true, true, false, false, false, false, false, false] rfl rfl (by kernel_rfl) (by decide) (fun K hK => ?_)
                    refine Kd.R_append_rows_step (Kd.int .i8) (w0 := (World.drew wr)) (W := wE) wr.heap.size (by first | assumption | rfl) (.tmp 89) (.tmp 90) 25 86 (.int .i8 0) 1 rfl Try.underlying25 infoC8 rfl (by decide) (by decide) (.slice (some ⟨wL.heap.size, 0, none⟩) 0 0) [] qs Aa qs.length ca (fun k => k ≠ wr.heap.size) (fun _ => False) rfl rfl (empty_R GwE.out BwL.out.size (by have := blk_lt_ GwL.out; omega)) (Kd.C_below CA.out (Below.trans (below_drew1 (Below.refl _ _)) BwE.out)) (fun _ _ h => h) (fun _ h => h.elim) (fun k hk => by have := blk_lt_ (HwE.out.trans GwL.out); omega) BwE.out BwE.out.size (by have := L0.out; simp only [List.length_nil]; omega) ?_
                    intro v3 w3 hR3 hb3 hg3 hat3
                    rw [List.nil_append] at hR3
                    obtain ⟨A3, m3, rfl⟩ := Kd.R_slice hR3
                    have hL3 := Aside0.mk (show Lit_ (World.drew wr) w3 A3 qs m3 wr.heap.size 0 from ⟨hR3, lit_keep (HwE.out.trans GwL.out) hg3 (by have := blk_lt_ GwL.out; simp [Value.ownBlock]; omega), Nat.le_refl _, hb3⟩)
                    clear hR3 hb3 hg3 hat3
                    refine hK.out _ _ ⟨(cel (w := World.drew wr) hL3.out.2.2.2 pt), (cel (w := World.drew wr) hL3.out.2.2.2 y3)⟩ (fun hHeld => ?_)
                    clear hK K
                    refine norm_ (a' := ?_) ?_ ?_
                    rotate_left
                    · show Act.put _ (some 91) _ = _
                      simp only [Act.put, List.setIfInBounds_toArray, List.set_cons_zero, List.set_cons_succ, i64_w, i32_w]
                      rfl
                    exact norm_ (by simp only [putAll, Act.put, List.setIfInBounds_toArray, List.set_cons_zero, List.set_cons_succ]) (hCont (A3, m3, wr.heap.size, wL.heap.size) _ hL3.out)
                rintro ⟨A5, m5, kb, ke⟩ w5 hL5
                replace hL5 : Lit_ (World.drew wr) w5 A5 qs m5 kb 0 := hL5
                have L5 := Aside0.mk hL5
                clear hL5
                have hHeld : w5.cell? tp = some (.slice (some ad0) l.length c0) ∧ w5.cell? ⟨(Addr.add ad0 (a'.toNat * 5)).block, (Addr.add ad0 (a'.toNat * 5)).off + 3, none⟩ = some (.int .i16 X3) := ⟨(cel (w := World.drew wr) L5.out.2.2.2 pt), (cel (w := World.drew wr) L5.out.2.2.2 y3)⟩
                refine norm_ (a' := ?_) ?_ ?_
                rotate_left
                · simp only [putAll, Act.put, List.setIfInBounds_toArray, List.set_cons_zero, List.set_cons_succ]
                  rfl
                refine one_ (i := 17) (N := some 94) #[true, true, true, true, true, true, true, true, true, true, true, true, true, true, true, true, true, true, true, true, true, false, false, false, false, false, false] rfl rfl (by kernel_rfl) (by decide) (fun K hK => ?_)
                refine Kd.R_append_rows_step (Kd.int .i8) (w0 := (World.drew wr)) (W := w5) wr.heap.size (by first | assumption | rfl) (.tmp 91) (.tmp 93) 25 86 (.int .i8 0) 1 rfl Try.underlying25 infoC8 rfl (by decide) (by decide) (.slice A5 qs.length m5) qs [0] (some ⟨kb, 0, none⟩) 1 1 (fun k => k ≠ kb) (fun _ => False) rfl rfl L5.out.1 (one_C L5.out.2.1) (fun _ _ h => h) (fun _ h => h.elim) (fun k hk => by have := blk_lt_ L5.out.2.1; omega) L5.out.2.2.2 L5.out.2.2.2.size (by have := L0.out; omega) ?_
                intro v6 w6 hR6 hb6 hg6 hat6
                obtain ⟨A6, m6, rfl⟩ := Kd.R_slice hR6
                have R6 := Aside0.mk (Kd.R_lower (Kd.R_mono (ok' := T_) hR6 (fun _ _ => trivial)) SP.out)
                have B6 := Aside0.mk hb6
                have BB6 := Aside0.mk (BP.out.trans ((Below.trans (below_drew1 (Below.refl _ _)) hb6).mono SP.out))
                have K6 := Aside0.mk (Ks.below (T := [151]) (Below.trans (below_drew1 (Below.refl _ _)) hb6 : Below wr.heap.size wr w6))
                clear hR6 hb6 hg6 hat6 L5
                refine hK.out _ _ ⟨(cel (w := World.drew wr) B6.out pt), (cel (w := World.drew wr) B6.out y3)⟩ (fun hHeld => ?_)
                clear hK K
                refine norm_ (a' := ?_) ?_ ?_
                rotate_left
                · show Act.put _ (some 94) _ = _
                  simp only [Act.put, List.setIfInBounds_toArray, List.set_cons_zero, List.set_cons_succ, i64_w, i32_w]
                  rfl
                refine last_ (i := 21) (N := some 98) #[true, true, true, true, true, true, true, true, true, true, true, true, true, true, true, true, true, true, true, true, true, true, false, false, false, false, false] rfl rfl (by kernel_rfl) (by decide) (fun K hK => ?_)
                refine goes_ Try.func138 (by kernel_rfl) rfl #[.pointer (some tp), .int .i16 X3, .slice A6 (qs ++ [0]).length m6, .slice Bt ts'.length bt, .int .i64 n, .slice Au o.length cu] (by rfl) rfl rfl (by simp only [List.map_toArray, List.map_cons, List.map_nil]; rfl) ?_
                with_reducible refine (HREC.out o X3 0 ts' (t1, true) (.slice Au o.length cu) (.slice A6 (qs ++ [0]).length m6) (.slice Bt ts'.length bt) w6 HT_.out (Kd.S_below RO.out (Below.trans (below_drew1 (Below.refl _ _)) B6.out)) R6.out (Kd.R_below RT.out (Below.trans (below_drew1 (Below.refl _ _)) B6.out)) BB6.out).mono ?_
                rintro e w7 ⟨v7, rfl, hR7, hb7, hk7, hs7⟩
                refine ⟨_, rfl, ?_⟩
                obtain ⟨A7, c7, rfl⟩ := Kd.S_slice (hR7 rfl)
                have R7 := Aside0.mk (hR7 rfl)
                have B7 := Aside0.mk hb7
                have J7 := Aside0.mk (K6.out.trans hk7)
                have K7 := Aside0.mk (KP.out.trans J7.out)
                clear hR7 hb7 hk7 hs7
                refine hK.out _ _ ?_
                clear hK K
                refine norm_ (a' := ?_) ?_ ?_
                rotate_left
                · show Act.put _ (some 98) _ = _
                  simp only [Act.put, List.setIfInBounds_toArray, List.set_cons_zero, List.set_cons_succ, i64_w, i32_w]
                  rfl
                refine pure_ (i := 22) (N := some 76) (v := ?_) (a' := ?_) #[true, true, true, true, true, true, true, true, true, true, true, true, true, true, true, true, true, true, true, true, true, true, true, false, false, false, false] rfl rfl (by kernel_rfl) (fun _ _ _ h => h) (Or.inl ⟨by rfl, ?_⟩) ?_ ?_
                rotate_left
                · intro w'
                  go_simp
                  with_reducible rfl
                rotate_left
                · simp only [Act.put, List.setIfInBounds_toArray, List.set_cons_zero, List.set_cons_succ, i64_w, i32_w]
                  rfl
                refine pure_ (i := 23) (N := some 99) (v := ?_) (a' := ?_) #[true, true, true, true, true, true, true, true, true, true, true, true, true, true, true, true, true, true, true, true, true, true, true, true, false, false, false] rfl rfl (by kernel_rfl) (fun _ _ _ h => h) (Or.inl ⟨by rfl, ?_⟩) ?_ ?_
                rotate_left
                · intro w'
                  go_simp
                  with_reducible rfl
                rotate_left
                · simp only [Act.put, List.setIfInBounds_toArray, List.set_cons_zero, List.set_cons_succ, i64_w, i32_w]
                  rfl
                refine pure_ (i := 24) (N := some 100) (v := ?_) (a' := ?_) #[true, true, true, true, true, true, true, true, true, true, true, true, true, true, true, true, true, true, true, true, true, true, true, true, true, false, false] rfl rfl (by kernel_rfl) (fun _ _ _ h => h) (Or.inl ⟨by rfl, ?_⟩) ?_ ?_
                rotate_left
                · intro w'
                  go_simp
                  with_reducible rfl
                rotate_left
                · simp only [Act.put, List.setIfInBounds_toArray, List.set_cons_zero, List.set_cons_succ, i64_w, i32_w]
                  rfl
                refine pure_ (i := 25) (N := some 15) (v := ?_) (a' := ?_) #[true, true, true, true, true, true, true, true, true, true, true, true, true, true, true, true, true, true, true, true, true, true, true, true, true, true, false] rfl rfl (by kernel_rfl) (fun _ _ _ h => h) (Or.inl ⟨by rfl, ?_⟩) ?_ ?_
                rotate_left
                · intro w'
                  go_simp
                  with_reducible rfl
                rotate_left
                · simp only [Act.put, List.setIfInBounds_toArray, List.set_cons_zero, List.set_cons_succ, i64_w, i32_w]
                  rfl
                refine pure_ (i := 26) (N := some 16) (v := ?_) (a' := ?_) #[true, true, true, true, true, true, true, true, true, true, true, true, true, true, true, true, true, true, true, true, true, true, true, true, true, true, true] rfl rfl (by kernel_rfl) (fun _ _ _ h => h) (Or.inl ⟨by rfl, ?_⟩) ?_ ?_
                rotate_left
                · intro w'
                  go_simp
                  with_reducible rfl
                rotate_left
                · simp only [Act.put, List.setIfInBounds_toArray, List.set_cons_zero, List.set_cons_succ, i64_w, i32_w]
                  rfl
                refine done_ (by kernel_rfl) ?_
                go_wp2
                go_round
                case rel => exact ⟨2, t1, A7, c7, rfl, by first | (with_reducible rfl) | rfl | go_num, ⟨by omega⟩, HS, R7, ⟨R_Ks RA.out J7.out (by decide)⟩, ⟨R_Ks RT.out J7.out (by decide)⟩, B7, K7⟩
                case measure => first | (simp [intOf]; done) | (simp [intOf]; omega)
              | false =>
                have hz : some (([] : List S151), false) = some (r1, r2) := HJ
                obtain ⟨rfl, rfl⟩ := Prod.mk.inj (Option.some.inj hz)
                clear HJ hz
                go_wp2
                refine start_ (n := 27) (S := fun w' => w'.cell? tp = some (.slice (some ad0) l.length c0) ∧ w'.cell? ⟨(Addr.add ad0 (a'.toNat * 5)).block, (Addr.add ad0 (a'.toNat * 5)).off + 3, none⟩ = some (.int .i16 X3)) (ds := [21]) #[false, false, false, false, false, false, false, false, false, false, false, false, false, false, false, false, false, false, false, false, false, false, false, false, false, false, false] (by kernel_rfl) rfl rfl ⟨pt, y3⟩ (fun hHeld => ?_)
                refine pure_ (i := 0) (N := some 77) (v := ?_) (a' := ?_) #[true, false, false, false, false, false, false, false, false, false, false, false, false, false, false, false, false, false, false, false, false, false, false, false, false, false, false] rfl rfl (by kernel_rfl) (fun _ _ _ h => h) (Or.inl ⟨by rfl, ?_⟩) ?_ ?_
                rotate_left
                · intro w'
                  go_simp
                  with_reducible rfl
                rotate_left
                · simp only [Act.put, List.setIfInBounds_toArray, List.set_cons_zero, List.set_cons_succ, i64_w, i32_w]
                  rfl
                refine pure_ (i := 1) (N := some 78) (v := ?_) (a' := ?_) #[true, true, false, false, false, false, false, false, false, false, false, false, false, false, false, false, false, false, false, false, false, false, false, false, false, false, false] rfl rfl (by kernel_rfl) (fun _ _ _ h => h) (Or.inl ⟨by rfl, ?_⟩) ?_ ?_
                rotate_left
                · intro w'
                  go_simp
                  with_reducible rfl
                rotate_left
                · simp only [Act.put, List.setIfInBounds_toArray, List.set_cons_zero, List.set_cons_succ, i64_w, i32_w]
                  rfl
                refine pure_ (i := 2) (N := some 79) (v := ?_) (a' := ?_) #[true, true, true, false, false, false, false, false, false, false, false, false, false, false, false, false, false, false, false, false, false, false, false, false, false, false, false] rfl rfl (by kernel_rfl) (fun _ _ _ h => h) (Or.inl ⟨by rfl, ?_⟩) ?_ ?_
                rotate_left
                · intro w'
                  go_simp
                  with_reducible rfl
                rotate_left
                · simp only [Act.put, List.setIfInBounds_toArray, List.set_cons_zero, List.set_cons_succ, i64_w, i32_w]
                  rfl
                refine pure_ (i := 3) (N := some 80) (v := ?_) (a' := ?_) #[true, true, true, true, false, false, false, false, false, false, false, false, false, false, false, false, false, false, false, false, false, false, false, false, false, false, false] rfl rfl (by kernel_rfl) (fun _ _ _ h => h) (Or.inl ⟨by rfl, ?_⟩) ?_ ?_
                rotate_left
                · intro w'
                  go_simp
                  with_reducible rfl
                rotate_left
                · simp only [Act.put, List.setIfInBounds_toArray, List.set_cons_zero, List.set_cons_succ, i64_w, i32_w]
                  rfl
                refine pure_ (i := 5) (N := some 82) (v := ?_) (a' := ?_) #[true, true, true, true, false, true, false, false, false, false, false, false, false, false, false, false, false, false, false, false, false, false, false, false, false, false, false] rfl rfl (by kernel_rfl) (fun _ _ _ h => h) (Or.inl ⟨by rfl, ?_⟩) ?_ ?_
                rotate_left
                · intro w'
                  go_simp
                  with_reducible rfl
                rotate_left
                · simp only [Act.put, List.setIfInBounds_toArray, List.set_cons_zero, List.set_cons_succ, i64_w, i32_w]
                  rfl
                refine pure_ (i := 6) (N := some 83) (v := ?_) (a' := ?_) #[true, true, true, true, false, true, true, false, false, false, false, false, false, false, false, false, false, false, false, false, false, false, false, false, false, false, false] rfl rfl (by kernel_rfl) (fun _ _ _ h => h) (Or.inl ⟨by rfl, ?_⟩) ?_ ?_
                rotate_left
                · intro w'
                  go_simp
                  with_reducible rfl
                rotate_left
                · simp only [Act.put, List.setIfInBounds_toArray, List.set_cons_zero, List.set_cons_succ, i64_w, i32_w]
                  rfl
                refine pure_ (i := 7) (N := some 84) (v := ?_) (a' := ?_) #[true, true, true, true, false, true, true, true, false, false, false, false, false, false, false, false, false, false, false, false, false, false, false, false, false, false, false] rfl rfl (by kernel_rfl) (fun _ _ _ h => h) (Or.inl ⟨by rfl, ?_⟩) ?_ ?_
                rotate_left
                · intro w'
                  go_simp
                  with_reducible rfl
                rotate_left
                · simp only [Act.put, List.setIfInBounds_toArray, List.set_cons_zero, List.set_cons_succ, i64_w, i32_w]
                  rfl
                refine pure_ (i := 13) (N := some 90) (v := ?_) (a' := ?_) #[true, true, true, true, false, true, true, true, false, false, false, false, false, true, false, false, false, false, false, false, false, false, false, false, false, false, false] rfl rfl (by kernel_rfl) (fun _ _ _ h => h) (Or.inl ⟨by rfl, ?_⟩) ?_ ?_
                rotate_left
                · intro w'
                  go_simp
                  with_reducible rfl
                rotate_left
                · simp only [Act.put, List.setIfInBounds_toArray, List.set_cons_zero, List.set_cons_succ, i64_w, i32_w]
                  rfl
                refine pure_ (i := 15) (N := some 92) (v := ?_) (a' := ?_) #[true, true, true, true, false, true, true, true, false, false, false, false, false, true, false, true, false, false, false, false, false, false, false, false, false, false, false] rfl rfl (by kernel_rfl) (fun _ _ _ h => h) (Or.inl ⟨by rfl, ?_⟩) ?_ ?_
                rotate_left
                · intro w'
                  go_simp
                  with_reducible rfl
                rotate_left
                · simp only [Act.put, List.setIfInBounds_toArray, List.set_cons_zero, List.set_cons_succ, i64_w, i32_w]
                  rfl
                refine pure_ (i := 18) (N := some 95) (v := ?_) (a' := ?_) #[true, true, true, true, false, true, true, true, false, false, false, false, false, true, false, true, false, false, true, false, false, false, false, false, false, false, false] rfl rfl (by kernel_rfl) (fun _ _ _ h => h) (Or.inl ⟨by rfl, ?_⟩) ?_ ?_
                rotate_left
                · intro w'
                  go_simp
                  with_reducible rfl
                rotate_left
                · simp only [Act.put, List.setIfInBounds_toArray, List.set_cons_zero, List.set_cons_succ, i64_w, i32_w]
                  rfl
                refine pure_ (i := 19) (N := some 96) (v := ?_) (a' := ?_) #[true, true, true, true, false, true, true, true, false, false, false, false, false, true, false, true, false, false, true, true, false, false, false, false, false, false, false] rfl rfl (by kernel_rfl) (fun _ _ _ h => h) (Or.inl ⟨by rfl, ?_⟩) ?_ ?_
                rotate_left
                · intro w'
                  go_simp
                  with_reducible rfl
                rotate_left
                · simp only [Act.put, List.setIfInBounds_toArray, List.set_cons_zero, List.set_cons_succ, i64_w, i32_w]
                  rfl
                refine pure_ (i := 20) (N := some 97) (v := ?_) (a' := ?_) #[true, true, true, true, false, true, true, true, false, false, false, false, false, true, false, true, false, false, true, true, true, false, false, false, false, false, false] rfl rfl (by kernel_rfl) (fun _ _ _ h => h) (Or.inl ⟨by rfl, ?_⟩) ?_ ?_
                rotate_left
                · intro w'
                  go_simp
                  with_reducible rfl
                rotate_left
                · simp only [Act.put, List.setIfInBounds_toArray, List.set_cons_zero, List.set_cons_succ, i64_w, i32_w]
                  rfl
                refine take_ (i := 4) (N := some 81) (v := ?_) (a' := ?_) #[true, true, true, true, true, true, true, true, false, false, false, false, false, true, false, true, false, false, true, true, true, false, false, false, false, false, false] rfl rfl (by kernel_rfl) (fun _ _ _ h => h) (Or.inl ⟨by rfl, ?_⟩) hHeld ?_ ?_
                rotate_left
                · rintro w' ⟨s0, s1⟩
                  go_simp
                  with_reducible rfl
                rotate_left
                · simp only [Act.put, List.setIfInBounds_toArray, List.set_cons_zero, List.set_cons_succ, i64_w, i32_w]
                  rfl
                refine pure_ (i := 8) (N := some 85) (v := ?_) (a' := ?_) #[true, true, true, true, true, true, true, true, true, false, false, false, false, true, false, true, false, false, true, true, true, false, false, false, false, false, false] rfl rfl (by kernel_rfl) (fun _ _ _ h => h) (Or.inl ⟨by rfl, ?_⟩) ?_ ?_
                rotate_left
                · intro w'
                  go_simp
                  with_reducible rfl
                rotate_left
                · simp only [Act.put, List.setIfInBounds_toArray, List.set_cons_zero, List.set_cons_succ, i64_w, i32_w]
                  rfl
                refine pure_ (i := 9) (N := some 86) (v := ?_) (a' := ?_) #[true, true, true, true, true, true, true, true, true, true, false, false, false, true, false, true, false, false, true, true, true, false, false, false, false, false, false] rfl rfl (by kernel_rfl) (fun _ _ _ h => h) (Or.inl ⟨by rfl, ?_⟩) ?_ ?_
                rotate_left
                · intro w'
                  go_simp
                  with_reducible rfl
                rotate_left
                · simp only [Act.put, List.setIfInBounds_toArray, List.set_cons_zero, List.set_cons_succ, i64_w, i32_w]
                  rfl
                refine pure_ (i := 10) (N := some 87) (v := ?_) (a' := ?_) #[true, true, true, true, true, true, true, true, true, true, true, false, false, true, false, true, false, false, true, true, true, false, false, false, false, false, false] rfl rfl (by kernel_rfl) (fun _ _ _ h => h) (Or.inl ⟨by rfl, ?_⟩) ?_ ?_
                rotate_left
                · intro w'
                  go_simp
                  with_reducible rfl
                rotate_left
                · simp only [Act.put, List.setIfInBounds_toArray, List.set_cons_zero, List.set_cons_succ, i64_w, i32_w]
                  rfl
                refine take_ (i := 11) (N := some 88) (v := ?_) (a' := ?_) #[true, true, true, true, true, true, true, true, true, true, true, true, false, true, false, true, false, false, true, true, true, false, false, false, false, false, false] rfl rfl (by kernel_rfl) (fun _ _ _ h => h) (Or.inl ⟨by rfl, ?_⟩) hHeld ?_ ?_
                rotate_left
                · rintro w' ⟨s0, s1⟩
                  go_simp
                  with_reducible rfl
                rotate_left
                · simp only [Act.put, List.setIfInBounds_toArray, List.set_cons_zero, List.set_cons_succ, i64_w, i32_w]
                  rfl
                refine join_ (σ := Option Addr × Nat × Nat × Nat) 7 #[true, true, true, true, true, true, true, true, true, true, true, true, true, true, true, true, true, false, true, true, true, false, false, false, false, false, false] (fun s => [(89, .slice (some ⟨s.2.2.2, 0, none⟩) 0 0), (91, .slice s.1 qs.length s.2.1), (93, .slice (some ⟨s.2.2.1, 0, none⟩) 1 1)]) (fun s w' => Lit_ (World.drew wr) w' s.1 qs s.2.1 s.2.2.1 0) ?_ ?_
                rotate_left
                · intro hCont
                  refine two_ (i := 12) (j := 16) (Ni := some 89) (Nj := some 93) #[true, true, true, true, true, true, true, true, true, true, true, true, true, true, false, true, false, false, true, true, true, false, false, false, false, false, false] #[true, true, true, true, true, true, true, true, true, true, true, true, false, true, false, true, true, false, true, true, true, false, false, false, false, false, false] rfl rfl rfl rfl (by kernel_rfl) (by decide) (by decide) (fun K hK => ?_) (fun K hK => ?_)
                  · skip
                    refine value_ (w1 := ?_) (v := ?_) (by rfl) rfl ?_ ?_
                    rotate_left 2
                    · go_simp
                      constructor
                      · rfl
                      · rfl
                    generalize hqwE : World.drew (World.alloc wr _) = wE
                    have BwE := Aside0.mk (show Below wr.heap.size (World.drew wr) wE from by rw [← hqwE]; exact (below_alloc (Below.refl (World.drew wr).heap.size (World.drew wr)) (.cells #[] 86) : Below (World.drew wr).heap.size (World.drew wr) ((World.drew wr).alloc (.cells #[] 86))))
                    have GwE := Aside0.mk (show wE.heap[wr.heap.size]? = some (.cells #[] 86 (0, 0)) from by rw [← hqwE]; exact (show (wr.alloc (.cells #[] 86)).heap[wr.heap.size]? = _ from ha_at wr _ rfl))
                    clear hqwE
                    refine hK.out _ _ ⟨(cel (w := World.drew wr) BwE.out pt), (cel (w := World.drew wr) BwE.out y3)⟩ (fun hHeld => ?_)
                    clear hK K
                    refine norm_ (a' := ?_) ?_ ?_
                    rotate_left
                    · show Act.put _ (some 89) _ = _
                      simp only [Act.put, List.setIfInBounds_toArray, List.set_cons_zero, List.set_cons_succ, i64_w, i32_w]
                      rfl
                    refine two_ (i := 14) (j := 16) (Ni := some 91) (Nj := some 93) #[true, true, true, true, true, true, true, true, true, true, true, true, true, true, true, true, false, false, true, true, true, false, false, false, false, false, false] #[true, true, true, true, true, true, true, true, true, true, true, true, true, true, false, true, true, false, true, true, true, false, false, false, false, false, false] rfl rfl rfl rfl (by kernel_rfl) (by decide) (by decide) (fun K hK => ?_) (fun K hK => ?_)
                    · skip
                      refine Kd.R_append_rows_step (Kd.int .i8) (w0 := (World.drew wr)) (W := wE) wr.heap.size (by first | assumption | rfl) (.tmp 89) (.tmp 90) 25 86 (.int .i8 0) 1 rfl Try.underlying25 infoC8 rfl (by decide) (by decide) (.slice (some ⟨wr.heap.size, 0, none⟩) 0 0) [] qs Aa qs.length ca T_ (fun _ => False) rfl rfl (empty_R GwE.out (Nat.le_refl _) trivial) (Kd.C_below CA.out (Below.trans (below_drew1 (Below.refl _ _)) BwE.out)) (fun _ _ h => h) (fun _ h => h.elim) (fun _ _ => trivial) BwE.out BwE.out.size (by have := L0.out; simp only [List.length_nil]; omega) ?_
                      intro v3 w3 hR3 hb3 hg3 hat3
                      rw [List.nil_append] at hR3
                      obtain ⟨A3, m3, rfl⟩ := Kd.R_slice hR3
                      have R3 := Aside0.mk hR3
                      have B3 := Aside0.mk hb3
                      clear hR3 hb3 hg3 hat3
                      refine hK.out _ _ ⟨(cel (w := World.drew wr) B3.out pt), (cel (w := World.drew wr) B3.out y3)⟩ (fun hHeld => ?_)
                      clear hK K
                      refine norm_ (a' := ?_) ?_ ?_
                      rotate_left
                      · show Act.put _ (some 91) _ = _
                        simp only [Act.put, List.setIfInBounds_toArray, List.set_cons_zero, List.set_cons_succ, i64_w, i32_w]
                        rfl
                      refine one_ (i := 16) (N := some 93) #[true, true, true, true, true, true, true, true, true, true, true, true, true, true, true, true, true, false, true, true, true, false, false, false, false, false, false] rfl rfl (by kernel_rfl) (by decide) (fun K hK => ?_)
                      refine value_ (w1 := ?_) (v := ?_) (by rfl) rfl ?_ ?_
                      rotate_left 2
                      · go_simp
                        constructor
                        · rfl
                        · rfl
                      refine hK.out _ _ ⟨(cel (w := World.drew wr) (below_alloc B3.out _) pt), (cel (w := World.drew wr) (below_alloc B3.out _) y3)⟩ (fun hHeld => ?_)
                      clear hK K
                      refine norm_ (a' := ?_) ?_ ?_
                      rotate_left
                      · show Act.put _ (some 93) _ = _
                        simp only [Act.put, List.setIfInBounds_toArray, List.set_cons_zero, List.set_cons_succ, i64_w, i32_w]
                        rfl
                      exact norm_ (by simp only [putAll, Act.put, List.setIfInBounds_toArray, List.set_cons_zero, List.set_cons_succ]) (hCont (A3, m3, w3.heap.size, wr.heap.size) _ (Lit_after (wp := (World.drew wr)) 0 R3.out B3.out))
                    · skip
                      refine value_ (w1 := ?_) (v := ?_) (by rfl) rfl ?_ ?_
                      rotate_left 2
                      · go_simp
                        constructor
                        · rfl
                        · rfl
                      generalize hqwL : World.alloc wE _ = wL
                      have BwL := Aside0.mk (show Below wr.heap.size (World.drew wr) wL from by rw [← hqwL]; exact below_alloc (show Below (World.drew wr).heap.size (World.drew wr) wE from BwE.out) _)
                      have GwL := Aside0.mk (show wL.heap[wE.heap.size]? = some (.cells #[.int .i8 0] 86 (0, 0)) from by rw [← hqwL]; exact ha_at wE _ rfl)
                      have HwL := Aside0.mk (show wL.heap[wr.heap.size]? = wE.heap[wr.heap.size]? from by rw [← hqwL]; exact Below.heap_alloc wE _ _ (blk_lt_ GwE.out))
                      clear hqwL
                      refine hK.out _ _ ⟨(cel (w := World.drew wr) BwL.out pt), (cel (w := World.drew wr) BwL.out y3)⟩ (fun hHeld => ?_)
                      clear hK K
                      refine norm_ (a' := ?_) ?_ ?_
                      rotate_left
                      · show Act.put _ (some 93) _ = _
                        simp only [Act.put, List.setIfInBounds_toArray, List.set_cons_zero, List.set_cons_succ, i64_w, i32_w]
                        rfl
                      refine one_ (i := 14) (N := some 91) #[true, true, true, true, true, true, true, true, true, true, true, true, true, true, true, true, true, false, true, true, true, false, false, false, false, false, false] rfl rfl (by kernel_rfl) (by decide) (fun K hK => ?_)
                      refine Kd.R_append_rows_step (Kd.int .i8) (w0 := (World.drew wr)) (W := wL) wr.heap.size (by first | assumption | rfl) (.tmp 89) (.tmp 90) 25 86 (.int .i8 0) 1 rfl Try.underlying25 infoC8 rfl (by decide) (by decide) (.slice (some ⟨wr.heap.size, 0, none⟩) 0 0) [] qs Aa qs.length ca (fun k => k ≠ wE.heap.size) (fun _ => False) rfl rfl (empty_R (HwL.out.trans GwE.out) (Nat.le_refl _) (by have := blk_lt_ GwE.out; omega)) (Kd.C_below CA.out (Below.trans (below_drew1 (Below.refl _ _)) BwL.out)) (fun _ _ h => h) (fun _ h => h.elim) (fun k hk => by have := blk_lt_ GwL.out; omega) BwL.out BwL.out.size (by have := L0.out; simp only [List.length_nil]; omega) ?_
                      intro v3 w3 hR3 hb3 hg3 hat3
                      rw [List.nil_append] at hR3
                      obtain ⟨A3, m3, rfl⟩ := Kd.R_slice hR3
                      have hL3 := Aside0.mk (show Lit_ (World.drew wr) w3 A3 qs m3 wE.heap.size 0 from ⟨hR3, lit_keep GwL.out hg3 (by have := blk_lt_ GwE.out; simp [Value.ownBlock]; omega), BwE.out.size, hb3⟩)
                      clear hR3 hb3 hg3 hat3
                      refine hK.out _ _ ⟨(cel (w := World.drew wr) hL3.out.2.2.2 pt), (cel (w := World.drew wr) hL3.out.2.2.2 y3)⟩ (fun hHeld => ?_)
                      clear hK K
                      refine norm_ (a' := ?_) ?_ ?_
                      rotate_left
                      · show Act.put _ (some 91) _ = _
                        simp only [Act.put, List.setIfInBounds_toArray, List.set_cons_zero, List.set_cons_succ, i64_w, i32_w]
                        rfl
                      exact norm_ (by simp only [putAll, Act.put, List.setIfInBounds_toArray, List.set_cons_zero, List.set_cons_succ]) (hCont (A3, m3, wE.heap.size, wr.heap.size) _ hL3.out)
                  · skip
                    refine value_ (w1 := ?_) (v := ?_) (by rfl) rfl ?_ ?_
                    rotate_left 2
                    · go_simp
                      constructor
                      · rfl
                      · rfl
                    generalize hqwL : World.drew (World.alloc wr _) = wL
                    have BwL := Aside0.mk (show Below wr.heap.size (World.drew wr) wL from by rw [← hqwL]; exact (below_alloc (Below.refl (World.drew wr).heap.size (World.drew wr)) (.cells #[.int .i8 0] 86) : Below (World.drew wr).heap.size (World.drew wr) ((World.drew wr).alloc (.cells #[.int .i8 0] 86))))
                    have GwL := Aside0.mk (show wL.heap[wr.heap.size]? = some (.cells #[.int .i8 0] 86 (0, 0)) from by rw [← hqwL]; exact (show (wr.alloc (.cells #[.int .i8 0] 86)).heap[wr.heap.size]? = _ from ha_at wr _ rfl))
                    clear hqwL
                    refine hK.out _ _ ⟨(cel (w := World.drew wr) BwL.out pt), (cel (w := World.drew wr) BwL.out y3)⟩ (fun hHeld => ?_)
                    clear hK K
                    refine norm_ (a' := ?_) ?_ ?_
                    rotate_left
                    · show Act.put _ (some 93) _ = _
                      simp only [Act.put, List.setIfInBounds_toArray, List.set_cons_zero, List.set_cons_succ, i64_w, i32_w]
                      rfl
                    refine one_ (i := 12) (N := some 89) #[true, true, true, true, true, true, true, true, true, true, true, true, true, true, false, true, true, false, true, true, true, false, false, false, false, false, false] rfl rfl (by kernel_rfl) (by decide) (fun K hK => ?_)
                    refine value_ (w1 := ?_) (v := ?_) (by rfl) rfl ?_ ?_
                    rotate_left 2
                    · go_simp
                      constructor
                      · rfl
                      · rfl
                    generalize hqwE : World.alloc wL _ = wE
                    have BwE := Aside0.mk (show Below wr.heap.size (World.drew wr) wE from by rw [← hqwE]; exact below_alloc (show Below (World.drew wr).heap.size (World.drew wr) wL from BwL.out) _)
                    have GwE := Aside0.mk (show wE.heap[wL.heap.size]? = some (.cells #[] 86 (0, 0)) from by rw [← hqwE]; exact ha_at wL _ rfl)
                    have HwE := Aside0.mk (show wE.heap[wr.heap.size]? = wL.heap[wr.heap.size]? from by rw [← hqwE]; exact Below.heap_alloc wL _ _ (blk_lt_ GwL.out))
                    clear hqwE
                    refine hK.out _ _ ⟨(cel (w := World.drew wr) BwE.out pt), (cel (w := World.drew wr) BwE.out y3)⟩ (fun hHeld => ?_)
                    clear hK K
                    refine norm_ (a' := ?_) ?_ ?_
                    rotate_left
                    · show Act.put _ (some 89) _ = _
                      simp only [Act.put, List.setIfInBounds_toArray, List.set_cons_zero, List.set_cons_succ, i64_w, i32_w]
                      rfl
                    refine one_ (i := 14) (N := some 91) #[true, true, true, true, true, true, true, true, true, true, true, true, true, true, true, true, true, false, true, true, true, false, false, false, false, false, false] rfl rfl (by kernel_rfl) (by decide) (fun K hK => ?_)
                    refine Kd.R_append_rows_step (Kd.int .i8) (w0 := (World.drew wr)) (W := wE) wr.heap.size (by first | assumption | rfl) (.tmp 89) (.tmp 90) 25 86 (.int .i8 0) 1 rfl Try.underlying25 infoC8 rfl (by decide) (by decide) (.slice (some ⟨wL.heap.size, 0, none⟩) 0 0) [] qs Aa qs.length ca (fun k => k ≠ wr.heap.size) (fun _ => False) rfl rfl (empty_R GwE.out BwL.out.size (by have := blk_lt_ GwL.out; omega)) (Kd.C_below CA.out (Below.trans (below_drew1 (Below.refl _ _)) BwE.out)) (fun _ _ h => h) (fun _ h => h.elim) (fun k hk => by have := blk_lt_ (HwE.out.trans GwL.out); omega) BwE.out BwE.out.size (by have := L0.out; simp only [List.length_nil]; omega) ?_
                    intro v3 w3 hR3 hb3 hg3 hat3
                    rw [List.nil_append] at hR3
                    obtain ⟨A3, m3, rfl⟩ := Kd.R_slice hR3
                    have hL3 := Aside0.mk (show Lit_ (World.drew wr) w3 A3 qs m3 wr.heap.size 0 from ⟨hR3, lit_keep (HwE.out.trans GwL.out) hg3 (by have := blk_lt_ GwL.out; simp [Value.ownBlock]; omega), Nat.le_refl _, hb3⟩)
                    clear hR3 hb3 hg3 hat3
                    refine hK.out _ _ ⟨(cel (w := World.drew wr) hL3.out.2.2.2 pt), (cel (w := World.drew wr) hL3.out.2.2.2 y3)⟩ (fun hHeld => ?_)
                    clear hK K
                    refine norm_ (a' := ?_) ?_ ?_
                    rotate_left
                    · show Act.put _ (some 91) _ = _
                      simp only [Act.put, List.setIfInBounds_toArray, List.set_cons_zero, List.set_cons_succ, i64_w, i32_w]
                      rfl
                    exact norm_ (by simp only [putAll, Act.put, List.setIfInBounds_toArray, List.set_cons_zero, List.set_cons_succ]) (hCont (A3, m3, wr.heap.size, wL.heap.size) _ hL3.out)
                rintro ⟨A5, m5, kb, ke⟩ w5 hL5
                replace hL5 : Lit_ (World.drew wr) w5 A5 qs m5 kb 0 := hL5
                have L5 := Aside0.mk hL5
                clear hL5
                have hHeld : w5.cell? tp = some (.slice (some ad0) l.length c0) ∧ w5.cell? ⟨(Addr.add ad0 (a'.toNat * 5)).block, (Addr.add ad0 (a'.toNat * 5)).off + 3, none⟩ = some (.int .i16 X3) := ⟨(cel (w := World.drew wr) L5.out.2.2.2 pt), (cel (w := World.drew wr) L5.out.2.2.2 y3)⟩
                refine norm_ (a' := ?_) ?_ ?_
                rotate_left
                · simp only [putAll, Act.put, List.setIfInBounds_toArray, List.set_cons_zero, List.set_cons_succ]
                  rfl
                refine one_ (i := 17) (N := some 94) #[true, true, true, true, true, true, true, true, true, true, true, true, true, true, true, true, true, true, true, true, true, false, false, false, false, false, false] rfl rfl (by kernel_rfl) (by decide) (fun K hK => ?_)
                refine Kd.R_append_rows_step (Kd.int .i8) (w0 := (World.drew wr)) (W := w5) wr.heap.size (by first | assumption | rfl) (.tmp 91) (.tmp 93) 25 86 (.int .i8 0) 1 rfl Try.underlying25 infoC8 rfl (by decide) (by decide) (.slice A5 qs.length m5) qs [0] (some ⟨kb, 0, none⟩) 1 1 (fun k => k ≠ kb) (fun _ => False) rfl rfl L5.out.1 (one_C L5.out.2.1) (fun _ _ h => h) (fun _ h => h.elim) (fun k hk => by have := blk_lt_ L5.out.2.1; omega) L5.out.2.2.2 L5.out.2.2.2.size (by have := L0.out; omega) ?_
                intro v6 w6 hR6 hb6 hg6 hat6
                obtain ⟨A6, m6, rfl⟩ := Kd.R_slice hR6
                have R6 := Aside0.mk (Kd.R_lower (Kd.R_mono (ok' := T_) hR6 (fun _ _ => trivial)) SP.out)
                have B6 := Aside0.mk hb6
                have BB6 := Aside0.mk (BP.out.trans ((Below.trans (below_drew1 (Below.refl _ _)) hb6).mono SP.out))
                have K6 := Aside0.mk (Ks.below (T := [151]) (Below.trans (below_drew1 (Below.refl _ _)) hb6 : Below wr.heap.size wr w6))
                clear hR6 hb6 hg6 hat6 L5
                refine hK.out _ _ ⟨(cel (w := World.drew wr) B6.out pt), (cel (w := World.drew wr) B6.out y3)⟩ (fun hHeld => ?_)
                clear hK K
                refine norm_ (a' := ?_) ?_ ?_
                rotate_left
                · show Act.put _ (some 94) _ = _
                  simp only [Act.put, List.setIfInBounds_toArray, List.set_cons_zero, List.set_cons_succ, i64_w, i32_w]
                  rfl
                refine last_ (i := 21) (N := some 98) #[true, true, true, true, true, true, true, true, true, true, true, true, true, true, true, true, true, true, true, true, true, true, false, false, false, false, false] rfl rfl (by kernel_rfl) (by decide) (fun K hK => ?_)
                refine goes_ Try.func138 (by kernel_rfl) rfl #[.pointer (some tp), .int .i16 X3, .slice A6 (qs ++ [0]).length m6, .slice Bt ts'.length bt, .int .i64 n, .slice Au o.length cu] (by rfl) rfl rfl (by simp only [List.map_toArray, List.map_cons, List.map_nil]; rfl) ?_
                with_reducible refine (HREC.out o X3 0 ts' (t1, false) (.slice Au o.length cu) (.slice A6 (qs ++ [0]).length m6) (.slice Bt ts'.length bt) w6 HT_.out (Kd.S_below RO.out (Below.trans (below_drew1 (Below.refl _ _)) B6.out)) R6.out (Kd.R_below RT.out (Below.trans (below_drew1 (Below.refl _ _)) B6.out)) BB6.out).mono ?_
                rintro e w7 ⟨v7, rfl, hR7, hb7, hk7, hs7⟩
                refine ⟨_, rfl, ?_⟩
                have B7 := Aside0.mk hb7
                have J7 := Aside0.mk (K6.out.trans hk7)
                have K7 := Aside0.mk (KP.out.trans J7.out)
                clear hR7 hb7 hk7 hs7
                refine hK.out _ _ ?_
                clear hK K
                refine norm_ (a' := ?_) ?_ ?_
                rotate_left
                · show Act.put _ (some 98) _ = _
                  simp only [Act.put, List.setIfInBounds_toArray, List.set_cons_zero, List.set_cons_succ, i64_w, i32_w]
                  rfl
                refine pure_ (i := 22) (N := some 76) (v := ?_) (a' := ?_) #[true, true, true, true, true, true, true, true, true, true, true, true, true, true, true, true, true, true, true, true, true, true, true, false, false, false, false] rfl rfl (by kernel_rfl) (fun _ _ _ h => h) (Or.inl ⟨by rfl, ?_⟩) ?_ ?_
                rotate_left
                · intro w'
                  go_simp
                  with_reducible rfl
                rotate_left
                · simp only [Act.put, List.setIfInBounds_toArray, List.set_cons_zero, List.set_cons_succ, i64_w, i32_w]
                  rfl
                refine pure_ (i := 23) (N := some 99) (v := ?_) (a' := ?_) #[true, true, true, true, true, true, true, true, true, true, true, true, true, true, true, true, true, true, true, true, true, true, true, true, false, false, false] rfl rfl (by kernel_rfl) (fun _ _ _ h => h) (Or.inl ⟨by rfl, ?_⟩) ?_ ?_
                rotate_left
                · intro w'
                  go_simp
                  with_reducible rfl
                rotate_left
                · simp only [Act.put, List.setIfInBounds_toArray, List.set_cons_zero, List.set_cons_succ, i64_w, i32_w]
                  rfl
                refine pure_ (i := 24) (N := some 100) (v := ?_) (a' := ?_) #[true, true, true, true, true, true, true, true, true, true, true, true, true, true, true, true, true, true, true, true, true, true, true, true, true, false, false] rfl rfl (by kernel_rfl) (fun _ _ _ h => h) (Or.inl ⟨by rfl, ?_⟩) ?_ ?_
                rotate_left
                · intro w'
                  go_simp
                  with_reducible rfl
                rotate_left
                · simp only [Act.put, List.setIfInBounds_toArray, List.set_cons_zero, List.set_cons_succ, i64_w, i32_w]
                  rfl
                refine pure_ (i := 25) (N := some 15) (v := ?_) (a' := ?_) #[true, true, true, true, true, true, true, true, true, true, true, true, true, true, true, true, true, true, true, true, true, true, true, true, true, true, false] rfl rfl (by kernel_rfl) (fun _ _ _ h => h) (Or.inl ⟨by rfl, ?_⟩) ?_ ?_
                rotate_left
                · intro w'
                  go_simp
                  with_reducible rfl
                rotate_left
                · simp only [Act.put, List.setIfInBounds_toArray, List.set_cons_zero, List.set_cons_succ, i64_w, i32_w]
                  rfl
                refine pure_ (i := 26) (N := some 16) (v := ?_) (a' := ?_) #[true, true, true, true, true, true, true, true, true, true, true, true, true, true, true, true, true, true, true, true, true, true, true, true, true, true, true] rfl rfl (by kernel_rfl) (fun _ _ _ h => h) (Or.inl ⟨by rfl, ?_⟩) ?_ ?_
                rotate_left
                · intro w'
                  go_simp
                  with_reducible rfl
                rotate_left
                · simp only [Act.put, List.setIfInBounds_toArray, List.set_cons_zero, List.set_cons_succ, i64_w, i32_w]
                  rfl
                refine done_ (by kernel_rfl) ?_
                go_wp2
                go_ret2
                exact ⟨_, rfl, fun h_ => absurd h_ (by decide), B7.out, K7.out, K7.out.1⟩
            · have HJ := HS.out
              rw [show (waysI ⟨X0, X1, ⟨X2, X3, X4⟩⟩).drop 2 = (1, X4) :: (waysI ⟨X0, X1, ⟨X2, X3, X4⟩⟩).drop 3 from rfl, restI_cons] at HJ
              obtain ⟨⟨t1, t2⟩, ht1, HJ⟩ := Option.bind_eq_some_iff.mp HJ
              have HT_ := Aside0.mk ht1
              clear ht1 HS
              cases t2 with
              | true =>
                have HS := Aside0.mk (show restI (fun o b q => rec o b q ts') qs ((waysI ⟨X0, X1, ⟨X2, X3, X4⟩⟩).drop 3) t1 = some (r1, r2) from HJ)
                clear HJ
                go_wp2
                refine start_ (n := 27) (S := fun w' => w'.cell? tp = some (.slice (some ad0) l.length c0) ∧ w'.cell? ⟨(Addr.add ad0 (a'.toNat * 5)).block, (Addr.add ad0 (a'.toNat * 5)).off + 4, none⟩ = some (.int .i16 X4)) (ds := [21]) #[false, false, false, false, false, false, false, false, false, false, false, false, false, false, false, false, false, false, false, false, false, false, false, false, false, false, false] (by kernel_rfl) rfl rfl ⟨pt, y4⟩ (fun hHeld => ?_)
                refine pure_ (i := 0) (N := some 77) (v := ?_) (a' := ?_) #[true, false, false, false, false, false, false, false, false, false, false, false, false, false, false, false, false, false, false, false, false, false, false, false, false, false, false] rfl rfl (by kernel_rfl) (fun _ _ _ h => h) (Or.inl ⟨by rfl, ?_⟩) ?_ ?_
                rotate_left
                · intro w'
                  go_simp
                  with_reducible rfl
                rotate_left
                · simp only [Act.put, List.setIfInBounds_toArray, List.set_cons_zero, List.set_cons_succ, i64_w, i32_w]
                  rfl
                refine pure_ (i := 1) (N := some 78) (v := ?_) (a' := ?_) #[true, true, false, false, false, false, false, false, false, false, false, false, false, false, false, false, false, false, false, false, false, false, false, false, false, false, false] rfl rfl (by kernel_rfl) (fun _ _ _ h => h) (Or.inl ⟨by rfl, ?_⟩) ?_ ?_
                rotate_left
                · intro w'
                  go_simp
                  with_reducible rfl
                rotate_left
                · simp only [Act.put, List.setIfInBounds_toArray, List.set_cons_zero, List.set_cons_succ, i64_w, i32_w]
                  rfl
                refine pure_ (i := 2) (N := some 79) (v := ?_) (a' := ?_) #[true, true, true, false, false, false, false, false, false, false, false, false, false, false, false, false, false, false, false, false, false, false, false, false, false, false, false] rfl rfl (by kernel_rfl) (fun _ _ _ h => h) (Or.inl ⟨by rfl, ?_⟩) ?_ ?_
                rotate_left
                · intro w'
                  go_simp
                  with_reducible rfl
                rotate_left
                · simp only [Act.put, List.setIfInBounds_toArray, List.set_cons_zero, List.set_cons_succ, i64_w, i32_w]
                  rfl
                refine pure_ (i := 3) (N := some 80) (v := ?_) (a' := ?_) #[true, true, true, true, false, false, false, false, false, false, false, false, false, false, false, false, false, false, false, false, false, false, false, false, false, false, false] rfl rfl (by kernel_rfl) (fun _ _ _ h => h) (Or.inl ⟨by rfl, ?_⟩) ?_ ?_
                rotate_left
                · intro w'
                  go_simp
                  with_reducible rfl
                rotate_left
                · simp only [Act.put, List.setIfInBounds_toArray, List.set_cons_zero, List.set_cons_succ, i64_w, i32_w]
                  rfl
                refine pure_ (i := 5) (N := some 82) (v := ?_) (a' := ?_) #[true, true, true, true, false, true, false, false, false, false, false, false, false, false, false, false, false, false, false, false, false, false, false, false, false, false, false] rfl rfl (by kernel_rfl) (fun _ _ _ h => h) (Or.inl ⟨by rfl, ?_⟩) ?_ ?_
                rotate_left
                · intro w'
                  go_simp
                  with_reducible rfl
                rotate_left
                · simp only [Act.put, List.setIfInBounds_toArray, List.set_cons_zero, List.set_cons_succ, i64_w, i32_w]
                  rfl
                refine pure_ (i := 6) (N := some 83) (v := ?_) (a' := ?_) #[true, true, true, true, false, true, true, false, false, false, false, false, false, false, false, false, false, false, false, false, false, false, false, false, false, false, false] rfl rfl (by kernel_rfl) (fun _ _ _ h => h) (Or.inl ⟨by rfl, ?_⟩) ?_ ?_
                rotate_left
                · intro w'
                  go_simp
                  with_reducible rfl
                rotate_left
                · simp only [Act.put, List.setIfInBounds_toArray, List.set_cons_zero, List.set_cons_succ, i64_w, i32_w]
                  rfl
                refine pure_ (i := 7) (N := some 84) (v := ?_) (a' := ?_) #[true, true, true, true, false, true, true, true, false, false, false, false, false, false, false, false, false, false, false, false, false, false, false, false, false, false, false] rfl rfl (by kernel_rfl) (fun _ _ _ h => h) (Or.inl ⟨by rfl, ?_⟩) ?_ ?_
                rotate_left
                · intro w'
                  go_simp
                  with_reducible rfl
                rotate_left
                · simp only [Act.put, List.setIfInBounds_toArray, List.set_cons_zero, List.set_cons_succ, i64_w, i32_w]
                  rfl
                refine pure_ (i := 13) (N := some 90) (v := ?_) (a' := ?_) #[true, true, true, true, false, true, true, true, false, false, false, false, false, true, false, false, false, false, false, false, false, false, false, false, false, false, false] rfl rfl (by kernel_rfl) (fun _ _ _ h => h) (Or.inl ⟨by rfl, ?_⟩) ?_ ?_
                rotate_left
                · intro w'
                  go_simp
                  with_reducible rfl
                rotate_left
                · simp only [Act.put, List.setIfInBounds_toArray, List.set_cons_zero, List.set_cons_succ, i64_w, i32_w]
                  rfl
                refine pure_ (i := 15) (N := some 92) (v := ?_) (a' := ?_) #[true, true, true, true, false, true, true, true, false, false, false, false, false, true, false, true, false, false, false, false, false, false, false, false, false, false, false] rfl rfl (by kernel_rfl) (fun _ _ _ h => h) (Or.inl ⟨by rfl, ?_⟩) ?_ ?_
                rotate_left
                · intro w'
                  go_simp
                  with_reducible rfl
                rotate_left
                · simp only [Act.put, List.setIfInBounds_toArray, List.set_cons_zero, List.set_cons_succ, i64_w, i32_w]
                  rfl
                refine pure_ (i := 18) (N := some 95) (v := ?_) (a' := ?_) #[true, true, true, true, false, true, true, true, false, false, false, false, false, true, false, true, false, false, true, false, false, false, false, false, false, false, false] rfl rfl (by kernel_rfl) (fun _ _ _ h => h) (Or.inl ⟨by rfl, ?_⟩) ?_ ?_
                rotate_left
                · intro w'
                  go_simp
                  with_reducible rfl
                rotate_left
                · simp only [Act.put, List.setIfInBounds_toArray, List.set_cons_zero, List.set_cons_succ, i64_w, i32_w]
                  rfl
                refine pure_ (i := 19) (N := some 96) (v := ?_) (a' := ?_) #[true, true, true, true, false, true, true, true, false, false, false, false, false, true, false, true, false, false, true, true, false, false, false, false, false, false, false] rfl rfl (by kernel_rfl) (fun _ _ _ h => h) (Or.inl ⟨by rfl, ?_⟩) ?_ ?_
                rotate_left
                · intro w'
                  go_simp
                  with_reducible rfl
                rotate_left
                · simp only [Act.put, List.setIfInBounds_toArray, List.set_cons_zero, List.set_cons_succ, i64_w, i32_w]
                  rfl
                refine pure_ (i := 20) (N := some 97) (v := ?_) (a' := ?_) #[true, true, true, true, false, true, true, true, false, false, false, false, false, true, false, true, false, false, true, true, true, false, false, false, false, false, false] rfl rfl (by kernel_rfl) (fun _ _ _ h => h) (Or.inl ⟨by rfl, ?_⟩) ?_ ?_
                rotate_left
                · intro w'
                  go_simp
                  with_reducible rfl
                rotate_left
                · simp only [Act.put, List.setIfInBounds_toArray, List.set_cons_zero, List.set_cons_succ, i64_w, i32_w]
                  rfl
                refine take_ (i := 4) (N := some 81) (v := ?_) (a' := ?_) #[true, true, true, true, true, true, true, true, false, false, false, false, false, true, false, true, false, false, true, true, true, false, false, false, false, false, false] rfl rfl (by kernel_rfl) (fun _ _ _ h => h) (Or.inl ⟨by rfl, ?_⟩) hHeld ?_ ?_
                rotate_left
                · rintro w' ⟨s0, s1⟩
                  go_simp
                  with_reducible rfl
                rotate_left
                · simp only [Act.put, List.setIfInBounds_toArray, List.set_cons_zero, List.set_cons_succ, i64_w, i32_w]
                  rfl
                refine pure_ (i := 8) (N := some 85) (v := ?_) (a' := ?_) #[true, true, true, true, true, true, true, true, true, false, false, false, false, true, false, true, false, false, true, true, true, false, false, false, false, false, false] rfl rfl (by kernel_rfl) (fun _ _ _ h => h) (Or.inl ⟨by rfl, ?_⟩) ?_ ?_
                rotate_left
                · intro w'
                  go_simp
                  with_reducible rfl
                rotate_left
                · simp only [Act.put, List.setIfInBounds_toArray, List.set_cons_zero, List.set_cons_succ, i64_w, i32_w]
                  rfl
                refine pure_ (i := 9) (N := some 86) (v := ?_) (a' := ?_) #[true, true, true, true, true, true, true, true, true, true, false, false, false, true, false, true, false, false, true, true, true, false, false, false, false, false, false] rfl rfl (by kernel_rfl) (fun _ _ _ h => h) (Or.inl ⟨by rfl, ?_⟩) ?_ ?_
                rotate_left
                · intro w'
                  go_simp
                  with_reducible rfl
                rotate_left
                · simp only [Act.put, List.setIfInBounds_toArray, List.set_cons_zero, List.set_cons_succ, i64_w, i32_w]
                  rfl
                refine pure_ (i := 10) (N := some 87) (v := ?_) (a' := ?_) #[true, true, true, true, true, true, true, true, true, true, true, false, false, true, false, true, false, false, true, true, true, false, false, false, false, false, false] rfl rfl (by kernel_rfl) (fun _ _ _ h => h) (Or.inl ⟨by rfl, ?_⟩) ?_ ?_
                rotate_left
                · intro w'
                  go_simp
                  with_reducible rfl
                rotate_left
                · simp only [Act.put, List.setIfInBounds_toArray, List.set_cons_zero, List.set_cons_succ, i64_w, i32_w]
                  rfl
                refine take_ (i := 11) (N := some 88) (v := ?_) (a' := ?_) #[true, true, true, true, true, true, true, true, true, true, true, true, false, true, false, true, false, false, true, true, true, false, false, false, false, false, false] rfl rfl (by kernel_rfl) (fun _ _ _ h => h) (Or.inl ⟨by rfl, ?_⟩) hHeld ?_ ?_
                rotate_left
                · rintro w' ⟨s0, s1⟩
                  go_simp
                  with_reducible rfl
                rotate_left
                · simp only [Act.put, List.setIfInBounds_toArray, List.set_cons_zero, List.set_cons_succ, i64_w, i32_w]
                  rfl
                refine join_ (σ := Option Addr × Nat × Nat × Nat) 7 #[true, true, true, true, true, true, true, true, true, true, true, true, true, true, true, true, true, false, true, true, true, false, false, false, false, false, false] (fun s => [(89, .slice (some ⟨s.2.2.2, 0, none⟩) 0 0), (91, .slice s.1 qs.length s.2.1), (93, .slice (some ⟨s.2.2.1, 0, none⟩) 1 1)]) (fun s w' => Lit_ (World.drew wr) w' s.1 qs s.2.1 s.2.2.1 1) ?_ ?_
                rotate_left
                · intro hCont
                  refine two_ (i := 12) (j := 16) (Ni := some 89) (Nj := some 93) #[true, true, true, true, true, true, true, true, true, true, true, true, true, true, false, true, false, false, true, true, true, false, false, false, false, false, false] #[true, true, true, true, true, true, true, true, true, true, true, true, false, true, false, true, true, false, true, true, true, false, false, false, false, false, false] rfl rfl rfl rfl (by kernel_rfl) (by decide) (by decide) (fun K hK => ?_) (fun K hK => ?_)
                  · skip
                    refine value_ (w1 := ?_) (v := ?_) (by rfl) rfl ?_ ?_
                    rotate_left 2
                    · go_simp
                      constructor
                      · rfl
                      · rfl
                    generalize hqwE : World.drew (World.alloc wr _) = wE
                    have BwE := Aside0.mk (show Below wr.heap.size (World.drew wr) wE from by rw [← hqwE]; exact (below_alloc (Below.refl (World.drew wr).heap.size (World.drew wr)) (.cells #[] 86) : Below (World.drew wr).heap.size (World.drew wr) ((World.drew wr).alloc (.cells #[] 86))))
                    have GwE := Aside0.mk (show wE.heap[wr.heap.size]? = some (.cells #[] 86 (0, 0)) from by rw [← hqwE]; exact (show (wr.alloc (.cells #[] 86)).heap[wr.heap.size]? = _ from ha_at wr _ rfl))
                    clear hqwE
                    refine hK.out _ _ ⟨(cel (w := World.drew wr) BwE.out pt), (cel (w := World.drew wr) BwE.out y4)⟩ (fun hHeld => ?_)
                    clear hK K
                    refine norm_ (a' := ?_) ?_ ?_
                    rotate_left
                    · show Act.put _ (some 89) _ = _
                      simp only [Act.put, List.setIfInBounds_toArray, List.set_cons_zero, List.set_cons_succ, i64_w, i32_w]
                      rfl
                    refine two_ (i := 14) (j := 16) (Ni := some 91) (Nj := some 93) #[true, true, true, true, true, true, true, true, true, true, true, true, true, true, true, true, false, false, true, true, true, false, false, false, false, false, false] #[true, true, true, true, true, true, true, true, true, true, true, true, true, true, false, true, true, false, true, true, true, false, false, false, false, false, false] rfl rfl rfl rfl (by kernel_rfl) (by decide) (by decide) (fun K hK => ?_) (fun K hK => ?_)
                    · skip
                      refine Kd.R_append_rows_step (Kd.int .i8) (w0 := (World.drew wr)) (W := wE) wr.heap.size (by first | assumption | rfl) (.tmp 89) (.tmp 90) 25 86 (.int .i8 0) 1 rfl Try.underlying25 infoC8 rfl (by decide) (by decide) (.slice (some ⟨wr.heap.size, 0, none⟩) 0 0) [] qs Aa qs.length ca T_ (fun _ => False) rfl rfl (empty_R GwE.out (Nat.le_refl _) trivial) (Kd.C_below CA.out (Below.trans (below_drew1 (Below.refl _ _)) BwE.out)) (fun _ _ h => h) (fun _ h => h.elim) (fun _ _ => trivial) BwE.out BwE.out.size (by have := L0.out; simp only [List.length_nil]; omega) ?_
                      intro v3 w3 hR3 hb3 hg3 hat3
                      rw [List.nil_append] at hR3
                      obtain ⟨A3, m3, rfl⟩ := Kd.R_slice hR3
                      have R3 := Aside0.mk hR3
                      have B3 := Aside0.mk hb3
                      clear hR3 hb3 hg3 hat3
                      refine hK.out _ _ ⟨(cel (w := World.drew wr) B3.out pt), (cel (w := World.drew wr) B3.out y4)⟩ (fun hHeld => ?_)
                      clear hK K
                      refine norm_ (a' := ?_) ?_ ?_
                      rotate_left
                      · show Act.put _ (some 91) _ = _
                        simp only [Act.put, List.setIfInBounds_toArray, List.set_cons_zero, List.set_cons_succ, i64_w, i32_w]
                        rfl
                      refine one_ (i := 16) (N := some 93) #[true, true, true, true, true, true, true, true, true, true, true, true, true, true, true, true, true, false, true, true, true, false, false, false, false, false, false] rfl rfl (by kernel_rfl) (by decide) (fun K hK => ?_)
                      refine value_ (w1 := ?_) (v := ?_) (by rfl) rfl ?_ ?_
                      rotate_left 2
                      · go_simp
                        constructor
                        · rfl
                        · rfl
                      refine hK.out _ _ ⟨(cel (w := World.drew wr) (below_alloc B3.out _) pt), (cel (w := World.drew wr) (below_alloc B3.out _) y4)⟩ (fun hHeld => ?_)
                      clear hK K
                      refine norm_ (a' := ?_) ?_ ?_
                      rotate_left
                      · show Act.put _ (some 93) _ = _
                        simp only [Act.put, List.setIfInBounds_toArray, List.set_cons_zero, List.set_cons_succ, i64_w, i32_w]
                        rfl
                      exact norm_ (by simp only [putAll, Act.put, List.setIfInBounds_toArray, List.set_cons_zero, List.set_cons_succ]) (hCont (A3, m3, w3.heap.size, wr.heap.size) _ (Lit_after (wp := (World.drew wr)) 1 R3.out B3.out))
                    · skip
                      refine value_ (w1 := ?_) (v := ?_) (by rfl) rfl ?_ ?_
                      rotate_left 2
                      · go_simp
                        constructor
                        · rfl
                        · rfl
                      generalize hqwL : World.alloc wE _ = wL
                      have BwL := Aside0.mk (show Below wr.heap.size (World.drew wr) wL from by rw [← hqwL]; exact below_alloc (show Below (World.drew wr).heap.size (World.drew wr) wE from BwE.out) _)
                      have GwL := Aside0.mk (show wL.heap[wE.heap.size]? = some (.cells #[.int .i8 1] 86 (0, 0)) from by rw [← hqwL]; exact ha_at wE _ rfl)
                      have HwL := Aside0.mk (show wL.heap[wr.heap.size]? = wE.heap[wr.heap.size]? from by rw [← hqwL]; exact Below.heap_alloc wE _ _ (blk_lt_ GwE.out))
                      clear hqwL
                      refine hK.out _ _ ⟨(cel (w := World.drew wr) BwL.out pt), (cel (w := World.drew wr) BwL.out y4)⟩ (fun hHeld => ?_)
                      clear hK K
                      refine norm_ (a' := ?_) ?_ ?_
                      rotate_left
                      · show Act.put _ (some 93) _ = _
                        simp only [Act.put, List.setIfInBounds_toArray, List.set_cons_zero, List.set_cons_succ, i64_w, i32_w]
                        rfl
                      refine one_ (i := 14) (N := some 91) #[true, true, true, true, true, true, true, true, true, true, true, true, true, true, true, true, true, false, true, true, true, false, false, false, false, false, false] rfl rfl (by kernel_rfl) (by decide) (fun K hK => ?_)
                      refine Kd.R_append_rows_step (Kd.int .i8) (w0 := (World.drew wr)) (W := wL) wr.heap.size (by first | assumption | rfl) (.tmp 89) (.tmp 90) 25 86 (.int .i8 0) 1 rfl Try.underlying25 infoC8 rfl (by decide) (by decide) (.slice (some ⟨wr.heap.size, 0, none⟩) 0 0) [] qs Aa qs.length ca (fun k => k ≠ wE.heap.size) (fun _ => False) rfl rfl (empty_R (HwL.out.trans GwE.out) (Nat.le_refl _) (by have := blk_lt_ GwE.out; omega)) (Kd.C_below CA.out (Below.trans (below_drew1 (Below.refl _ _)) BwL.out)) (fun _ _ h => h) (fun _ h => h.elim) (fun k hk => by have := blk_lt_ GwL.out; omega) BwL.out BwL.out.size (by have := L0.out; simp only [List.length_nil]; omega) ?_
                      intro v3 w3 hR3 hb3 hg3 hat3
                      rw [List.nil_append] at hR3
                      obtain ⟨A3, m3, rfl⟩ := Kd.R_slice hR3
                      have hL3 := Aside0.mk (show Lit_ (World.drew wr) w3 A3 qs m3 wE.heap.size 1 from ⟨hR3, lit_keep GwL.out hg3 (by have := blk_lt_ GwE.out; simp [Value.ownBlock]; omega), BwE.out.size, hb3⟩)
                      clear hR3 hb3 hg3 hat3
                      refine hK.out _ _ ⟨(cel (w := World.drew wr) hL3.out.2.2.2 pt), (cel (w := World.drew wr) hL3.out.2.2.2 y4)⟩ (fun hHeld => ?_)
                      clear hK K
                      refine norm_ (a' := ?_) ?_ ?_
                      rotate_left
                      · show Act.put _ (some 91) _ = _
                        simp only [Act.put, List.setIfInBounds_toArray, List.set_cons_zero, List.set_cons_succ, i64_w, i32_w]
                        rfl
                      exact norm_ (by simp only [putAll, Act.put, List.setIfInBounds_toArray, List.set_cons_zero, List.set_cons_succ]) (hCont (A3, m3, wE.heap.size, wr.heap.size) _ hL3.out)
                  · skip
                    refine value_ (w1 := ?_) (v := ?_) (by rfl) rfl ?_ ?_
                    rotate_left 2
                    · go_simp
                      constructor
                      · rfl
                      · rfl
                    generalize hqwL : World.drew (World.alloc wr _) = wL
                    have BwL := Aside0.mk (show Below wr.heap.size (World.drew wr) wL from by rw [← hqwL]; exact (below_alloc (Below.refl (World.drew wr).heap.size (World.drew wr)) (.cells #[.int .i8 1] 86) : Below (World.drew wr).heap.size (World.drew wr) ((World.drew wr).alloc (.cells #[.int .i8 1] 86))))
                    have GwL := Aside0.mk (show wL.heap[wr.heap.size]? = some (.cells #[.int .i8 1] 86 (0, 0)) from by rw [← hqwL]; exact (show (wr.alloc (.cells #[.int .i8 1] 86)).heap[wr.heap.size]? = _ from ha_at wr _ rfl))
                    clear hqwL
                    refine hK.out _ _ ⟨(cel (w := World.drew wr) BwL.out pt), (cel (w := World.drew wr) BwL.out y4)⟩ (fun hHeld => ?_)
                    clear hK K
                    refine norm_ (a' := ?_) ?_ ?_
                    rotate_left
                    · show Act.put _ (some 93) _ = _
                      simp only [Act.put, List.setIfInBounds_toArray, List.set_cons_zero, List.set_cons_succ, i64_w, i32_w]
                      rfl
                    refine one_ (i := 12) (N := some 89) #[true, true, true, true, true, true, true, true, true, true, true, true, true, true, false, true, true, false, true, true, true, false, false, false, false, false, false] rfl rfl (by kernel_rfl) (by decide) (fun K hK => ?_)
                    refine value_ (w1 := ?_) (v := ?_) (by rfl) rfl ?_ ?_
                    rotate_left 2
                    · go_simp
                      constructor
                      · rfl
                      · rfl
                    generalize hqwE : World.alloc wL _ = wE
                    have BwE := Aside0.mk (show Below wr.heap.size (World.drew wr) wE from by rw [← hqwE]; exact below_alloc (show Below (World.drew wr).heap.size (World.drew wr) wL from BwL.out) _)
                    have GwE := Aside0.mk (show wE.heap[wL.heap.size]? = some (.cells #[] 86 (0, 0)) from by rw [← hqwE]; exact ha_at wL _ rfl)
                    have HwE := Aside0.mk (show wE.heap[wr.heap.size]? = wL.heap[wr.heap.size]? from by rw [← hqwE]; exact Below.heap_alloc wL _ _ (blk_lt_ GwL.out))
                    clear hqwE
                    refine hK.out _ _ ⟨(cel (w := World.drew wr) BwE.out pt), (cel (w := World.drew wr) BwE.out y4)⟩ (fun hHeld => ?_)
                    clear hK K
                    refine norm_ (a' := ?_) ?_ ?_
                    rotate_left
                    · show Act.put _ (some 89) _ = _
                      simp only [Act.put, List.setIfInBounds_toArray, List.set_cons_zero, List.set_cons_succ, i64_w, i32_w]
                      rfl
                    refine one_ (i := 14) (N := some 91) #[true, true, true, true, true, true, true, true, true, true, true, true, true, true, true, true, true, false, true, true, true, false, false, false, false, false, false] rfl rfl (by kernel_rfl) (by decide) (fun K hK => ?_)
                    refine Kd.R_append_rows_step (Kd.int .i8) (w0 := (World.drew wr)) (W := wE) wr.heap.size (by first | assumption | rfl) (.tmp 89) (.tmp 90) 25 86 (.int .i8 0) 1 rfl Try.underlying25 infoC8 rfl (by decide) (by decide) (.slice (some ⟨wL.heap.size, 0, none⟩) 0 0) [] qs Aa qs.length ca (fun k => k ≠ wr.heap.size) (fun _ => False) rfl rfl (empty_R GwE.out BwL.out.size (by have := blk_lt_ GwL.out; omega)) (Kd.C_below CA.out (Below.trans (below_drew1 (Below.refl _ _)) BwE.out)) (fun _ _ h => h) (fun _ h => h.elim) (fun k hk => by have := blk_lt_ (HwE.out.trans GwL.out); omega) BwE.out BwE.out.size (by have := L0.out; simp only [List.length_nil]; omega) ?_
                    intro v3 w3 hR3 hb3 hg3 hat3
                    rw [List.nil_append] at hR3
                    obtain ⟨A3, m3, rfl⟩ := Kd.R_slice hR3
                    have hL3 := Aside0.mk (show Lit_ (World.drew wr) w3 A3 qs m3 wr.heap.size 1 from ⟨hR3, lit_keep (HwE.out.trans GwL.out) hg3 (by have := blk_lt_ GwL.out; simp [Value.ownBlock]; omega), Nat.le_refl _, hb3⟩)
                    clear hR3 hb3 hg3 hat3
                    refine hK.out _ _ ⟨(cel (w := World.drew wr) hL3.out.2.2.2 pt), (cel (w := World.drew wr) hL3.out.2.2.2 y4)⟩ (fun hHeld => ?_)
                    clear hK K
                    refine norm_ (a' := ?_) ?_ ?_
                    rotate_left
                    · show Act.put _ (some 91) _ = _
                      simp only [Act.put, List.setIfInBounds_toArray, List.set_cons_zero, List.set_cons_succ, i64_w, i32_w]
                      rfl
                    exact norm_ (by simp only [putAll, Act.put, List.setIfInBounds_toArray, List.set_cons_zero, List.set_cons_succ]) (hCont (A3, m3, wr.heap.size, wL.heap.size) _ hL3.out)
                rintro ⟨A5, m5, kb, ke⟩ w5 hL5
                replace hL5 : Lit_ (World.drew wr) w5 A5 qs m5 kb 1 := hL5
                have L5 := Aside0.mk hL5
                clear hL5
                have hHeld : w5.cell? tp = some (.slice (some ad0) l.length c0) ∧ w5.cell? ⟨(Addr.add ad0 (a'.toNat * 5)).block, (Addr.add ad0 (a'.toNat * 5)).off + 4, none⟩ = some (.int .i16 X4) := ⟨(cel (w := World.drew wr) L5.out.2.2.2 pt), (cel (w := World.drew wr) L5.out.2.2.2 y4)⟩
                refine norm_ (a' := ?_) ?_ ?_
                rotate_left
                · simp only [putAll, Act.put, List.setIfInBounds_toArray, List.set_cons_zero, List.set_cons_succ]
                  rfl
                refine one_ (i := 17) (N := some 94) #[true, true, true, true, true, true, true, true, true, true, true, true, true, true, true, true, true, true, true, true, true, false, false, false, false, false, false] rfl rfl (by kernel_rfl) (by decide) (fun K hK => ?_)
                refine Kd.R_append_rows_step (Kd.int .i8) (w0 := (World.drew wr)) (W := w5) wr.heap.size (by first | assumption | rfl) (.tmp 91) (.tmp 93) 25 86 (.int .i8 0) 1 rfl Try.underlying25 infoC8 rfl (by decide) (by decide) (.slice A5 qs.length m5) qs [1] (some ⟨kb, 0, none⟩) 1 1 (fun k => k ≠ kb) (fun _ => False) rfl rfl L5.out.1 (one_C L5.out.2.1) (fun _ _ h => h) (fun _ h => h.elim) (fun k hk => by have := blk_lt_ L5.out.2.1; omega) L5.out.2.2.2 L5.out.2.2.2.size (by have := L0.out; omega) ?_
                intro v6 w6 hR6 hb6 hg6 hat6
                obtain ⟨A6, m6, rfl⟩ := Kd.R_slice hR6
                have R6 := Aside0.mk (Kd.R_lower (Kd.R_mono (ok' := T_) hR6 (fun _ _ => trivial)) SP.out)
                have B6 := Aside0.mk hb6
                have BB6 := Aside0.mk (BP.out.trans ((Below.trans (below_drew1 (Below.refl _ _)) hb6).mono SP.out))
                have K6 := Aside0.mk (Ks.below (T := [151]) (Below.trans (below_drew1 (Below.refl _ _)) hb6 : Below wr.heap.size wr w6))
                clear hR6 hb6 hg6 hat6 L5
                refine hK.out _ _ ⟨(cel (w := World.drew wr) B6.out pt), (cel (w := World.drew wr) B6.out y4)⟩ (fun hHeld => ?_)
                clear hK K
                refine norm_ (a' := ?_) ?_ ?_
                rotate_left
                · show Act.put _ (some 94) _ = _
                  simp only [Act.put, List.setIfInBounds_toArray, List.set_cons_zero, List.set_cons_succ, i64_w, i32_w]
                  rfl
                refine last_ (i := 21) (N := some 98) #[true, true, true, true, true, true, true, true, true, true, true, true, true, true, true, true, true, true, true, true, true, true, false, false, false, false, false] rfl rfl (by kernel_rfl) (by decide) (fun K hK => ?_)
                refine goes_ Try.func138 (by kernel_rfl) rfl #[.pointer (some tp), .int .i16 X4, .slice A6 (qs ++ [1]).length m6, .slice Bt ts'.length bt, .int .i64 n, .slice Au o.length cu] (by rfl) rfl rfl (by simp only [List.map_toArray, List.map_cons, List.map_nil]; rfl) ?_
                with_reducible refine (HREC.out o X4 1 ts' (t1, true) (.slice Au o.length cu) (.slice A6 (qs ++ [1]).length m6) (.slice Bt ts'.length bt) w6 HT_.out (Kd.S_below RO.out (Below.trans (below_drew1 (Below.refl _ _)) B6.out)) R6.out (Kd.R_below RT.out (Below.trans (below_drew1 (Below.refl _ _)) B6.out)) BB6.out).mono ?_
                rintro e w7 ⟨v7, rfl, hR7, hb7, hk7, hs7⟩
                refine ⟨_, rfl, ?_⟩
                obtain ⟨A7, c7, rfl⟩ := Kd.S_slice (hR7 rfl)
                have R7 := Aside0.mk (hR7 rfl)
                have B7 := Aside0.mk hb7
                have J7 := Aside0.mk (K6.out.trans hk7)
                have K7 := Aside0.mk (KP.out.trans J7.out)
                clear hR7 hb7 hk7 hs7
                refine hK.out _ _ ?_
                clear hK K
                refine norm_ (a' := ?_) ?_ ?_
                rotate_left
                · show Act.put _ (some 98) _ = _
                  simp only [Act.put, List.setIfInBounds_toArray, List.set_cons_zero, List.set_cons_succ, i64_w, i32_w]
                  rfl
                refine pure_ (i := 22) (N := some 76) (v := ?_) (a' := ?_) #[true, true, true, true, true, true, true, true, true, true, true, true, true, true, true, true, true, true, true, true, true, true, true, false, false, false, false] rfl rfl (by kernel_rfl) (fun _ _ _ h => h) (Or.inl ⟨by rfl, ?_⟩) ?_ ?_
                rotate_left
                · intro w'
                  go_simp
                  with_reducible rfl
                rotate_left
                · simp only [Act.put, List.setIfInBounds_toArray, List.set_cons_zero, List.set_cons_succ, i64_w, i32_w]
                  rfl
                refine pure_ (i := 23) (N := some 99) (v := ?_) (a' := ?_) #[true, true, true, true, true, true, true, true, true, true, true, true, true, true, true, true, true, true, true, true, true, true, true, true, false, false, false] rfl rfl (by kernel_rfl) (fun _ _ _ h => h) (Or.inl ⟨by rfl, ?_⟩) ?_ ?_
                rotate_left
                · intro w'
                  go_simp
                  with_reducible rfl
                rotate_left
                · simp only [Act.put, List.setIfInBounds_toArray, List.set_cons_zero, List.set_cons_succ, i64_w, i32_w]
                  rfl
                refine pure_ (i := 24) (N := some 100) (v := ?_) (a' := ?_) #[true, true, true, true, true, true, true, true, true, true, true, true, true, true, true, true, true, true, true, true, true, true, true, true, true, false, false] rfl rfl (by kernel_rfl) (fun _ _ _ h => h) (Or.inl ⟨by rfl, ?_⟩) ?_ ?_
                rotate_left
                · intro w'
                  go_simp
                  with_reducible rfl
                rotate_left
                · simp only [Act.put, List.setIfInBounds_toArray, List.set_cons_zero, List.set_cons_succ, i64_w, i32_w]
                  rfl
                refine pure_ (i := 25) (N := some 15) (v := ?_) (a' := ?_) #[true, true, true, true, true, true, true, true, true, true, true, true, true, true, true, true, true, true, true, true, true, true, true, true, true, true, false] rfl rfl (by kernel_rfl) (fun _ _ _ h => h) (Or.inl ⟨by rfl, ?_⟩) ?_ ?_
                rotate_left
                · intro w'
                  go_simp
                  with_reducible rfl
                rotate_left
                · simp only [Act.put, List.setIfInBounds_toArray, List.set_cons_zero, List.set_cons_succ, i64_w, i32_w]
                  rfl
                refine pure_ (i := 26) (N := some 16) (v := ?_) (a' := ?_) #[true, true, true, true, true, true, true, true, true, true, true, true, true, true, true, true, true, true, true, true, true, true, true, true, true, true, true] rfl rfl (by kernel_rfl) (fun _ _ _ h => h) (Or.inl ⟨by rfl, ?_⟩) ?_ ?_
                rotate_left
                · intro w'
                  go_simp
                  with_reducible rfl
                rotate_left
                · simp only [Act.put, List.setIfInBounds_toArray, List.set_cons_zero, List.set_cons_succ, i64_w, i32_w]
                  rfl
                refine done_ (by kernel_rfl) ?_
                go_wp2
                go_round
                case rel => exact ⟨3, t1, A7, c7, rfl, by first | (with_reducible rfl) | rfl | go_num, ⟨by omega⟩, HS, R7, ⟨R_Ks RA.out J7.out (by decide)⟩, ⟨R_Ks RT.out J7.out (by decide)⟩, B7, K7⟩
                case measure => first | (simp [intOf]; done) | (simp [intOf]; omega)
              | false =>
                have hz : some (([] : List S151), false) = some (r1, r2) := HJ
                obtain ⟨rfl, rfl⟩ := Prod.mk.inj (Option.some.inj hz)
                clear HJ hz
                go_wp2
                refine start_ (n := 27) (S := fun w' => w'.cell? tp = some (.slice (some ad0) l.length c0) ∧ w'.cell? ⟨(Addr.add ad0 (a'.toNat * 5)).block, (Addr.add ad0 (a'.toNat * 5)).off + 4, none⟩ = some (.int .i16 X4)) (ds := [21]) #[false, false, false, false, false, false, false, false, false, false, false, false, false, false, false, false, false, false, false, false, false, false, false, false, false, false, false] (by kernel_rfl) rfl rfl ⟨pt, y4⟩ (fun hHeld => ?_)
                refine pure_ (i := 0) (N := some 77) (v := ?_) (a' := ?_) #[true, false, false, false, false, false, false, false, false, false, false, false, false, false, false, false, false, false, false, false, false, false, false, false, false, false, false] rfl rfl (by kernel_rfl) (fun _ _ _ h => h) (Or.inl ⟨by rfl, ?_⟩) ?_ ?_
                rotate_left
                · intro w'
                  go_simp
                  with_reducible rfl
                rotate_left
                · simp only [Act.put, List.setIfInBounds_toArray, List.set_cons_zero, List.set_cons_succ, i64_w, i32_w]
                  rfl
                refine pure_ (i := 1) (N := some 78) (v := ?_) (a' := ?_) #[true, true, false, false, false, false, false, false, false, false, false, false, false, false, false, false, false, false, false, false, false, false, false, false, false, false, false] rfl rfl (by kernel_rfl) (fun _ _ _ h => h) (Or.inl ⟨by rfl, ?_⟩) ?_ ?_
                rotate_left
                · intro w'
                  go_simp
                  with_reducible rfl
                rotate_left
                · simp only [Act.put, List.setIfInBounds_toArray, List.set_cons_zero, List.set_cons_succ, i64_w, i32_w]
                  rfl
                refine pure_ (i := 2) (N := some 79) (v := ?_) (a' := ?_) #[true, true, true, false, false, false, false, false, false, false, false, false, false, false, false, false, false, false, false, false, false, false, false, false, false, false, false] rfl rfl (by kernel_rfl) (fun _ _ _ h => h) (Or.inl ⟨by rfl, ?_⟩) ?_ ?_
                rotate_left
                · intro w'
                  go_simp
                  with_reducible rfl
                rotate_left
                · simp only [Act.put, List.setIfInBounds_toArray, List.set_cons_zero, List.set_cons_succ, i64_w, i32_w]
                  rfl
                refine pure_ (i := 3) (N := some 80) (v := ?_) (a' := ?_) #[true, true, true, true, false, false, false, false, false, false, false, false, false, false, false, false, false, false, false, false, false, false, false, false, false, false, false] rfl rfl (by kernel_rfl) (fun _ _ _ h => h) (Or.inl ⟨by rfl, ?_⟩) ?_ ?_
                rotate_left
                · intro w'
                  go_simp
                  with_reducible rfl
                rotate_left
                · simp only [Act.put, List.setIfInBounds_toArray, List.set_cons_zero, List.set_cons_succ, i64_w, i32_w]
                  rfl
                refine pure_ (i := 5) (N := some 82) (v := ?_) (a' := ?_) #[true, true, true, true, false, true, false, false, false, false, false, false, false, false, false, false, false, false, false, false, false, false, false, false, false, false, false] rfl rfl (by kernel_rfl) (fun _ _ _ h => h) (Or.inl ⟨by rfl, ?_⟩) ?_ ?_
                rotate_left
                · intro w'
                  go_simp
                  with_reducible rfl
                rotate_left
                · simp only [Act.put, List.setIfInBounds_toArray, List.set_cons_zero, List.set_cons_succ, i64_w, i32_w]
                  rfl
                refine pure_ (i := 6) (N := some 83) (v := ?_) (a' := ?_) #[true, true, true, true, false, true, true, false, false, false, false, false, false, false, false, false, false, false, false, false, false, false, false, false, false, false, false] rfl rfl (by kernel_rfl) (fun _ _ _ h => h) (Or.inl ⟨by rfl, ?_⟩) ?_ ?_
                rotate_left
                · intro w'
                  go_simp
                  with_reducible rfl
                rotate_left
                · simp only [Act.put, List.setIfInBounds_toArray, List.set_cons_zero, List.set_cons_succ, i64_w, i32_w]
                  rfl
                refine pure_ (i := 7) (N := some 84) (v := ?_) (a' := ?_) #[true, true, true, true, false, true, true, true, false, false, false, false, false, false, false, false, false, false, false, false, false, false, false, false, false, false, false] rfl rfl (by kernel_rfl) (fun _ _ _ h => h) (Or.inl ⟨by rfl, ?_⟩) ?_ ?_
                rotate_left
                · intro w'
                  go_simp
                  with_reducible rfl
                rotate_left
                · simp only [Act.put, List.setIfInBounds_toArray, List.set_cons_zero, List.set_cons_succ, i64_w, i32_w]
                  rfl
                refine pure_ (i := 13) (N := some 90) (v := ?_) (a' := ?_) #[true, true, true, true, false, true, true, true, false, false, false, false, false, true, false, false, false, false, false, false, false, false, false, false, false, false, false] rfl rfl (by kernel_rfl) (fun _ _ _ h => h) (Or.inl ⟨by rfl, ?_⟩) ?_ ?_
                rotate_left
                · intro w'
                  go_simp
                  with_reducible rfl
                rotate_left
                · simp only [Act.put, List.setIfInBounds_toArray, List.set_cons_zero, List.set_cons_succ, i64_w, i32_w]
                  rfl
                refine pure_ (i := 15) (N := some 92) (v := ?_) (a' := ?_) #[true, true, true, true, false, true, true, true, false, false, false, false, false, true, false, true, false, false, false, false, false, false, false, false, false, false, false] rfl rfl (by kernel_rfl) (fun _ _ _ h => h) (Or.inl ⟨by rfl, ?_⟩) ?_ ?_
                rotate_left
                · intro w'
                  go_simp
                  with_reducible rfl
                rotate_left
                · simp only [Act.put, List.setIfInBounds_toArray, List.set_cons_zero, List.set_cons_succ, i64_w, i32_w]
                  rfl
                refine pure_ (i := 18) (N := some 95) (v := ?_) (a' := ?_) #[true, true, true, true, false, true, true, true, false, false, false, false, false, true, false, true, false, false, true, false, false, false, false, false, false, false, false] rfl rfl (by kernel_rfl) (fun _ _ _ h => h) (Or.inl ⟨by rfl, ?_⟩) ?_ ?_
                rotate_left
                · intro w'
                  go_simp
                  with_reducible rfl
                rotate_left
                · simp only [Act.put, List.setIfInBounds_toArray, List.set_cons_zero, List.set_cons_succ, i64_w, i32_w]
                  rfl
                refine pure_ (i := 19) (N := some 96) (v := ?_) (a' := ?_) #[true, true, true, true, false, true, true, true, false, false, false, false, false, true, false, true, false, false, true, true, false, false, false, false, false, false, false] rfl rfl (by kernel_rfl) (fun _ _ _ h => h) (Or.inl ⟨by rfl, ?_⟩) ?_ ?_
                rotate_left
                · intro w'
                  go_simp
                  with_reducible rfl
                rotate_left
                · simp only [Act.put, List.setIfInBounds_toArray, List.set_cons_zero, List.set_cons_succ, i64_w, i32_w]
                  rfl
                refine pure_ (i := 20) (N := some 97) (v := ?_) (a' := ?_) #[true, true, true, true, false, true, true, true, false, false, false, false, false, true, false, true, false, false, true, true, true, false, false, false, false, false, false] rfl rfl (by kernel_rfl) (fun _ _ _ h => h) (Or.inl ⟨by rfl, ?_⟩) ?_ ?_
                rotate_left
                · intro w'
                  go_simp
                  with_reducible rfl
                rotate_left
                · simp only [Act.put, List.setIfInBounds_toArray, List.set_cons_zero, List.set_cons_succ, i64_w, i32_w]
                  rfl
                refine take_ (i := 4) (N := some 81) (v := ?_) (a' := ?_) #[true, true, true, true, true, true, true, true, false, false, false, false, false, true, false, true, false, false, true, true, true, false, false, false, false, false, false] rfl rfl (by kernel_rfl) (fun _ _ _ h => h) (Or.inl ⟨by rfl, ?_⟩) hHeld ?_ ?_
                rotate_left
                · rintro w' ⟨s0, s1⟩
                  go_simp
                  with_reducible rfl
                rotate_left
                · simp only [Act.put, List.setIfInBounds_toArray, List.set_cons_zero, List.set_cons_succ, i64_w, i32_w]
                  rfl
                refine pure_ (i := 8) (N := some 85) (v := ?_) (a' := ?_) #[true, true, true, true, true, true, true, true, true, false, false, false, false, true, false, true, false, false, true, true, true, false, false, false, false, false, false] rfl rfl (by kernel_rfl) (fun _ _ _ h => h) (Or.inl ⟨by rfl, ?_⟩) ?_ ?_
                rotate_left
                · intro w'
                  go_simp
                  with_reducible rfl
                rotate_left
                · simp only [Act.put, List.setIfInBounds_toArray, List.set_cons_zero, List.set_cons_succ, i64_w, i32_w]
                  rfl
                refine pure_ (i := 9) (N := some 86) (v := ?_) (a' := ?_) #[true, true, true, true, true, true, true, true, true, true, false, false, false, true, false, true, false, false, true, true, true, false, false, false, false, false, false] rfl rfl (by kernel_rfl) (fun _ _ _ h => h) (Or.inl ⟨by rfl, ?_⟩) ?_ ?_
                rotate_left
                · intro w'
                  go_simp
                  with_reducible rfl
                rotate_left
                · simp only [Act.put, List.setIfInBounds_toArray, List.set_cons_zero, List.set_cons_succ, i64_w, i32_w]
                  rfl
                refine pure_ (i := 10) (N := some 87) (v := ?_) (a' := ?_) #[true, true, true, true, true, true, true, true, true, true, true, false, false, true, false, true, false, false, true, true, true, false, false, false, false, false, false] rfl rfl (by kernel_rfl) (fun _ _ _ h => h) (Or.inl ⟨by rfl, ?_⟩) ?_ ?_
                rotate_left
                · intro w'
                  go_simp
                  with_reducible rfl
                rotate_left
                · simp only [Act.put, List.setIfInBounds_toArray, List.set_cons_zero, List.set_cons_succ, i64_w, i32_w]
                  rfl
                refine take_ (i := 11) (N := some 88) (v := ?_) (a' := ?_) #[true, true, true, true, true, true, true, true, true, true, true, true, false, true, false, true, false, false, true, true, true, false, false, false, false, false, false] rfl rfl (by kernel_rfl) (fun _ _ _ h => h) (Or.inl ⟨by rfl, ?_⟩) hHeld ?_ ?_
                rotate_left
                · rintro w' ⟨s0, s1⟩
                  go_simp
                  with_reducible rfl
                rotate_left
                · simp only [Act.put, List.setIfInBounds_toArray, List.set_cons_zero, List.set_cons_succ, i64_w, i32_w]
                  rfl
                refine join_ (σ := Option Addr × Nat × Nat × Nat) 7 #[true, true, true, true, true, true, true, true, true, true, true, true, true, true, true, true, true, false, true, true, true, false, false, false, false, false, false] (fun s => [(89, .slice (some ⟨s.2.2.2, 0, none⟩) 0 0), (91, .slice s.1 qs.length s.2.1), (93, .slice (some ⟨s.2.2.1, 0, none⟩) 1 1)]) (fun s w' => Lit_ (World.drew wr) w' s.1 qs s.2.1 s.2.2.1 1) ?_ ?_
                rotate_left
                · intro hCont
                  refine two_ (i := 12) (j := 16) (Ni := some 89) (Nj := some 93) #[true, true, true, true, true, true, true, true, true, true, true, true, true, true, false, true, false, false, true, true, true, false, false, false, false, false, false] #[true, true, true, true, true, true, true, true, true, true, true, true, false, true, false, true, true, false, true, true, true, false, false, false, false, false, false] rfl rfl rfl rfl (by kernel_rfl) (by decide) (by decide) (fun K hK => ?_) (fun K hK => ?_)
                  · skip
                    refine value_ (w1 := ?_) (v := ?_) (by rfl) rfl ?_ ?_
                    rotate_left 2
                    · go_simp
                      constructor
                      · rfl
                      · rfl
                    generalize hqwE : World.drew (World.alloc wr _) = wE
                    have BwE := Aside0.mk (show Below wr.heap.size (World.drew wr) wE from by rw [← hqwE]; exact (below_alloc (Below.refl (World.drew wr).heap.size (World.drew wr)) (.cells #[] 86) : Below (World.drew wr).heap.size (World.drew wr) ((World.drew wr).alloc (.cells #[] 86))))
                    have GwE := Aside0.mk (show wE.heap[wr.heap.size]? = some (.cells #[] 86 (0, 0)) from by rw [← hqwE]; exact (show (wr.alloc (.cells #[] 86)).heap[wr.heap.size]? = _ from ha_at wr _ rfl))
                    clear hqwE
                    refine hK.out _ _ ⟨(cel (w := World.drew wr) BwE.out pt), (cel (w := World.drew wr) BwE.out y4)⟩ (fun hHeld => ?_)
                    clear hK K
                    refine norm_ (a' := ?_) ?_ ?_
                    rotate_left
                    · show Act.put _ (some 89) _ = _
                      simp only [Act.put, List.setIfInBounds_toArray, List.set_cons_zero, List.set_cons_succ, i64_w, i32_w]
                      rfl
                    refine two_ (i := 14) (j := 16) (Ni := some 91) (Nj := some 93) #[true, true, true, true, true, true, true, true, true, true, true, true, true, true, true, true, false, false, true, true, true, false, false, false, false, false, false] #[true, true, true, true, true, true, true, true, true, true, true, true, true, true, false, true, true, false, true, true, true, false, false, false, false, false, false] rfl rfl rfl rfl (by kernel_rfl) (by decide) (by decide) (fun K hK => ?_) (fun K hK => ?_)
                    · skip
                      refine Kd.R_append_rows_step (Kd.int .i8) (w0 := (World.drew wr)) (W := wE) wr.heap.size (by first | assumption | rfl) (.tmp 89) (.tmp 90) 25 86 (.int .i8 0) 1 rfl Try.underlying25 infoC8 rfl (by decide) (by decide) (.slice (some ⟨wr.heap.size, 0, none⟩) 0 0) [] qs Aa qs.length ca T_ (fun _ => False) rfl rfl (empty_R GwE.out (Nat.le_refl _) trivial) (Kd.C_below CA.out (Below.trans (below_drew1 (Below.refl _ _)) BwE.out)) (fun _ _ h => h) (fun _ h => h.elim) (fun _ _ => trivial) BwE.out BwE.out.size (by have := L0.out; simp only [List.length_nil]; omega) ?_
                      intro v3 w3 hR3 hb3 hg3 hat3
                      rw [List.nil_append] at hR3
                      obtain ⟨A3, m3, rfl⟩ := Kd.R_slice hR3
                      have R3 := Aside0.mk hR3
                      have B3 := Aside0.mk hb3
                      clear hR3 hb3 hg3 hat3
                      refine hK.out _ _ ⟨(cel (w := World.drew wr) B3.out pt), (cel (w := World.drew wr) B3.out y4)⟩ (fun hHeld => ?_)
                      clear hK K
                      refine norm_ (a' := ?_) ?_ ?_
                      rotate_left
                      · show Act.put _ (some 91) _ = _
                        simp only [Act.put, List.setIfInBounds_toArray, List.set_cons_zero, List.set_cons_succ, i64_w, i32_w]
                        rfl
                      refine one_ (i := 16) (N := some 93) #[true, true, true, true, true, true, true, true, true, true, true, true, true, true, true, true, true, false, true, true, true, false, false, false, false, false, false] rfl rfl (by kernel_rfl) (by decide) (fun K hK => ?_)
                      refine value_ (w1 := ?_) (v := ?_) (by rfl) rfl ?_ ?_
                      rotate_left 2
                      · go_simp
                        constructor
                        · rfl
                        · rfl
                      refine hK.out _ _ ⟨(cel (w := World.drew wr) (below_alloc B3.out _) pt), (cel (w := World.drew wr) (below_alloc B3.out _) y4)⟩ (fun hHeld => ?_)
                      clear hK K
                      refine norm_ (a' := ?_) ?_ ?_
                      rotate_left
                      · show Act.put _ (some 93) _ = _
                        simp only [Act.put, List.setIfInBounds_toArray, List.set_cons_zero, List.set_cons_succ, i64_w, i32_w]
                        rfl
                      exact norm_ (by simp only [putAll, Act.put, List.setIfInBounds_toArray, List.set_cons_zero, List.set_cons_succ]) (hCont (A3, m3, w3.heap.size, wr.heap.size) _ (Lit_after (wp := (World.drew wr)) 1 R3.out B3.out))
                    · skip
                      refine value_ (w1 := ?_) (v := ?_) (by rfl) rfl ?_ ?_
                      rotate_left 2
                      · go_simp
                        constructor
                        · rfl
                        · rfl
                      generalize hqwL : World.alloc wE _ = wL
                      have BwL := Aside0.mk (show Below wr.heap.size (World.drew wr) wL from by rw [← hqwL]; exact below_alloc (show Below (World.drew wr).heap.size (World.drew wr) wE from BwE.out) _)
                      have GwL := Aside0.mk (show wL.heap[wE.heap.size]? = some (.cells #[.int .i8 1] 86 (0, 0)) from by rw [← hqwL]; exact ha_at wE _ rfl)
                      have HwL := Aside0.mk (show wL.heap[wr.heap.size]? = wE.heap[wr.heap.size]? from by rw [← hqwL]; exact Below.heap_alloc wE _ _ (blk_lt_ GwE.out))
                      clear hqwL
                      refine hK.out _ _ ⟨(cel (w := World.drew wr) BwL.out pt), (cel (w := World.drew wr) BwL.out y4)⟩ (fun hHeld => ?_)
                      clear hK K
                      refine norm_ (a' := ?_) ?_ ?_
                      rotate_left
                      · show Act.put _ (some 93) _ = _
                        simp only [Act.put, List.setIfInBounds_toArray, List.set_cons_zero, List.set_cons_succ, i64_w, i32_w]
                        rfl
                      refine one_ (i := 14) (N := some 91) #[true, true, true, true, true, true, true, true, true, true, true, true, true, true, true, true, true, false, true, true, true, false, false, false, false, false, false] rfl rfl (by kernel_rfl) (by decide) (fun K hK => ?_)
                      refine Kd.R_append_rows_step (Kd.int .i8) (w0 := (World.drew wr)) (W := wL) wr.heap.size (by first | assumption | rfl) (.tmp 89) (.tmp 90) 25 86 (.int .i8 0) 1 rfl Try.underlying25 infoC8 rfl (by decide) (by decide) (.slice (some ⟨wr.heap.size, 0, none⟩) 0 0) [] qs Aa qs.length ca (fun k => k ≠ wE.heap.size) (fun _ => False) rfl rfl (empty_R (HwL.out.trans GwE.out) (Nat.le_refl _) (by have := blk_lt_ GwE.out; omega)) (Kd.C_below CA.out (Below.trans (below_drew1 (Below.refl _ _)) BwL.out)) (fun _ _ h => h) (fun _ h => h.elim) (fun k hk => by have := blk_lt_ GwL.out; omega) BwL.out BwL.out.size (by have := L0.out; simp only [List.length_nil]; omega) ?_
                      intro v3 w3 hR3 hb3 hg3 hat3
                      rw [List.nil_append] at hR3
                      obtain ⟨A3, m3, rfl⟩ := Kd.R_slice hR3
                      have hL3 := Aside0.mk (show Lit_ (World.drew wr) w3 A3 qs m3 wE.heap.size 1 from ⟨hR3, lit_keep GwL.out hg3 (by have := blk_lt_ GwE.out; simp [Value.ownBlock]; omega), BwE.out.size, hb3⟩)
                      clear hR3 hb3 hg3 hat3
                      refine hK.out _ _ ⟨(cel (w := World.drew wr) hL3.out.2.2.2 pt), (cel (w := World.drew wr) hL3.out.2.2.2 y4)⟩ (fun hHeld => ?_)
                      clear hK K
                      refine norm_ (a' := ?_) ?_ ?_
                      rotate_left
                      · show Act.put _ (some 91) _ = _
                        simp only [Act.put, List.setIfInBounds_toArray, List.set_cons_zero, List.set_cons_succ, i64_w, i32_w]
                        rfl
                      exact norm_ (by simp only [putAll, Act.put, List.setIfInBounds_toArray, List.set_cons_zero, List.set_cons_succ]) (hCont (A3, m3, wE.heap.size, wr.heap.size) _ hL3.out)
                  · skip
                    refine value_ (w1 := ?_) (v := ?_) (by rfl) rfl ?_ ?_
                    rotate_left 2
                    · go_simp
                      constructor
                      · rfl
                      · rfl
                    generalize hqwL : World.drew (World.alloc wr _) = wL
                    have BwL := Aside0.mk (show Below wr.heap.size (World.drew wr) wL from by rw [← hqwL]; exact (below_alloc (Below.refl (World.drew wr).heap.size (World.drew wr)) (.cells #[.int .i8 1] 86) : Below (World.drew wr).heap.size (World.drew wr) ((World.drew wr).alloc (.cells #[.int .i8 1] 86))))
                    have GwL := Aside0.mk (show wL.heap[wr.heap.size]? = some (.cells #[.int .i8 1] 86 (0, 0)) from by rw [← hqwL]; exact (show (wr.alloc (.cells #[.int .i8 1] 86)).heap[wr.heap.size]? = _ from ha_at wr _ rfl))
                    clear hqwL
                    refine hK.out _ _ ⟨(cel (w := World.drew wr) BwL.out pt), (cel (w := World.drew wr) BwL.out y4)⟩ (fun hHeld => ?_)
                    clear hK K
                    refine norm_ (a' := ?_) ?_ ?_
                    rotate_left
                    · show Act.put _ (some 93) _ = _
                      simp only [Act.put, List.setIfInBounds_toArray, List.set_cons_zero, List.set_cons_succ, i64_w, i32_w]
                      rfl
                    refine one_ (i := 12) (N := some 89) #[true, true, true, true, true, true, true, true, true, true, true, true, true, true, false, true, true, false, true, true, true, false, false, false, false, false, false] rfl rfl (by kernel_rfl) (by decide) (fun K hK => ?_)
                    refine value_ (w1 := ?_) (v := ?_) (by rfl) rfl ?_ ?_
                    rotate_left 2
                    · go_simp
                      constructor
                      · rfl
                      · rfl
                    generalize hqwE : World.alloc wL _ = wE
                    have BwE := Aside0.mk (show Below wr.heap.size (World.drew wr) wE from by rw [← hqwE]; exact below_alloc (show Below (World.drew wr).heap.size (World.drew wr) wL from BwL.out) _)
                    have GwE := Aside0.mk (show wE.heap[wL.heap.size]? = some (.cells #[] 86 (0, 0)) from by rw [← hqwE]; exact ha_at wL _ rfl)
                    have HwE := Aside0.mk (show wE.heap[wr.heap.size]? = wL.heap[wr.heap.size]? from by rw [← hqwE]; exact Below.heap_alloc wL _ _ (blk_lt_ GwL.out))
                    clear hqwE
                    refine hK.out _ _ ⟨(cel (w := World.drew wr) BwE.out pt), (cel (w := World.drew wr) BwE.out y4)⟩ (fun hHeld => ?_)
                    clear hK K
                    refine norm_ (a' := ?_) ?_ ?_
                    rotate_left
                    · show Act.put _ (some 89) _ = _
                      simp only [Act.put, List.setIfInBounds_toArray, List.set_cons_zero, List.set_cons_succ, i64_w, i32_w]
                      rfl
                    refine one_ (i := 14) (N := some 91) #[true, true, true, true, true, true, true, true, true, true, true, true, true, true, true, true, true, false, true, true, true, false, false, false, false, false, false] rfl rfl (by kernel_rfl) (by decide) (fun K hK => ?_)
                    refine Kd.R_append_rows_step (Kd.int .i8) (w0 := (World.drew wr)) (W := wE) wr.heap.size (by first | assumption | rfl) (.tmp 89) (.tmp 90) 25 86 (.int .i8 0) 1 rfl Try.underlying25 infoC8 rfl (by decide) (by decide) (.slice (some ⟨wL.heap.size, 0, none⟩) 0 0) [] qs Aa qs.length ca (fun k => k ≠ wr.heap.size) (fun _ => False) rfl rfl (empty_R GwE.out BwL.out.size (by have := blk_lt_ GwL.out; omega)) (Kd.C_below CA.out (Below.trans (below_drew1 (Below.refl _ _)) BwE.out)) (fun _ _ h => h) (fun _ h => h.elim) (fun k hk => by have := blk_lt_ (HwE.out.trans GwL.out); omega) BwE.out BwE.out.size (by have := L0.out; simp only [List.length_nil]; omega) ?_
                    intro v3 w3 hR3 hb3 hg3 hat3
                    rw [List.nil_append] at hR3
                    obtain ⟨A3, m3, rfl⟩ := Kd.R_slice hR3
                    have hL3 := Aside0.mk (show Lit_ (World.drew wr) w3 A3 qs m3 wr.heap.size 1 from ⟨hR3, lit_keep (HwE.out.trans GwL.out) hg3 (by have := blk_lt_ GwL.out; simp [Value.ownBlock]; omega), Nat.le_refl _, hb3⟩)
                    clear hR3 hb3 hg3 hat3
                    refine hK.out _ _ ⟨(cel (w := World.drew wr) hL3.out.2.2.2 pt), (cel (w := World.drew wr) hL3.out.2.2.2 y4)⟩ (fun hHeld => ?_)
                    clear hK K
                    refine norm_ (a' := ?_) ?_ ?_
                    rotate_left
                    · show Act.put _ (some 91) _ = _
                      simp only [Act.put, List.setIfInBounds_toArray, List.set_cons_zero, List.set_cons_succ, i64_w, i32_w]
                      rfl
                    exact norm_ (by simp only [putAll, Act.put, List.setIfInBounds_toArray, List.set_cons_zero, List.set_cons_succ]) (hCont (A3, m3, wr.heap.size, wL.heap.size) _ hL3.out)
                rintro ⟨A5, m5, kb, ke⟩ w5 hL5
                replace hL5 : Lit_ (World.drew wr) w5 A5 qs m5 kb 1 := hL5
                have L5 := Aside0.mk hL5
                clear hL5
                have hHeld : w5.cell? tp = some (.slice (some ad0) l.length c0) ∧ w5.cell? ⟨(Addr.add ad0 (a'.toNat * 5)).block, (Addr.add ad0 (a'.toNat * 5)).off + 4, none⟩ = some (.int .i16 X4) := ⟨(cel (w := World.drew wr) L5.out.2.2.2 pt), (cel (w := World.drew wr) L5.out.2.2.2 y4)⟩
                refine norm_ (a' := ?_) ?_ ?_
                rotate_left
                · simp only [putAll, Act.put, List.setIfInBounds_toArray, List.set_cons_zero, List.set_cons_succ]
                  rfl
                refine one_ (i := 17) (N := some 94) #[true, true, true, true, true, true, true, true, true, true, true, true, true, true, true, true, true, true, true, true, true, false, false, false, false, false, false] rfl rfl (by kernel_rfl) (by decide) (fun K hK => ?_)
                refine Kd.R_append_rows_step (Kd.int .i8) (w0 := (World.drew wr)) (W := w5) wr.heap.size (by first | assumption | rfl) (.tmp 91) (.tmp 93) 25 86 (.int .i8 0) 1 rfl Try.underlying25 infoC8 rfl (by decide) (by decide) (.slice A5 qs.length m5) qs [1] (some ⟨kb, 0, none⟩) 1 1 (fun k => k ≠ kb) (fun _ => False) rfl rfl L5.out.1 (one_C L5.out.2.1) (fun _ _ h => h) (fun _ h => h.elim) (fun k hk => by have := blk_lt_ L5.out.2.1; omega) L5.out.2.2.2 L5.out.2.2.2.size (by have := L0.out; omega) ?_
                intro v6 w6 hR6 hb6 hg6 hat6
                obtain ⟨A6, m6, rfl⟩ := Kd.R_slice hR6
                have R6 := Aside0.mk (Kd.R_lower (Kd.R_mono (ok' := T_) hR6 (fun _ _ => trivial)) SP.out)
                have B6 := Aside0.mk hb6
                have BB6 := Aside0.mk (BP.out.trans ((Below.trans (below_drew1 (Below.refl _ _)) hb6).mono SP.out))
                have K6 := Aside0.mk (Ks.below (T := [151]) (Below.trans (below_drew1 (Below.refl _ _)) hb6 : Below wr.heap.size wr w6))
                clear hR6 hb6 hg6 hat6 L5
                refine hK.out _ _ ⟨(cel (w := World.drew wr) B6.out pt), (cel (w := World.drew wr) B6.out y4)⟩ (fun hHeld => ?_)
                clear hK K
                refine norm_ (a' := ?_) ?_ ?_
                rotate_left
                · show Act.put _ (some 94) _ = _
                  simp only [Act.put, List.setIfInBounds_toArray, List.set_cons_zero, List.set_cons_succ, i64_w, i32_w]
                  rfl
                refine last_ (i := 21) (N := some 98) #[true, true, true, true, true, true, true, true, true, true, true, true, true, true, true, true, true, true, true, true, true, true, false, false, false, false, false] rfl rfl (by kernel_rfl) (by decide) (fun K hK => ?_)
                refine goes_ Try.func138 (by kernel_rfl) rfl #[.pointer (some tp), .int .i16 X4, .slice A6 (qs ++ [1]).length m6, .slice Bt ts'.length bt, .int .i64 n, .slice Au o.length cu] (by rfl) rfl rfl (by simp only [List.map_toArray, List.map_cons, List.map_nil]; rfl) ?_
                with_reducible refine (HREC.out o X4 1 ts' (t1, false) (.slice Au o.length cu) (.slice A6 (qs ++ [1]).length m6) (.slice Bt ts'.length bt) w6 HT_.out (Kd.S_below RO.out (Below.trans (below_drew1 (Below.refl _ _)) B6.out)) R6.out (Kd.R_below RT.out (Below.trans (below_drew1 (Below.refl _ _)) B6.out)) BB6.out).mono ?_
                rintro e w7 ⟨v7, rfl, hR7, hb7, hk7, hs7⟩
                refine ⟨_, rfl, ?_⟩
                have B7 := Aside0.mk hb7
                have J7 := Aside0.mk (K6.out.trans hk7)
                have K7 := Aside0.mk (KP.out.trans J7.out)
                clear hR7 hb7 hk7 hs7
                refine hK.out _ _ ?_
                clear hK K
                refine norm_ (a' := ?_) ?_ ?_
                rotate_left
                · show Act.put _ (some 98) _ = _
                  simp only [Act.put, List.setIfInBounds_toArray, List.set_cons_zero, List.set_cons_succ, i64_w, i32_w]
                  rfl
                refine pure_ (i := 22) (N := some 76) (v := ?_) (a' := ?_) #[true, true, true, true, true, true, true, true, true, true, true, true, true, true, true, true, true, true, true, true, true, true, true, false, false, false, false] rfl rfl (by kernel_rfl) (fun _ _ _ h => h) (Or.inl ⟨by rfl, ?_⟩) ?_ ?_
                rotate_left
                · intro w'
                  go_simp
                  with_reducible rfl
                rotate_left
                · simp only [Act.put, List.setIfInBounds_toArray, List.set_cons_zero, List.set_cons_succ, i64_w, i32_w]
                  rfl
                refine pure_ (i := 23) (N := some 99) (v := ?_) (a' := ?_) #[true, true, true, true, true, true, true, true, true, true, true, true, true, true, true, true, true, true, true, true, true, true, true, true, false, false, false] rfl rfl (by kernel_rfl) (fun _ _ _ h => h) (Or.inl ⟨by rfl, ?_⟩) ?_ ?_
                rotate_left
                · intro w'
                  go_simp
                  with_reducible rfl
                rotate_left
                · simp only [Act.put, List.setIfInBounds_toArray, List.set_cons_zero, List.set_cons_succ, i64_w, i32_w]
                  rfl
                refine pure_ (i := 24) (N := some 100) (v := ?_) (a' := ?_) #[true, true, true, true, true, true, true, true, true, true, true, true, true, true, true, true, true, true, true, true, true, true, true, true, true, false, false] rfl rfl (by kernel_rfl) (fun _ _ _ h => h) (Or.inl ⟨by rfl, ?_⟩) ?_ ?_
                rotate_left
                · intro w'
                  go_simp
                  with_reducible rfl
                rotate_left
                · simp only [Act.put, List.setIfInBounds_toArray, List.set_cons_zero, List.set_cons_succ, i64_w, i32_w]
                  rfl
                refine pure_ (i := 25) (N := some 15) (v := ?_) (a' := ?_) #[true, true, true, true, true, true, true, true, true, true, true, true, true, true, true, true, true, true, true, true, true, true, true, true, true, true, false] rfl rfl (by kernel_rfl) (fun _ _ _ h => h) (Or.inl ⟨by rfl, ?_⟩) ?_ ?_
                rotate_left
                · intro w'
                  go_simp
                  with_reducible rfl
                rotate_left
                · simp only [Act.put, List.setIfInBounds_toArray, List.set_cons_zero, List.set_cons_succ, i64_w, i32_w]
                  rfl
                refine pure_ (i := 26) (N := some 16) (v := ?_) (a' := ?_) #[true, true, true, true, true, true, true, true, true, true, true, true, true, true, true, true, true, true, true, true, true, true, true, true, true, true, true] rfl rfl (by kernel_rfl) (fun _ _ _ h => h) (Or.inl ⟨by rfl, ?_⟩) ?_ ?_
                rotate_left
                · intro w'
                  go_simp
                  with_reducible rfl
                rotate_left
                · simp only [Act.put, List.setIfInBounds_toArray, List.set_cons_zero, List.set_cons_succ, i64_w, i32_w]
                  rfl
                refine done_ (by kernel_rfl) ?_
                go_wp2
                go_ret2
                exact ⟨_, rfl, fun h_ => absurd h_ (by decide), B7.out, K7.out, K7.out.1⟩
          · have hj3 : j2 = 3 := by have := HJ3.out; omega
            subst hj3
            have hz : some (o, true) = some (r1, r2) := HS.out
            obtain ⟨rfl, rfl⟩ := Prod.mk.inj (Option.some.inj hz)
            clear hz HS
            go_wp2
            go_ret2
            exact ⟨_, rfl, fun _ => RO.out, BP.out, KP.out, KP.out.1⟩


end Go.Proofs.Ytpfnohdnaocpdaa.PT

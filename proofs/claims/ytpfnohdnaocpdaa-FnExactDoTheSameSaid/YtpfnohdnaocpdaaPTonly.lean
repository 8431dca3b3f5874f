/- slices.Index in closed form; (impl.Tree).reachedOnly and its closure by hand. -/
import Derived.Test.YtpfnohdnaocpdaaPTx5
import Derived.Test.YtpfnohdnaocpdaaPTx2
import Derived.Test.YtpfnohdnaocpdaaPTren
namespace Go.Proofs.Ytpfnohdnaocpdaa.PT
open Go.RowKit Go.Proofs.YtpfnohdnaocpdaaW.PrintWords Go.Proofs.YtpfnohdnaocpdaaW.PrintLast Go.Proofs.YtpfnohdnaocpdaaW.PrintMore Go.Lib Go.Proofs.YtpfnohdnaocpdaaRP
set_option linter.unusedVariables false
set_option linter.unusedSimpArgs false

def ixI (xs : List Int) (v : Int) : Int := if v ∈ xs then ((xs.findIdx (fun x => x == v) : Nat) : Int) else -1
theorem ixI_in (xs : List Int) (v : Int) : -1 ≤ ixI xs v ∧ ixI xs v < (xs.length : Int) + 1 := by
  unfold ixI
  split
  · have := List.findIdx_le_length (p := fun x => x == v) (xs := xs)
    omega
  · omega
theorem index_l0 (xs : List Int) (v : Int) (hl : xs.length ≤ 1000) (d : Nat) : ∀ i : Nat, i + d = xs.length → v ∉ xs.take i → ∃ K, slices_Index_int16_int16.l0 K xs v (xs.length : Int) (i : Int) = some (ixI xs v) := by
  induction d with
  | zero =>
    intro i hi hn
    rw [List.take_of_length_le (by omega)] at hn
    refine ⟨1, ?_⟩
    unfold slices_Index_int16_int16.l0 ixI
    rw [if_neg (by omega), if_neg hn]
  | succ d ih =>
    intro i hi hn
    have hlt : i < xs.length := by omega
    have hr : rd xs (i : Int) = xs[i] := by simp [rd, List.getD, hlt]
    by_cases c : v = rd xs (i : Int)
    · refine ⟨1, ?_⟩
      unfold slices_Index_int16_int16.l0
      rw [if_pos (by omega), if_pos (by omega), if_pos (by omega), if_pos c]
      have hm : v ∈ xs := by rw [c, hr]; exact List.getElem_mem hlt
      unfold ixI
      rw [if_pos hm]
      have : xs.findIdx (fun x => x == v) = i := by
        have hl : xs.findIdx (fun x => x == v) < xs.length := List.findIdx_lt_length.2 ⟨v, hm, by simp⟩
        have h1 := List.findIdx_getElem (p := fun x => x == v) (xs := xs) (w := hl)
        rcases Nat.lt_trichotomy (xs.findIdx (fun x => x == v)) i with h | h | h
        · exfalso
          refine hn (List.mem_iff_getElem.2 ⟨xs.findIdx (fun x => x == v), by rw [List.length_take]; omega, ?_⟩)
          rw [List.getElem_take]
          simpa using h1
        · exact h
        · exfalso
          have := List.not_of_lt_findIdx h
          rw [← hr, ← c] at this
          simp at this
      rw [this]
    · obtain ⟨K, hK⟩ := ih (i + 1) (by omega) (by
        rw [List.take_add_one, List.mem_append]
        rintro (h | h)
        · exact hn h
        · rw [List.getElem?_eq_getElem hlt] at h
          simp only [Option.toList_some, List.mem_singleton] at h
          exact c (by rw [hr]; exact h))
      refine ⟨K + 1, ?_⟩
      unfold slices_Index_int16_int16.l0
      rw [if_pos (by omega), if_pos (by omega), if_pos (by omega), if_neg c, show wrap64 ((i : Int) + 1) = ((i + 1 : Nat) : Int) by unfold wrap64; omega]
      exact hK
theorem index_calls (A : Option Addr) (c : Nat) (xs : List Int) (v : Int) (hl : xs.length ≤ 1000) (w : World) (hr : Kd.C (Kd.int .i16) w A xs.length xs) (hc : xs.length ≤ c) :
    Calls Try.prog 99 #[.slice A xs.length c, .int .i16 v] w fun e w' => e = .returned (.int .i64 (ixI xs v)) ∧ Drawn0 w w' := by
  obtain ⟨K, hK⟩ := index_l0 xs v hl xs.length 0 (by omega) (by simp)
  exact slices_Index_int16_int16.calls K A c xs v _ w hr hc hK
/-- The closure of reachedOnly: where a node stands in the list. -/
theorem clo152 (A : Option Addr) (c lb : Nat) (xs : List Int) (v : Int) (hl : xs.length ≤ 1000) (w : World) (hr : Kd.C (Kd.int .i16) w A xs.length xs) (hc : xs.length ≤ c) (hb : w.heap[lb]? = some (.cells #[.slice A xs.length c] 139 (0, 0))) :
    Calls Try.prog 152 #[.int .i16 v, .pointer (some ⟨lb, 0, none⟩)] w fun e w' => e = .returned (.int .i16 (ixI xs v)) ∧ Below w.heap.size w w' := by
  have hk : w.cell? ⟨lb, 0, none⟩ = some (.slice A xs.length c) := (blk_cell hb 0).trans rfl
  have HI := Aside0.mk (index_calls A c xs v hl w hr hc)
  have hin := ixI_in xs v
  have hw : IntKind.i16.wrap (ixI xs v) = ixI xs v := IntWalk.i16_in _ (by omega)
  generalize ixI xs v = r at HI hw ⊢
  have HW := Aside0.mk hw
  clear hr hc hb hw hin
  go_enter Try.func152, Try.ntmps152
  go_wp2_with (first | (go_at_call 99; refine HI.out.mono ?_; rintro e w' ⟨rfl, ⟨nd, rfl⟩⟩) | fail)
  go_ret
  exact ⟨by show Ending.returned (.int .i16 (IntKind.i16.wrap r)) = _; rw [HW.out], pw_below_drewN (Below.refl _ _) _⟩
set_option maxHeartbeats 8000000 in
set_option maxRecDepth 100000 in
theorem only_calls (k : Nat) (A0 : Option Addr) (c0 : Nat) (l : List S89) (R : List Int) (w : World) (hr0 : Kd.C k89 w A0 l.length l) (hc0 : l.length ≤ c0) (h : impl_found.f k l = some R)
    (h0 : 0 < R.length) (hl : R.length ≤ 1000) (hin : ∀ a ∈ R, 0 ≤ a ∧ a < l.length) :
    Calls Try.prog 123 #[.agg #[.slice A0 l.length c0]] w fun e w' => ∃ v, e = .returned (.agg #[v]) ∧ Kd.R k89 89 w' w.heap.size (fun _ => True) v (renT l R (ixI R)) ∧ Below w.heap.size w w' := by
  have HR0 := Aside0.mk hr0
  have HC0 := Aside0.mk hc0
  have HF := Aside0.mk h
  have HP := Aside0.mk h0
  have HL := Aside0.mk hl
  have HIN := Aside0.mk hin
  clear hr0 hc0 h h0 hl hin
  have eg : ∀ args w, (callFunc 152 args).run Try.prog w = .ok (.enter 152 args) w := enters_of Try.func152 (by kernel_rfl) rfl
  have HE := Aside0.mk eg
  clear eg
  go_enter Try.func123, Try.ntmps123
  go_upto_region 1 with (fail)
  generalize hw2 : World.alloc (World.alloc w _) _ = w2
  have b2 : Below w.heap.size w w2 := by rw [← hw2]; exact below_alloc (below_alloc (Below.refl _ _) _) _
  have T2 := Aside0.mk (show w2.heap[w.heap.size]? = some (.cells #[.slice A0 l.length c0] 34 (0, 0)) from by rw [← hw2]; exact ha_old _ (ha_at w _ rfl))
  have R2 := Aside0.mk (show w2.heap[w.heap.size + 1]? = some (.cells #[.slice none 0 0] 34 (0, 0)) from by rw [← hw2]; exact ha_at _ _ (by simp))
  have B2 := Aside0.mk b2
  clear hw2 b2
  have tr : w2.cell? ⟨w.heap.size, 0, none⟩ = some (.slice A0 l.length c0) := (blk_cell T2.out 0).trans rfl
  go_upto_region 2 with (first
    | (go_at_call 139; (with_reducible refine (impl_found.calls k A0 c0 l R _ (Kd.C_below HR0.out B2.out) HC0.out HF.out).mono ?_); rintro e w3 ⟨v3, rfl, hR, hb⟩
       obtain ⟨A3, c3, e3⟩ := Kd.R_slice hR
       subst e3
       have Q3 := Aside0.mk hR
       have B3 := Aside0.mk (B2.out.trans (hb.mono B2.out.size))
       have T3 := Aside0.mk ((hb.block _ (blk_lt_ T2.out)).trans T2.out)
       have R3 := Aside0.mk ((hb.block _ (blk_lt_ R2.out)).trans R2.out)
       clear hb hR)
    | fail)
  generalize hw4 : World.alloc w3 _ = w4
  have b4 : Below w3.heap.size w3 w4 := by rw [← hw4]; exact below_alloc (Below.refl _ _) _
  have L4 := Aside0.mk (show w4.heap[w3.heap.size]? = some (.cells #[.slice A3 R.length c3] 139 (0, 0)) from by rw [← hw4]; exact ha_at w3 _ rfl)
  have T4 := Aside0.mk ((b4.block _ (blk_lt_ T3.out)).trans T3.out)
  have R4 := Aside0.mk ((b4.block _ (blk_lt_ R3.out)).trans R3.out)
  have B4 := Aside0.mk (B3.out.trans (b4.mono B3.out.size))
  have Q4 := Aside0.mk (Kd.R_below Q3.out b4)
  clear hw4 b4 T2 R2 B2 T3 R3 B3 Q3 tr
  generalize w3.heap.size = lb at L4 ⊢
  have tr : w4.cell? ⟨w.heap.size, 0, none⟩ = some (.slice A0 l.length c0) := (blk_cell T4.out 0).trans rfl
  have tl : w4.cell? ⟨lb, 0, none⟩ = some (.slice A3 R.length c3) := (blk_cell L4.out 0).trans rfl
  have CC := Aside0.mk (Kd.R_reads' Q4.out).2.2
  have CL := Aside0.mk (Kd.R_reads' Q4.out).2.1
  have CLO : Aside0 (∀ x, (∃ a ∈ R, x ∈ waysL (rd_T89 l a)) → ∀ wr, Below w4.heap.size w4 wr → Calls Try.prog 152 (#[.int .i16 x] ++ #[.pointer (some ⟨lb, 0, none⟩)]) wr fun e w' => e = .returned (.int .i16 (ixI R x)) ∧ Below wr.heap.size wr w') :=
    ⟨fun x _ wr hb => clo152 A3 c3 lb R x HL.out wr (Kd.C_below CC.out hb) CL.out ((hb.block _ (blk_lt_ L4.out)).trans L4.out)⟩
  go_wp2_with (first
    | (go_at_call 126; (with_reducible refine (renamed_calls 152 #[.pointer (some ⟨lb, 0, none⟩)] HE.out (ixI R) A0 c0 l A3 c3 R _ (Kd.C_below HR0.out B4.out) HC0.out CC.out CL.out HP.out (by have := HL.out; omega) HIN.out CLO.out).mono ?_); rintro e w5 ⟨v5, rfl, hR, hb⟩
       obtain ⟨A5, c5, e5⟩ := Kd.R_slice hR
       subst e5
       have Q5 := Aside0.mk (Kd.R_lower hR B4.out.size)
       have B5 := Aside0.mk (B4.out.trans (hb.mono B4.out.size))
       have R5 := Aside0.mk ((hb.block _ (blk_lt_ R4.out)).trans R4.out)
       have xr : w5.cell? ⟨w.heap.size + 1, 0, none⟩ = some (.slice none 0 0) := (blk_cell R5.out 0).trans rfl
       have zr : w5.frozen? ⟨w.heap.size + 1, 0, none⟩ = false := blk_frozen R5.out 0
       clear hb hR)
    | fail)
  exact bodyPost_ret (results_cell_row rfl _ _ (w.heap.size + 1) 34 #[.slice A5 (renT l R (ixI R)).length c5] (0, 0) _ rfl (blk_put R5.out 0 _ rfl) Try.underlying34 rfl (by kernel_rfl)) rfl ⟨_, rfl, Kd.R_mono (Kd.R_far (p := ⟨w.heap.size + 1, 0, none⟩) (Kd.R_types Q5.out R5.out (by decide)) (fun _ hk => hk.2) _) (fun _ _ => trivial), B5.out.setCell (p := ⟨w.heap.size + 1, 0, none⟩) (by show w.heap.size ≤ w.heap.size + 1; omega) _⟩
end Go.Proofs.Ytpfnohdnaocpdaa.PT

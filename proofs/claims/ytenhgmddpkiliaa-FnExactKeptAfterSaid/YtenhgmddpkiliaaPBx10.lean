import Derived.Test.YtenhgmddpkiliaaPBx0
import Derived.Test.YtenhgmddpkiliaaPBclone
import Derived.Test.YtenhgmddpkiliaaPBlineOf
import Derived.Test.YtenhgmddpkiliaaPBx5
import Derived.Test.YtenhgmddpkiliaaPBx9
namespace Go.Proofs.Ytenhgmddpkiliaa.PB
open Go.RowKit Go.Proofs.YtenhgmddpkiliaaW.PrintWords Go.Proofs.YtenhgmddpkiliaaW.PrintLast Go.Proofs.YtenhgmddpkiliaaW.PrintMore Go.Proofs.YtenhgmddpkiliaaRP
attribute [local go_sem] max2_int min2_int max_two min_two max_three min_three max_four min_four Go.Proofs.YtenhgmddpkiliaaRP.max_eight Go.Proofs.YtenhgmddpkiliaaRP.tmod_len   -- for this text's walks alone
set_option linter.unusedVariables false
set_option linter.unusedSimpArgs false
theorem z10_1_ {P : Prop} (h : P := by repeat (first | (with_reducible first | exact HB.out | apply below_alloc | apply pw_below_drewN | apply below_drew1) | exact HB.out)) : P := h
theorem z10_2_ {P : Prop} (h : P := by repeat (first | (with_reducible first | exact HB.out | apply below_alloc | apply pw_below_drewN | apply below_drew1 | refine below_set ?_ GE368.out) | exact HB.out)) : P := h
theorem z10_3_ {P : Prop} (h : P := by (try simp only [List.map_toArray, List.map_cons, List.map_nil]); first | done | rfl | (simp only [List.length_drop, List.length_take]; rfl)) : P := h
theorem z10_4_ {P : Prop} (h : P := by (with_reducible repeat (first | refine blk_drewN ?_ _ | refine blk_drew ?_ | refine blk_alloc ?_ _)); exact BK368.out) : P := h
theorem z10_5_ {P : Prop} (h : P := by (with_reducible repeat (first | apply Kd.R_alloc | apply Kd.R_drewN | apply Kd.R_drew)); exact HO_5.out) : P := h
theorem z10_6_ {P : Prop} (h : P := by (with_reducible repeat (first | apply Kd.Q_alloc | apply Kd.Q_drewN | apply Kd.Q_drew)); exact HO_6.out) : P := h
theorem z10_7_ {P : Prop} (h : P := by first | rfl | (simp [errW_none, errW_some] <;> rfl) | (simp [*, errW_none, errW_some] <;> rfl)) : P := h
theorem z10_8_ {P : Prop} (h : P := by (with_reducible repeat (first | apply Kd.R_alloc | apply Kd.R_drewN | apply Kd.R_drew)); exact HO_27.out) : P := h
theorem z10_9_ {P : Prop} (h : P := by first | rfl | (simp; done) | (simp [*]; done) | (simp [isE_]; done)) : P := h
theorem z10_10_ {P : Prop} (h : P := by first | exact Kd.R_nil _ _ _ _ _ | exact Kd.N_nil _ _ _ _ _ | exact Kd.V_nil _ _ _ _ _ | exact Kd.Q_nil _ _ _ _ _ | exact Kd.S_nil _ _ _ _ _) : P := h
theorem z10_11_ {P : Prop} (h : P := by (with_reducible repeat (first | apply Kd.R_alloc | apply Kd.R_drewN | apply Kd.R_drew)); exact HO372.out) : P := h
theorem z10_12_ {P : Prop} (h : P := by (with_reducible repeat (first | apply Kd.R_alloc | apply Kd.R_drewN | apply Kd.R_drew)); exact HO343.out) : P := h
theorem z10_13_ {P : Prop} (h : P := by (with_reducible repeat (first | apply Kd.Q_alloc | apply Kd.Q_drewN | apply Kd.Q_drew)); exact HO352.out) : P := h
theorem z10_14_ {P : Prop} (h : P := by first | omega | exact Nat.le_refl _) : P := h
theorem z10_15_ {P : Prop} (h : P := by (with_reducible repeat (first | apply Kd.R_alloc | apply Kd.R_drewN | apply Kd.R_drew)); exact HO_6.out) : P := h
/-! ### impl_needs: function 66 -/
mutual
def impl_needs.l0 : Nat → List (S45) → List Bool → List Int → Option (List Bool)
 | 0, _, _, _ => none
 | k + 1, x0, x5, x6 => if (x6.length : Int) > 0 then (if 0 < (x6.length : Int) then (if 0 ≤ (rd x6 0) then (if (rd x6 0) < (x0.length : Int) then (if 1 ≤ (x6.length : Int) then ((impl_Line_used.f k [rd_T45 x0 (rd x6 0)]).bind fun t353 => (impl_needs.l1 k x0 x5 (x6.drop (1 : Int).toNat) t353 (t353.length : Int) 0)) else (none)) else (none)) else (none)) else (none)) else (some x5)
def impl_needs.l1 : Nat → List (S45) → List Bool → List Int → List ByteArray → Int → Int → Option (List Bool)
 | 0, _, _, _, _, _, _ => none
 | k + 1, x0, x5, x6, x27, x28, x29 => if x29 < x28 then (if 0 ≤ x29 then (if x29 < (x27.length : Int) then ((impl_lineOf.f x0 (rdOf ByteArray.empty x27 x29)).bind fun t357 => (if 0 ≤ t357 then (if t357 < (x5.length : Int) then (if rdOf false x5 t357 = true then (impl_needs.l1 k x0 x5 x6 x27 x28 (wrap64 (x29 + 1))) else (if x6.length < 17592186044416 then (impl_needs.l1 k x0 (x5.set (t357 : Int).toNat true) (x6 ++ [t357]) x27 x28 (wrap64 (x29 + 1))) else (none))) else (none)) else (none))) else (none)) else (none)) else (impl_needs.l0 k x0 x5 x6)
end
def impl_needs.f (k : Nat) (l0 : List (S45)) (a1 : Int) : Option (List Bool) := if 0 ≤ (l0.length : Int) then (if ((l0.length : Int) : Int).toNat ≤ 281474976710656 then (impl_needs.l0 k l0 (List.replicate ((l0.length : Int) : Int).toNat false) (([a1] : List Int))) else (none)) else (none)
theorem impl_needs.mono_l : ∀ k, (∀ y0 y1 y2, LeO (impl_needs.l0 k y0 y1 y2) (impl_needs.l0 (k + 1) y0 y1 y2)) ∧ (∀ y0 y1 y2 y3 y4 y5, LeO (impl_needs.l1 k y0 y1 y2 y3 y4 y5) (impl_needs.l1 (k + 1) y0 y1 y2 y3 y4 y5))
 | 0 => ⟨fun _ _ _ r h => by simp [impl_needs.l0] at h, fun _ _ _ _ _ _ r h => by simp [impl_needs.l1] at h⟩
 | k + 1 => by
  obtain ⟨ih0, ih1⟩ := impl_needs.mono_l k
  refine ⟨?_, ?_⟩
  ·
   intro y0 y1 y2
   unfold impl_needs.l0
   repeat' first
   | (with_reducible exact ih0 _ _ _)
   | (with_reducible exact ih1 _ _ _ _ _ _)
   | (with_reducible exact impl_Line_used.mono _ _)
   | (with_reducible exact LeO.refl _)
   | (with_reducible exact LeO.none _)
   | (with_reducible refine LeO.ite ?_ ?_)
   | (with_reducible refine LeO.bind ?_ (fun _ => ?_))
   | exact ih0 _ _ _
   | exact ih1 _ _ _ _ _ _
   | exact LeO.none _
   | refine LeO.ite ?_ ?_
   | refine LeO.bind ?_ (fun _ => ?_)
  ·
   intro y0 y1 y2 y3 y4 y5
   unfold impl_needs.l1
   repeat' first
   | (with_reducible exact ih0 _ _ _)
   | (with_reducible exact ih1 _ _ _ _ _ _)
   | (with_reducible exact impl_Line_used.mono _ _)
   | (with_reducible exact LeO.refl _)
   | (with_reducible exact LeO.none _)
   | (with_reducible refine LeO.ite ?_ ?_)
   | (with_reducible refine LeO.bind ?_ (fun _ => ?_))
   | exact ih0 _ _ _
   | exact ih1 _ _ _ _ _ _
   | exact LeO.none _
   | refine LeO.ite ?_ ?_
   | refine LeO.bind ?_ (fun _ => ?_)
theorem impl_needs.mono : ∀ a0 a1 k, LeO (impl_needs.f k a0 a1) (impl_needs.f (k + 1) a0 a1) := by
 intro a0 a1 k
 obtain ⟨ih0, ih1⟩ := impl_needs.mono_l k
 unfold impl_needs.f
 repeat' first
   | (with_reducible exact ih0 _ _ _)
   | (with_reducible exact ih1 _ _ _ _ _ _)
   | (with_reducible exact impl_Line_used.mono _ _)
   | (with_reducible exact LeO.refl _)
   | (with_reducible exact LeO.none _)
   | (with_reducible refine LeO.ite ?_ ?_)
   | (with_reducible refine LeO.bind ?_ (fun _ => ?_))
   | exact ih0 _ _ _
   | exact ih1 _ _ _ _ _ _
   | exact LeO.none _
   | refine LeO.ite ?_ ?_
   | refine LeO.bind ?_ (fun _ => ?_)
set_option maxHeartbeats 8000000 in
set_option maxRecDepth 100000 in
theorem impl_needs.calls (k : Nat) (A0 : Option Addr) (c0 : Nat) (l0 : List (S45)) (a1 : Int) (r : List Bool) (w : World) (hr0 : Kd.C k45 w A0 l0.length l0) (hc0 : l0.length ≤ c0) (h : impl_needs.f k l0 a1 = some r) :
  Calls Try.prog 66 #[.slice A0 l0.length c0, .int .i64 a1] w fun e w' => ∃ v0_ : Value, e = .returned (v0_) ∧ Kd.R Kd.bool 4 w' w.heap.size (fun _ => True) v0_ r ∧ Below w.heap.size w w' := by
 have HR0 := A_ hr0
 have HC0 := A_ hc0
 clear hr0 hc0
 have HB := A_ (Below.refl w.heap.size w)
 have H : (if 0 ≤ (l0.length : Int) then (if ((l0.length : Int) : Int).toNat ≤ 281474976710656 then (impl_needs.l0 k l0 (List.replicate ((l0.length : Int) : Int).toNat false) (([a1] : List Int))) else (none)) else (none)) = some r := h
 clear h
 by_cases c3 : 0 ≤ (l0.length : Int)
 ·
  rw [if_pos c3] at H
  have c3b0 := eq_true c3
  have c3b1 := decide_eq_true c3
  clear c3
  by_cases c4 : ((l0.length : Int) : Int).toNat ≤ 281474976710656
  ·
   rw [if_pos c4] at H
   have c4b0 := eq_true c4
   have c4b1 := decide_eq_true c4
   clear c4
   obtain ⟨y341, hy341⟩ : ∃ y_ : List Bool, y_ = (List.replicate ((l0.length : Int) : Int).toNat false) := ⟨_, rfl⟩
   replace H : (impl_needs.l0 k l0 y341 (([a1] : List Int))) = some r := by first | (rw [hy341]; with_reducible exact H) | (have H2_ := (Option.bind_some _ _).symm.trans H; rw [hy341]; with_reducible exact H2_) | (have H2_ := (Option.bind_some _ _).symm.trans H; with_reducible exact H2_) | with_reducible exact H | (rw [hy341]; exact H) | exact H
   have Ny341 := A_ hy341
   clear hy341
   obtain ⟨y344, hy344⟩ : ∃ y_ : List Int, y_ = (([a1] : List Int)) := ⟨_, rfl⟩
   replace H : (impl_needs.l0 k l0 y341 y344) = some r := by first | (rw [hy344]; with_reducible exact H) | (have H2_ := (Option.bind_some _ _).symm.trans H; rw [hy344]; with_reducible exact H2_) | (have H2_ := (Option.bind_some _ _).symm.trans H; with_reducible exact H2_) | with_reducible exact H | (rw [hy344]; exact H) | exact H
   have Ny344 := A_ hy344
   clear hy344
   have H' := A_ H
   clear H
   go_enter Try.func66, Try.ntmps66
   go_wp2_with (first | ((with_reducible refine gate_dst (N := 13) rfl ?_); refine Kd.R_make Kd.bool _ 4 rfl (N := 13) rfl 77 _ _ rfl (l0.length : Int) rfl rfl Try.underlying77 (.bool false) 1 info4 rfl (by decide) (by omega) false (ok := fun _ => True) (okp := fun _ => True) rfl (fun _ hk => hk) trivial (of_decide_eq_true (by assumption)) (Nat.le_trans (Nat.mul_le_mul_right _ (of_decide_eq_true (by assumption) : (l0.length : Int).toNat ≤ 281474976710656)) (by omega)) (Below.refl _ _) (Nat.le_refl _) ?_; intro v342 w5 ho6 hb hg_ hnew_; clear hg_ hnew_; (first | rw [← Ny341.out] at ho6 | (simp only [Int.reduceToNat] at ho6; rw [← Ny341.out] at ho6)); have _ := A_ (Kd.R_lower ho6 (below_size z10_1_)); have _ := A_ (below_step z10_1_ hb); clear HB; rename_i HO343 HB; clear hb ho6) | ((with_reducible refine gate_dst (N := 15) rfl ?_); refine Kd.R_lit (Kd.int .i64) _ 3 ?hg (N := 15) ?hd (xs := ([a1] : List Int)) (inner := [.int .i64 a1]) (ok := fun _ => True) (okp := fun _ => True) ?hr ?hp (fun _ hk => hk) trivial (Below.refl _ _) (Nat.le_refl _) (by simp) ?_; (case hd => rfl); (case hg => rfl); (case hr => first | (go_simp; done) | (go_simp; rfl)); (case hp => exact (Reps.one (show Kd.M (Kd.int .i64) _ _ _ a1 [.int .i64 a1] from rfl) (Reps.none _ _))); intro v345 w7 ho8 hb hg_ hnew_; clear hg_ hnew_; (first | rw [← Ny344.out] at ho8 | (simp only [Int.reduceToNat] at ho8; rw [← Ny344.out] at ho8)); have _ := A_ (Kd.R_below z10_12_ hb); have _ := A_ (Kd.R_lower ho8 (below_size z10_1_)); have _ := A_ (below_step z10_1_ hb); clear HO343 HB; rename_i HO343 HO346 HB; clear hb ho8))
   go_loopg [6] k (fun kq v6 w' => ∃ (x5_1 : List Bool) (x6_1 : List Int), Aside0 (impl_needs.l0 kq l0 x5_1 x6_1 = some r) ∧ Aside0 (kq ≤ k) ∧ Aside0 (Kd.R Kd.bool 4 w' w.heap.size (fun _ => True) v342 x5_1) ∧ Aside0 (Kd.Q (Kd.int .i64) 3 w' w.heap.size (fun _ => True) v6 x6_1) ∧ Aside0 (Below w.heap.size w w'))
   case atStart => exact ⟨(y341), (y344), H', ⟨Nat.le_refl _⟩, ⟨z10_12_⟩, ⟨Kd.Q_of_R (by (with_reducible repeat (first | apply Kd.R_alloc | apply Kd.R_drewN | apply Kd.R_drew)); exact HO346.out)⟩, ⟨z10_1_⟩⟩
   case round =>
    clear H'
    try clear p2
    try clear c3
    try clear c3b0
    try clear c3b1
    try clear c4
    try clear c4b0
    try clear c4b1
    try clear c6
    obtain ⟨x5_1, x6_1, HA, HK1, HO_5, HO_6, HB⟩ := hrel
    cases gk with
    | zero => exact absurd HA.out (by simp [impl_needs.l0])
    | succ k1 =>
     have H := HA.out
     clear HA
     simp only [impl_needs.l0] at H
     by_cases c9 : (x6_1.length : Int) > 0
     ·
      rw [if_pos c9] at H
      have c9b0 := decide_eq_true c9
      have c9b1 : decide (0 < x6_1.length) = true := decide_eq_true (by omega)
      clear c9
      by_cases c10 : 0 < (x6_1.length : Int)
      ·
       rw [if_pos c10] at H
       have c10b0 := decide_eq_true c10
       have c10b1 : decide (0 < x6_1.length) = true := decide_eq_true (by omega)
       clear c10
       by_cases c11 : 0 ≤ (rd x6_1 0)
       ·
        rw [if_pos c11] at H
        have c11b0 := decide_eq_true c11
        clear c11
        by_cases c12 : (rd x6_1 0) < (l0.length : Int)
        ·
         rw [if_pos c12] at H
         have c12b0 := decide_eq_true c12
         clear c12
         by_cases c13 : 1 ≤ (x6_1.length : Int)
         ·
          rw [if_pos c13] at H
          have c13b0 := eq_true c13
          have c13b1 := decide_eq_true c13
          clear c13
          obtain ⟨y350, hy350⟩ : ∃ y_ : List Int, y_ = (x6_1.drop (1 : Int).toNat) := ⟨_, rfl⟩
          replace H : ((impl_Line_used.f k1 [rd_T45 l0 (rd x6_1 0)]).bind fun t353 => (impl_needs.l1 k1 l0 x5_1 y350 t353 (t353.length : Int) 0)) = some r := by first | (rw [hy350]; with_reducible exact H) | (have H2_ := (Option.bind_some _ _).symm.trans H; rw [hy350]; with_reducible exact H2_) | (have H2_ := (Option.bind_some _ _).symm.trans H; with_reducible exact H2_) | with_reducible exact H | (rw [hy350]; exact H) | exact H
          have Ny350 := A_ hy350
          clear hy350
          replace H := Option.bind_eq_some_iff.mp H
          obtain ⟨t353, A140, H⟩ := H
          try dsimp only at H
          have A14 := A_ A140
          clear A140
          have H' := A_ H
          clear H
          obtain ⟨Ao15, co15, eo15, _⟩ := Kd.Q_slice HO_6.out
          subst eo15
          have p347 : 0 ≤ (0 : Int) := (by omega)
          have q347 : 0 < (x6_1.length : Int) := of_decide_eq_true (by assumption)
          obtain ⟨ad347, e347, hx347_0⟩ := Kd.at_int (Kd.Q_reads' HO_6.out).2.2 0 p347 q347
          cases e347
          have qi347 : (0 < x6_1.length) = True := eq_true (by omega)
          (try rw [show ((0 : Int)).toNat = 0 from rfl] at hx347_0)
          (try rw [Addr.add_zero'] at hx347_0)
          replace p347 := eq_true p347
          replace q347 := eq_true q347
          have p348 : 0 ≤ ((rd x6_1 0) : Int) := of_decide_eq_true (by assumption)
          have q348 : (rd x6_1 0) < (l0.length : Int) := of_decide_eq_true (by assumption)
          obtain ⟨ad348, e348, hx348_0, hx348_1, hx348_2, hx348_3, hx348_4, hx348_5⟩ := at_T45 HR0.out (rd x6_1 0) p348 q348
          cases e348
          replace hx348_0 := cel HB.out hx348_0
          replace hx348_1 := cel HB.out hx348_1
          replace hx348_2 := cel HB.out hx348_2
          replace hx348_3 := cel HB.out hx348_3
          replace hx348_4 := cel HB.out hx348_4
          replace hx348_5 := cel HB.out hx348_5
          replace p348 := eq_true p348
          replace q348 := eq_true q348
          have HR349 := A_ (show Kd.C k45 w (some (Addr.add ad348 ((rd x6_1 0).toNat * 6))) [rd_T45 l0 (rd x6_1 0)].length [rd_T45 l0 (rd x6_1 0)] from Kd.C_el k45 z45 HR0.out ((rd x6_1 0) : Int) (of_eq_true p348) (of_eq_true q348))
          have q16 : (1 : Int) ≤ ((x6_1.length : Int) : Int) := of_decide_eq_true (by assumption)
          obtain ⟨i016, hi016, _, hsz16, _⟩ := info_parts info3
          have hcut16 := cut_from (P := Try.prog) 134 3 .i64 Try.underlying134 hi016 1 hsz16 (some ad347) x6_1.length co15 1 (by omega) q16
          have hr16 := Kd.Q_drop (k := (1 : Int).toNat) HO_6.out (by omega)
          obtain ⟨A16, hA16⟩ : ∃ A1, A1 = (if co15 = (1 : Int).toNat then (some ad347) else ((some ad347) : Option Addr).map (·.add ((1 : Int).toNat * 1))) := ⟨_, rfl⟩
          obtain ⟨c16, hc16⟩ : ∃ c1, c1 = co15 - (1 : Int).toNat := ⟨_, rfl⟩
          have hy16 : y350.length = x6_1.length - (1 : Int).toNat := (by rw [Ny350.out, List.length_drop])
          rw [← Ny350.out] at hr16
          rw [← hy16, ← hA16, ← hc16] at hcut16
          replace hr16 : Kd.Q (Kd.int .i64) 3 wr w.heap.size (fun _ => True) (.slice A16 y350.length c16) y350 := (by rw [hA16, hc16, hy16]; exact hr16)
          have HE16 : Aside0 ((Value.slice A16 y350.length c16).ownBlock = (.slice (some ad347) x6_1.length co15 : Value).ownBlock) := ⟨(by rw [hA16]; split <;> (cases ((some ad347) : Option Addr) <;> rfl))⟩
          clear hy16 hi016 hsz16 HO_6 hA16 hc16
          have HO352 := A_ hr16
          clear hr16
          replace q16 := eq_true q16
          go_wp2_with (first | ((with_reducible refine gate_callee (f := 106) rfl ?_); refine goesL_ (some 27) rfl rfl Try.func106 (by kernel_rfl) rfl #[.pointer (some (Addr.add ad348 ((rd x6_1 0).toNat * 6)))] rfl z10_3_ ?_; (with_reducible refine (impl_Line_used.calls k1 _ ([rd_T45 l0 (rd x6_1 0)]).length [rd_T45 l0 (rd x6_1 0)] t353 _ ?side1 ?side2 A14.out).mono ?_); (case side1 => have hx_ := (Kd.C_below HR349.out HB.out); exact kc_); (case side2 => exact Nat.le_refl _); rintro e w17 ⟨v354, rfl, ho0, hb⟩; refine ⟨_, rfl, ?_⟩; have _ := A_ (Kd.R_below z10_5_ hb); have _ := A_ (Kd.Q_below z10_13_ hb); have _ := A_ (Kd.R_lower ho0 (below_size z10_1_)); have _ := A_ (below_step z10_1_ hb); clear HO_5 HO352 HB; rename_i HO_5 HO352 HO355 HB; (try clear hb); (try clear ho0); obtain ⟨Ao18, co18, eo18⟩ := Kd.R_slice HO355.out; subst eo18))
          go_loopg [6, 29] k1 (fun kq v6 v29 w' => ∃ (x5_2 : List Bool) (x6_2 : List Int) (x29_2 : Int), v29 = .int .i64 x29_2 ∧ Aside0 (impl_needs.l1 kq l0 x5_2 x6_2 t353 (t353.length : Int) x29_2 = some r) ∧ Aside0 (kq ≤ k1) ∧ Aside0 (Kd.R Kd.bool 4 w' w.heap.size (fun _ => True) v342 x5_2) ∧ Aside0 (Kd.Q (Kd.int .i64) 3 w' w.heap.size (fun _ => True) v6 x6_2) ∧ Aside0 (Kd.R Kd.string 9 w' w.heap.size (fun _ => True) (.slice Ao18 t353.length co18) t353) ∧ Aside0 (Below w.heap.size w w'))
          case atStart => exact ⟨(x5_1), (y350), (0), z10_9_, H', ⟨Nat.le_refl _⟩, ⟨z10_5_⟩, ⟨z10_13_⟩, ⟨(by (with_reducible repeat (first | apply Kd.R_alloc | apply Kd.R_drewN | apply Kd.R_drew)); exact HO355.out)⟩, ⟨z10_1_⟩⟩
          case round =>
           clear H'
           try clear c1
           try clear q1
           try clear p2
           try clear c3
           try clear c3b0
           try clear c3b1
           try clear p3
           try clear q3
           try clear hx3
           try clear qi3
           try clear c4
           try clear c4b0
           try clear c4b1
           try clear c6
           try clear c9
           try clear c9b0
           try clear c9b1
           try clear c10
           try clear c10b0
           try clear c10b1
           try clear c11
           try clear c11b0
           try clear c12
           try clear c12b0
           try clear c13
           try clear c13b0
           try clear c13b1
           try clear c16
           try clear q16
           try clear hx347_0
           try clear hx348_0
           try clear hx348_1
           try clear hx348_2
           try clear hx348_3
           try clear hx348_4
           try clear hx348_5
           try clear p2
           try clear p347
           try clear p348
           try clear q16
           try clear q347
           try clear q348
           obtain ⟨x5_2, x6_2, x29_2, rfl, HA, HK2, HO_5, HO_6, HO_27, HB⟩ := hrel
           cases gk with
           | zero => exact absurd HA.out (by simp [impl_needs.l1])
           | succ k2 =>
            have H := HA.out
            clear HA
            simp only [impl_needs.l1] at H
            by_cases c19 : x29_2 < (t353.length : Int)
            ·
             rw [if_pos c19] at H
             have c19b0 := decide_eq_true c19
             clear c19
             by_cases c20 : 0 ≤ x29_2
             ·
              rw [if_pos c20] at H
              have c20b0 := decide_eq_true c20
              clear c20
              by_cases c21 : x29_2 < (t353.length : Int)
              ·
               rw [if_pos c21] at H
               have c21b0 := decide_eq_true c21
               clear c21
               replace H := Option.bind_eq_some_iff.mp H
               obtain ⟨t357, A220, H⟩ := H
               try dsimp only at H
               have A22 := A_ A220
               clear A220
               by_cases c23 : 0 ≤ t357
               ·
                rw [if_pos c23] at H
                have c23b0 := decide_eq_true c23
                clear c23
                by_cases c24 : t357 < (x5_2.length : Int)
                ·
                 rw [if_pos c24] at H
                 have c24b0 := decide_eq_true c24
                 clear c24
                 obtain ⟨bq25, hbq25⟩ : ∃ b_ : Bool, b_ = (rdOf false x5_2 t357) := ⟨_, rfl⟩
                 replace H : (if bq25 = true then (impl_needs.l1 k2 l0 x5_2 x6_2 t353 (t353.length : Int) (wrap64 (x29_2 + 1))) else (if x6_2.length < 17592186044416 then (impl_needs.l1 k2 l0 (x5_2.set (t357 : Int).toNat true) (x6_2 ++ [t357]) t353 (t353.length : Int) (wrap64 (x29_2 + 1))) else (none))) = some r := by rw [← hbq25] at H; exact H
                 have Nbq25 := A_ hbq25
                 clear hbq25
                 by_cases c26 : bq25 = true
                 ·
                  subst c26
                  have H1 := H; rw [if_pos rfl] at H1
                  clear H
                  have H := H1
                  clear H1
                  have H' := A_ H
                  clear H
                  have p356 : 0 ≤ (x29_2 : Int) := of_decide_eq_true (by assumption)
                  have q356 : x29_2 < (t353.length : Int) := of_decide_eq_true (by assumption)
                  obtain ⟨ad356, e356, hx356_0⟩ := Kd.at_string (Kd.R_reads' HO_27.out).2.2 x29_2 p356 q356
                  cases e356
                  replace p356 := eq_true p356
                  replace q356 := eq_true q356
                  go_wp2_with (first | ((with_reducible refine gate_callee (f := 79) rfl ?_); refine goesL_ (some 35) rfl rfl Try.func79 (by kernel_rfl) rfl #[.slice (some ad348) l0.length c0, .string (rdOf ByteArray.empty t353 x29_2)] rfl z10_3_ ?_; (with_reducible refine (impl_lineOf.calls _ _ l0 (rdOf ByteArray.empty t353 x29_2) t357 _ ?side1 ?side2 A22.out).mono ?_); (case side1 => have hx_ := (Kd.C_below HR0.out HB.out); exact kc_); (case side2 => exact HC0.out); rintro e w27 ⟨rfl, hb⟩; refine ⟨_, rfl, ?_⟩; have _ := A_ (Kd.R_below z10_5_ hb); have _ := A_ (Kd.Q_below z10_6_ hb); have _ := A_ (Kd.R_below z10_8_ hb); have _ := A_ (below_step z10_1_ hb); clear HO_5 HO_6 HO_27 HB; rename_i HO_5 HO_6 HO_27 HB; (try clear hb); obtain ⟨Ao28, co28, eo28⟩ := Kd.R_slice HO_5.out; subst eo28; have p358 : 0 ≤ (t357 : Int) := of_decide_eq_true (by assumption); have q358 : t357 < (x5_2.length : Int) := of_decide_eq_true (by assumption); obtain ⟨ad358, e358, hx358_0⟩ := Kd.at_bool (Kd.R_reads' HO_5.out).2.2 t357 p358 q358; (try rw [← Nbq25.out] at hx358_0); cases e358; replace p358 := eq_true p358; replace q358 := eq_true q358))
                  go_roundg k2
                  case measure => have := HK1.out; have := HK2.out; omega
                  case rel => exact ⟨(x5_2), (x6_2), (wrap64 (x29_2 + 1)), z10_9_, H', ⟨(by have := HK1.out; have := HK2.out; omega)⟩, ⟨z10_5_⟩, ⟨z10_6_⟩, ⟨z10_8_⟩, ⟨z10_1_⟩⟩
                 ·
                  replace c26 := Bool.eq_false_iff.mpr c26
                  subst c26
                  have H1 := H; rw [if_neg (show ¬ (false = true) by decide)] at H1
                  clear H
                  have H := H1
                  clear H1
                  obtain ⟨y359, hy359⟩ : ∃ y_ : List Bool, y_ = (x5_2.set (t357 : Int).toNat true) := ⟨_, rfl⟩
                  replace H : (if x6_2.length < 17592186044416 then (impl_needs.l1 k2 l0 y359 (x6_2 ++ [t357]) t353 (t353.length : Int) (wrap64 (x29_2 + 1))) else (none)) = some r := by first | (rw [hy359]; with_reducible exact H) | (have H2_ := (Option.bind_some _ _).symm.trans H; rw [hy359]; with_reducible exact H2_) | (have H2_ := (Option.bind_some _ _).symm.trans H; with_reducible exact H2_) | with_reducible exact H | (rw [hy359]; exact H) | exact H
                  have Ny359 := A_ hy359
                  clear hy359
                  by_cases c30 : x6_2.length < 17592186044416
                  ·
                   rw [if_pos c30] at H
                   have LMc30 := A_ c30
                   clear c30
                   obtain ⟨y360, hy360⟩ : ∃ y_ : List Int, y_ = (x6_2 ++ [t357]) := ⟨_, rfl⟩
                   replace H : (impl_needs.l1 k2 l0 y359 y360 t353 (t353.length : Int) (wrap64 (x29_2 + 1))) = some r := by first | (rw [hy360]; with_reducible exact H) | (have H2_ := (Option.bind_some _ _).symm.trans H; rw [hy360]; with_reducible exact H2_) | (have H2_ := (Option.bind_some _ _).symm.trans H; with_reducible exact H2_) | with_reducible exact H | (rw [hy360]; exact H) | exact H
                   have Ny360 := A_ hy360
                   clear hy360
                   have H' := A_ H
                   clear H
                   have p356 : 0 ≤ (x29_2 : Int) := of_decide_eq_true (by assumption)
                   have q356 : x29_2 < (t353.length : Int) := of_decide_eq_true (by assumption)
                   obtain ⟨ad356, e356, hx356_0⟩ := Kd.at_string (Kd.R_reads' HO_27.out).2.2 x29_2 p356 q356
                   cases e356
                   replace p356 := eq_true p356
                   replace q356 := eq_true q356
                   go_wp2_with (first | ((with_reducible refine gate_callee (f := 79) rfl ?_); refine goesL_ (some 35) rfl rfl Try.func79 (by kernel_rfl) rfl #[.slice (some ad348) l0.length c0, .string (rdOf ByteArray.empty t353 x29_2)] rfl z10_3_ ?_; (with_reducible refine (impl_lineOf.calls _ _ l0 (rdOf ByteArray.empty t353 x29_2) t357 _ ?side1 ?side2 A22.out).mono ?_); (case side1 => have hx_ := (Kd.C_below HR0.out HB.out); exact kc_); (case side2 => exact HC0.out); rintro e w31 ⟨rfl, hb⟩; refine ⟨_, rfl, ?_⟩; have _ := A_ (Kd.R_below z10_5_ hb); have _ := A_ (Kd.Q_below z10_6_ hb); have _ := A_ (Kd.R_below z10_8_ hb); have _ := A_ (below_step z10_1_ hb); clear HO_5 HO_6 HO_27 HB; rename_i HO_5 HO_6 HO_27 HB; (try clear hb); obtain ⟨Ao32, co32, eo32⟩ := Kd.R_slice HO_5.out; subst eo32; have p358 : 0 ≤ (t357 : Int) := of_decide_eq_true (by assumption); have q358 : t357 < (x5_2.length : Int) := of_decide_eq_true (by assumption); obtain ⟨ad358, e358, hx358_0⟩ := Kd.at_bool (Kd.R_reads' HO_5.out).2.2 t357 p358 q358; (try rw [← Nbq25.out] at hx358_0); cases e358; replace p358 := eq_true p358; replace q358 := eq_true q358; have p29 : 0 ≤ (t357 : Int) := of_decide_eq_true (by assumption); have q29 : (t357 : Int) < ((x5_2.length : Int) : Int) := of_decide_eq_true (by assumption); obtain ⟨go29, co29, eo29, gb29, gl29, cl29, HG29⟩ := Kd.R_form HO_5.out (by omega); (first | cases eo29 | (injection eo29 with ea_ en_ ec_; (first | subst ea_ | (injection ea_ with ea_; subst ea_)); subst ec_; clear en_)); have GB29 := A_ gb29; have GG29 := A_ HG29; clear gb29 gl29 HG29; (first | simp only [add_plain] at hx358_0 | skip); obtain ⟨hx29_0, hf29_0⟩ := Kd.R_celln false HO_5.out (t357 : Int) p29 q29; replace p29 := eq_true p29; replace q29 := eq_true q29; obtain ⟨hy33_, hz33_⟩ := Kd.R_celln false HO_5.out (t357 : Int) (of_decide_eq_true (by assumption)) (of_decide_eq_true (by assumption)); have HP33 := Kd.R_putg HO_5.out (t357 : Int) true) | ((with_reducible refine gate_store (t := 4) (p := 43) rfl ?_); refine store_event (t := 4) (p := 43) (v := ?vo_w34) (w1 := (w31.setCell ⟨go29, (t357 : Int).toNat, none⟩ (.bool true))) ?hg ?ho ?hn ?hr ?_; (case ho => rfl); (case hg => rfl); (case hn => rfl); (case hr => first | (go_simp; done) | (go_simp; rfl)); intro w34 hw; have hg : w31.grownBy w34 (some go29) := (by rw [hw]; exact HP33.2); have hp_ : Kd.R Kd.bool 4 w34 w.heap.size (fun _ => True) (.slice (some ⟨go29, 0, none⟩) x5_2.length co32) y359 := (by rw [hw, Ny359.out]; exact HP33.1); clear HP33; have _ := A_ (hp_); have _ := A_ (Kd.Q_over' (v := (.slice (some ⟨go29, 0, none⟩) x5_2.length co32)) z10_6_ (Kd.R_typed HO_5.out) (by decide) hg); have _ := A_ (Kd.R_over' (v := (.slice (some ⟨go29, 0, none⟩) x5_2.length co32)) z10_8_ (Kd.R_typed HO_5.out) (by decide) hg); have _ := A_ ((by rw [hw]; exact below_set (HB.out) GB29.out : Below w.heap.size w w34)); clear HO_5 HO_6 HO_27 HB; rename_i HO_5 HO_6 HO_27 HB; clear hg hw hp_) | ((with_reducible refine gate_builtin (b := .append) (xs := #[.tmp 44, .tmp 46]) rfl ?_); at_builtin; refine Kd.Q_append (Kd.int .i64) (w0 := w) w.heap.size rfl (.tmp 44) (.tmp 46) 134 3 (.int .i64 0) 8 rfl Try.underlying134 info3 rfl (by decide) (by omega) u6 x6_2 t357 [.int .i64 t357] (fun _ => True) (fun _ => False) rfl rfl ?aP (fun _ hk => hk.elim) ?aF ?aO ?aB ?aS ?aL ?_; (case aP => exact rfl); (case aB => exact z10_1_); (case aF => exact (fun _ _ => trivial)); (case aO => exact z10_6_); (case aS => exact (below_size z10_1_)); (case aL => have := LMc30.out; omega); intro v361 w35 ho hb hg hat; rw [← Ny360.out] at ho; have _ := A_ (Kd.R_over' z10_5_ (Kd.Q_typed z10_6_) (by decide) hg); have _ := A_ (Kd.R_over' z10_8_ (Kd.Q_typed z10_6_) (by decide) hg); have _ := A_ (hb); have _ := A_ (ho); clear HO_5 HO_27 HB HO_6; rename_i HO_5 HO_27 HB HO362; clear ho hb hg hat))
                   go_roundg k2
                   case measure => have := HK1.out; have := HK2.out; omega
                   case rel => exact ⟨(y359), (y360), (wrap64 (x29_2 + 1)), z10_9_, H', ⟨(by have := HK1.out; have := HK2.out; omega)⟩, ⟨z10_5_⟩, ⟨(by (with_reducible repeat (first | apply Kd.Q_alloc | apply Kd.Q_drewN | apply Kd.Q_drew)); exact HO362.out)⟩, ⟨z10_8_⟩, ⟨z10_1_⟩⟩
                  ·
                   rw [if_neg c30] at H
                   exact absurd H (by simp)
                ·
                 rw [if_neg c24] at H
                 exact absurd H (by simp)
               ·
                rw [if_neg c23] at H
                exact absurd H (by simp)
              ·
               rw [if_neg c21] at H
               exact absurd H (by simp)
             ·
              rw [if_neg c20] at H
              exact absurd H (by simp)
            ·
             rw [if_neg c19] at H
             have c19b0 := decide_eq_false c19
             clear c19
             have H' := A_ H
             clear H
             go_wp2
             go_roundg k2
             case measure => have := HK1.out; have := HK2.out; omega
             case rel => exact ⟨(x5_2), (x6_2), H', ⟨(by have := HK1.out; have := HK2.out; omega)⟩, ⟨z10_5_⟩, ⟨z10_6_⟩, ⟨z10_1_⟩⟩
         ·
          rw [if_neg c13] at H
          exact absurd H (by simp)
        ·
         rw [if_neg c12] at H
         exact absurd H (by simp)
       ·
        rw [if_neg c11] at H
        exact absurd H (by simp)
      ·
       rw [if_neg c10] at H
       exact absurd H (by simp)
     ·
      rw [if_neg c9] at H
      have c9b0 := decide_eq_false c9
      have c9b1 : decide (0 < x6_1.length) = false := decide_eq_false (by omega)
      clear c9
      obtain rfl := Option.some.inj H
      obtain ⟨Ao36, co36, eo36, _⟩ := Kd.Q_slice HO_6.out
      subst eo36
      go_wp2
      go_ret
      exact ⟨_, z10_7_, z10_5_, z10_1_⟩
  ·
   rw [if_neg c4] at H
   exact absurd H (by simp)
 ·
  rw [if_neg c3] at H
  exact absurd H (by simp)
/-! ### impl_ValidBook: function 20 -/
mutual
def impl_ValidBook.j0 : Nat → List (S45) → Bool → Option (Bool)
 | 0, _, _ => none
 | k + 1, x0, x11 => if x11 = true then (some false) else (impl_ValidBook.l0 k x0 (x0.length : Int) 0)
def impl_ValidBook.l0 : Nat → List (S45) → Int → Int → Option (Bool)
 | 0, _, _, _ => none
 | k + 1, x0, x13, x14 => if x14 < x13 then ((impl_needs.f k x0 x14).bind fun t364 => (if 0 ≤ x14 then (if x14 < (t364.length : Int) then (if rdOf false t364 x14 = true then (some false) else (impl_ValidBook.l0 k x0 x13 (wrap64 (x14 + 1)))) else (none)) else (none))) else (some true)
end
def impl_ValidBook.f (k : Nat) (l0 : List (S45)) : Option (Bool) := if (l0.length : Int) > 24 then (impl_ValidBook.j0 k l0 true) else ((impl_linesOk.f k l0).bind fun t363 => (impl_ValidBook.j0 k l0 (!t363)))
theorem impl_ValidBook.mono_l : ∀ k, (∀ y0 y1, LeO (impl_ValidBook.j0 k y0 y1) (impl_ValidBook.j0 (k + 1) y0 y1)) ∧ (∀ y0 y1 y2, LeO (impl_ValidBook.l0 k y0 y1 y2) (impl_ValidBook.l0 (k + 1) y0 y1 y2))
 | 0 => ⟨fun _ _ r h => by simp [impl_ValidBook.j0] at h, fun _ _ _ r h => by simp [impl_ValidBook.l0] at h⟩
 | k + 1 => by
  obtain ⟨ih0, ih1⟩ := impl_ValidBook.mono_l k
  refine ⟨?_, ?_⟩
  ·
   intro y0 y1
   unfold impl_ValidBook.j0
   repeat' first
   | (with_reducible exact ih0 _ _)
   | (with_reducible exact ih1 _ _ _)
   | (with_reducible exact impl_linesOk.mono _ _)
   | (with_reducible exact impl_needs.mono _ _ _)
   | (with_reducible exact LeO.refl _)
   | (with_reducible exact LeO.none _)
   | (with_reducible refine LeO.ite ?_ ?_)
   | (with_reducible refine LeO.bind ?_ (fun _ => ?_))
   | exact ih0 _ _
   | exact ih1 _ _ _
   | exact LeO.none _
   | refine LeO.ite ?_ ?_
   | refine LeO.bind ?_ (fun _ => ?_)
  ·
   intro y0 y1 y2
   unfold impl_ValidBook.l0
   repeat' first
   | (with_reducible exact ih0 _ _)
   | (with_reducible exact ih1 _ _ _)
   | (with_reducible exact impl_linesOk.mono _ _)
   | (with_reducible exact impl_needs.mono _ _ _)
   | (with_reducible exact LeO.refl _)
   | (with_reducible exact LeO.none _)
   | (with_reducible refine LeO.ite ?_ ?_)
   | (with_reducible refine LeO.bind ?_ (fun _ => ?_))
   | exact ih0 _ _
   | exact ih1 _ _ _
   | exact LeO.none _
   | refine LeO.ite ?_ ?_
   | refine LeO.bind ?_ (fun _ => ?_)
theorem impl_ValidBook.mono : ∀ a0 k, LeO (impl_ValidBook.f k a0) (impl_ValidBook.f (k + 1) a0) := by
 intro a0 k
 obtain ⟨ih0, ih1⟩ := impl_ValidBook.mono_l k
 unfold impl_ValidBook.f
 repeat' first
   | (with_reducible exact ih0 _ _)
   | (with_reducible exact ih1 _ _ _)
   | (with_reducible exact impl_linesOk.mono _ _)
   | (with_reducible exact impl_needs.mono _ _ _)
   | (with_reducible exact LeO.refl _)
   | (with_reducible exact LeO.none _)
   | (with_reducible refine LeO.ite ?_ ?_)
   | (with_reducible refine LeO.bind ?_ (fun _ => ?_))
   | exact ih0 _ _
   | exact ih1 _ _ _
   | exact LeO.none _
   | refine LeO.ite ?_ ?_
   | refine LeO.bind ?_ (fun _ => ?_)
set_option maxHeartbeats 8000000 in
set_option maxRecDepth 100000 in
theorem impl_ValidBook.calls (k : Nat) (A0 : Option Addr) (c0 : Nat) (l0 : List (S45)) (r : Bool) (w : World) (hr0 : Kd.C k45 w A0 l0.length l0) (hc0 : l0.length ≤ c0) (h : impl_ValidBook.f k l0 = some r) :
  Calls Try.prog 20 #[.slice A0 l0.length c0] w fun e w' => e = .returned (.bool r) ∧ Below w.heap.size w w' := by
 have HR0 := A_ hr0
 have HC0 := A_ hc0
 clear hr0 hc0
 have HB := A_ (Below.refl w.heap.size w)
 have H : (if (l0.length : Int) > 24 then (impl_ValidBook.j0 k l0 true) else ((impl_linesOk.f k l0).bind fun t363 => (impl_ValidBook.j0 k l0 (!t363)))) = some r := h
 clear h
 have HC2 := A_ H
 clear H
 go_enter Try.func20, Try.ntmps20
 go_upto_region 1 with (fail)
 go_cut [11] (fun v11 wc => ∃ (kq : Nat) (x11_1 : Bool), v11 = .bool x11_1 ∧ Aside0 (impl_ValidBook.j0 kq l0 x11_1 = some r) ∧ Aside0 (kq ≤ k) ∧ Aside0 (Below w.heap.size w wc))
 case first =>
  have H := HC2.out
  clear HC2
  by_cases c3 : (l0.length : Int) > 24
  ·
   rw [if_pos c3] at H
   have c3b0 := decide_eq_true c3
   have c3b1 : decide (24 < l0.length) = true := decide_eq_true (by omega)
   clear c3
   (first | rw [c3b0] | (simp only [i64_w, i32_w]; rw [c3b0]) | skip)
   have H' := A_ H
   clear H
   go_wp2
   go_meet
   case rel => exact ⟨_, (true), z10_9_, H', ⟨z10_14_⟩, ⟨z10_1_⟩⟩
  ·
   rw [if_neg c3] at H
   have c3b0 := decide_eq_false c3
   have c3b1 : decide (24 < l0.length) = false := decide_eq_false (by omega)
   clear c3
   (first | rw [c3b0] | (simp only [i64_w, i32_w]; rw [c3b0]) | skip)
   replace H := Option.bind_eq_some_iff.mp H
   obtain ⟨t363, A40, H⟩ := H
   try dsimp only at H
   have A4 := A_ A40
   clear A40
   have H' := A_ H
   clear H
   go_wp2_with (first | (go_at_call 65; (with_reducible refine (impl_linesOk.calls k _ _ l0 t363 _ ?side1 ?side2 A4.out).mono ?_); (case side1 => have hx_ := (Kd.C_below HR0.out HB.out); exact kc_); (case side2 => exact HC0.out); rintro e w5 ⟨rfl, hb⟩; have _ := A_ (below_step z10_1_ hb); clear HB; rename_i HB; (try clear hb)))
   go_meet
   case rel => exact ⟨_, (!t363), z10_9_, H', ⟨z10_14_⟩, ⟨z10_1_⟩⟩
 case rest =>
  clear HC2
  try clear c2
  try clear p2
  try clear c3
  try clear c3b0
  try clear c3b1
  obtain ⟨kq, x11_1, rfl, HA, HJ1, HB⟩ := hcut
  cases kq with
  | zero => exact absurd HA.out (by simp [impl_ValidBook.j0])
  | succ kj1 =>
   have H := HA.out
   clear HA
   simp only [impl_ValidBook.j0] at H
   by_cases c6 : x11_1 = true
   ·
    subst c6
    have H1 := H; rw [if_pos rfl] at H1
    clear H
    have H := H1
    clear H1
    obtain rfl := Option.some.inj H
    go_wp2
    go_ret
    exact ⟨z10_7_, z10_1_⟩
   ·
    replace c6 := Bool.eq_false_iff.mpr c6
    subst c6
    have H1 := H; rw [if_neg (show ¬ (false = true) by decide)] at H1
    clear H
    have H := H1
    clear H1
    have H' := A_ H
    clear H
    go_wp2
    go_loopg [14] kj1 (fun kq v14 w' => ∃ (x14_2 : Int), v14 = .int .i64 x14_2 ∧ Aside0 (impl_ValidBook.l0 kq l0 (l0.length : Int) x14_2 = some r) ∧ Aside0 (kq ≤ kj1) ∧ Aside0 (Below w.heap.size w w'))
    case atStart => exact ⟨(0), z10_9_, H', ⟨Nat.le_refl _⟩, ⟨z10_1_⟩⟩
    case round =>
     clear H'
     try clear c2
     try clear p2
     try clear c3
     try clear c3b0
     try clear c3b1
     try clear c6
     try clear p2
     obtain ⟨x14_2, rfl, HA, HK2, HB⟩ := hrel
     cases gk with
     | zero => exact absurd HA.out (by simp [impl_ValidBook.l0])
     | succ k2 =>
      have H := HA.out
      clear HA
      simp only [impl_ValidBook.l0] at H
      by_cases c7 : x14_2 < (l0.length : Int)
      ·
       rw [if_pos c7] at H
       have c7b0 := decide_eq_true c7
       clear c7
       replace H := Option.bind_eq_some_iff.mp H
       obtain ⟨t364, A80, H⟩ := H
       try dsimp only at H
       have A8 := A_ A80
       clear A80
       by_cases c9 : 0 ≤ x14_2
       ·
        rw [if_pos c9] at H
        have c9b0 := decide_eq_true c9
        clear c9
        by_cases c10 : x14_2 < (t364.length : Int)
        ·
         rw [if_pos c10] at H
         have c10b0 := decide_eq_true c10
         clear c10
         obtain ⟨bq11, hbq11⟩ : ∃ b_ : Bool, b_ = (rdOf false t364 x14_2) := ⟨_, rfl⟩
         replace H : (if bq11 = true then (some false) else (impl_ValidBook.l0 k2 l0 (l0.length : Int) (wrap64 (x14_2 + 1)))) = some r := by rw [← hbq11] at H; exact H
         have Nbq11 := A_ hbq11
         clear hbq11
         by_cases c12 : bq11 = true
         ·
          subst c12
          have H1 := H; rw [if_pos rfl] at H1
          clear H
          have H := H1
          clear H1
          obtain rfl := Option.some.inj H
          go_wp2_with (first | ((with_reducible refine gate_callee (f := 66) rfl ?_); refine goesL_ (some 19) rfl rfl Try.func66 (by kernel_rfl) rfl #[.slice A0 l0.length c0, .int .i64 x14_2] rfl z10_3_ ?_; (with_reducible refine (impl_needs.calls k2 _ _ l0 x14_2 t364 _ ?side1 ?side2 A8.out).mono ?_); (case side1 => have hx_ := (Kd.C_below HR0.out HB.out); exact kc_); (case side2 => exact HC0.out); rintro e w13 ⟨v365, rfl, ho0, hb⟩; refine ⟨_, rfl, ?_⟩; have _ := A_ (Kd.R_lower ho0 (below_size z10_1_)); have _ := A_ (below_step z10_1_ hb); clear HB; rename_i HO366 HB; (try clear hb); (try clear ho0); obtain ⟨Ao14, co14, eo14⟩ := Kd.R_slice HO366.out; subst eo14; have p367 : 0 ≤ (x14_2 : Int) := of_decide_eq_true (by assumption); have q367 : x14_2 < (t364.length : Int) := of_decide_eq_true (by assumption); obtain ⟨ad367, e367, hx367_0⟩ := Kd.at_bool (Kd.R_reads' HO366.out).2.2 x14_2 p367 q367; (try rw [← Nbq11.out] at hx367_0); cases e367; replace p367 := eq_true p367; replace q367 := eq_true q367))
          go_ret
          exact ⟨z10_7_, z10_1_⟩
         ·
          replace c12 := Bool.eq_false_iff.mpr c12
          subst c12
          have H1 := H; rw [if_neg (show ¬ (false = true) by decide)] at H1
          clear H
          have H := H1
          clear H1
          have H' := A_ H
          clear H
          go_wp2_with (first | ((with_reducible refine gate_callee (f := 66) rfl ?_); refine goesL_ (some 19) rfl rfl Try.func66 (by kernel_rfl) rfl #[.slice A0 l0.length c0, .int .i64 x14_2] rfl z10_3_ ?_; (with_reducible refine (impl_needs.calls k2 _ _ l0 x14_2 t364 _ ?side1 ?side2 A8.out).mono ?_); (case side1 => have hx_ := (Kd.C_below HR0.out HB.out); exact kc_); (case side2 => exact HC0.out); rintro e w15 ⟨v365, rfl, ho0, hb⟩; refine ⟨_, rfl, ?_⟩; have _ := A_ (Kd.R_lower ho0 (below_size z10_1_)); have _ := A_ (below_step z10_1_ hb); clear HB; rename_i HO366 HB; (try clear hb); (try clear ho0); obtain ⟨Ao16, co16, eo16⟩ := Kd.R_slice HO366.out; subst eo16; have p367 : 0 ≤ (x14_2 : Int) := of_decide_eq_true (by assumption); have q367 : x14_2 < (t364.length : Int) := of_decide_eq_true (by assumption); obtain ⟨ad367, e367, hx367_0⟩ := Kd.at_bool (Kd.R_reads' HO366.out).2.2 x14_2 p367 q367; (try rw [← Nbq11.out] at hx367_0); cases e367; replace p367 := eq_true p367; replace q367 := eq_true q367))
          go_roundg k2
          case measure => have := HJ1.out; have := HK2.out; omega
          case rel => exact ⟨(wrap64 (x14_2 + 1)), z10_9_, H', ⟨(by have := HJ1.out; have := HK2.out; omega)⟩, ⟨z10_1_⟩⟩
        ·
         rw [if_neg c10] at H
         exact absurd H (by simp)
       ·
        rw [if_neg c9] at H
        exact absurd H (by simp)
      ·
       rw [if_neg c7] at H
       have c7b0 := decide_eq_false c7
       clear c7
       obtain rfl := Option.some.inj H
       go_wp2
       go_ret
       exact ⟨z10_7_, z10_1_⟩
/-! ### impl_WriteLine: function 32 -/
def impl_WriteLine.j0 : Nat → List (S45) → Option ((List (S45)) × Int)
 | 0, _ => none
 | k + 1, x6 => if (x6.length : Int) > 24 then (some (([] : List (S45)), 3)) else ((impl_ValidBook.f k x6).bind fun t378 => (if t378 = true then (some (x6, 0)) else (some (([] : List (S45)), 4))))
def impl_WriteLine.f (k : Nat) (l0 : List (S45)) (a1_0 : ByteArray) (a1_1 : Int) (a1_2 : ByteArray) (a1_3 : ByteArray) (a1_4 : Int) (a1_5 : Int) : Option ((List (S45)) × Int) := (impl_ValidBook.f k l0).bind fun t369 => (if t369 = true then ((slices_CloneLine.f l0).bind fun t370 => ((impl_lineOf.f l0 a1_0).bind fun t373 => (if t373 ≥ 0 then (if 0 ≤ t373 then (if t373 < (t370.length : Int) then (impl_WriteLine.j0 k (t370.set (t373 : Int).toNat (⟨a1_0, a1_1, a1_2, a1_3, a1_4, a1_5⟩ : S45))) else (none)) else (none)) else (if t370.length < 1954687338268 then (impl_WriteLine.j0 k (t370 ++ [(⟨a1_0, a1_1, a1_2, a1_3, a1_4, a1_5⟩ : S45)])) else (none))))) else (some (([] : List (S45)), 1)))
theorem impl_WriteLine.mono_l : ∀ k, (∀ y0, LeO (impl_WriteLine.j0 k y0) (impl_WriteLine.j0 (k + 1) y0))
 | 0 => fun _ r h => by simp [impl_WriteLine.j0] at h
 | k + 1 => by
  have ih0 := impl_WriteLine.mono_l k
  ·
   intro y0
   unfold impl_WriteLine.j0
   repeat' first
   | (with_reducible exact ih0 _)
   | (with_reducible exact impl_ValidBook.mono _ _)
   | (with_reducible exact LeO.refl _)
   | (with_reducible exact LeO.none _)
   | (with_reducible refine LeO.ite ?_ ?_)
   | (with_reducible refine LeO.bind ?_ (fun _ => ?_))
   | exact ih0 _
   | exact LeO.none _
   | refine LeO.ite ?_ ?_
   | refine LeO.bind ?_ (fun _ => ?_)
theorem impl_WriteLine.mono : ∀ a0 a1 a2 a3 a4 a5 a6 k, LeO (impl_WriteLine.f k a0 a1 a2 a3 a4 a5 a6) (impl_WriteLine.f (k + 1) a0 a1 a2 a3 a4 a5 a6) := by
 intro a0 a1 a2 a3 a4 a5 a6 k
 have ih0 := impl_WriteLine.mono_l k
 unfold impl_WriteLine.f
 repeat' first
   | (with_reducible exact ih0 _)
   | (with_reducible exact impl_ValidBook.mono _ _)
   | (with_reducible exact LeO.refl _)
   | (with_reducible exact LeO.none _)
   | (with_reducible refine LeO.ite ?_ ?_)
   | (with_reducible refine LeO.bind ?_ (fun _ => ?_))
   | exact ih0 _
   | exact LeO.none _
   | refine LeO.ite ?_ ?_
   | refine LeO.bind ?_ (fun _ => ?_)
set_option maxHeartbeats 8000000 in
set_option maxRecDepth 100000 in
theorem impl_WriteLine.calls (k : Nat) (A0 : Option Addr) (c0 : Nat) (l0 : List (S45)) (a1_0 : ByteArray) (a1_1 : Int) (a1_2 : ByteArray) (a1_3 : ByteArray) (a1_4 : Int) (a1_5 : Int) (r1 : List (S45)) (r2 : Int) (w : World) (hr0 : Kd.C k45 w A0 l0.length l0) (hc0 : l0.length ≤ c0) (h : impl_WriteLine.f k l0 a1_0 a1_1 a1_2 a1_3 a1_4 a1_5 = some (r1, r2)) :
  Calls Try.prog 32 #[.slice A0 l0.length c0, .agg #[.string a1_0, .int .i8 a1_1, .string a1_2, .string a1_3, .int .i64 a1_4, .int .i64 a1_5]] w fun e w' => ∃ v0_ : Value, e = .returned (.tuple #[v0_, .int .i64 r2]) ∧ Kd.R k45 45 w' w.heap.size (fun _ => True) v0_ r1 ∧ Below w.heap.size w w' := by
 have hu45 := Try.underlying45
 have HR0 := A_ hr0
 have HC0 := A_ hc0
 clear hr0 hc0
 have HB := A_ (Below.refl w.heap.size w)
 have H : ((impl_ValidBook.f k l0).bind fun t369 => (if t369 = true then ((slices_CloneLine.f l0).bind fun t370 => ((impl_lineOf.f l0 a1_0).bind fun t373 => (if t373 ≥ 0 then (if 0 ≤ t373 then (if t373 < (t370.length : Int) then (impl_WriteLine.j0 k (t370.set (t373 : Int).toNat (⟨a1_0, a1_1, a1_2, a1_3, a1_4, a1_5⟩ : S45))) else (none)) else (none)) else (if t370.length < 1954687338268 then (impl_WriteLine.j0 k (t370 ++ [(⟨a1_0, a1_1, a1_2, a1_3, a1_4, a1_5⟩ : S45)])) else (none))))) else (some (([] : List (S45)), 1)))) = some (r1, r2) := h
 clear h
 replace H := Option.bind_eq_some_iff.mp H
 obtain ⟨t369, A30, H⟩ := H
 try dsimp only at H
 have A3 := A_ A30
 clear A30
 by_cases c4 : t369 = true
 ·
  subst c4
  have H1 := H; rw [if_pos rfl] at H1
  clear H
  have H := H1
  clear H1
  replace H := Option.bind_eq_some_iff.mp H
  obtain ⟨t370, A50, H⟩ := H
  try dsimp only at H
  have A5 := A_ A50
  clear A50
  replace H := Option.bind_eq_some_iff.mp H
  obtain ⟨t373, A60, H⟩ := H
  try dsimp only at H
  have A6 := A_ A60
  clear A60
  have HC7 := A_ H
  clear H
  go_enter Try.func32, Try.ntmps32
  go_upto_if 18 with (first | ((with_reducible refine gate_dst (N := 3) rfl ?_); refine box_event ?hg (N := 3) ?hd (cs := #[.string a1_0, .int .i8 a1_1, .string a1_2, .string a1_3, .int .i64 a1_4, .int .i64 a1_5]) (t := 45) ?hr ?_; (case hd => rfl); (case hg => rfl); (case hr => first | (go_simp; done) | (go_simp; rfl)); intro gb368 hg w8 hbox hb; have _ := A_ (below_step z10_1_ hb); have _ := A_ (hbox); have _ := A_ ((by rw [hg]; exact (below_size z10_1_) : w.heap.size ≤ gb368)); have _ := A_ ((by rw [hg]; exact (below_size z10_1_) : w.heap.size ≤ gb368)); clear HB; rename_i HB BK368 GW368 GE368; clear hb hbox hg) | ((with_reducible refine gate_callee (f := 20) rfl ?_); refine goesL_ (some 9) rfl rfl Try.func20 (by kernel_rfl) rfl #[.slice A0 l0.length c0] rfl z10_3_ ?_; (with_reducible refine (impl_ValidBook.calls k _ _ l0 true _ ?side1 ?side2 A3.out).mono ?_); (case side1 => have hx_ := (Kd.C_below HR0.out HB.out); exact kc_); (case side2 => exact HC0.out); rintro e w9 ⟨rfl, hb⟩; refine ⟨_, rfl, ?_⟩; have _ := A_ (blk_below (g := gb368) (o := .cells #[.string a1_0, .int .i8 a1_1, .string a1_2, .string a1_3, .int .i64 a1_4, .int .i64 a1_5] 45 (0, 0)) z10_4_ hb); have _ := A_ (below_step z10_2_ hb); clear BK368 HB; rename_i BK368 HB; (try clear hb)) | ((with_reducible refine gate_callee (f := 78) rfl ?_); refine goesL_ (some 12) rfl rfl Try.func78 (by kernel_rfl) rfl #[.slice A0 l0.length c0] rfl z10_3_ ?_; (with_reducible refine (slices_CloneLine.calls _ _ l0 t370 _ ?side1 ?side2 A5.out).mono ?_); (case side1 => have hx_ := (Kd.C_below HR0.out HB.out); exact kc_); (case side2 => exact HC0.out); rintro e w10 ⟨v371, rfl, ho0, hb⟩; refine ⟨_, rfl, ?_⟩; have _ := A_ (Kd.R_lower (Kd.R_newB ho0 (g := gb368) (o := .cells #[.string a1_0, .int .i8 a1_1, .string a1_2, .string a1_3, .int .i64 a1_4, .int .i64 a1_5] 45 (0, 0)) z10_4_) (below_size z10_2_)); have _ := A_ (blk_below (g := gb368) (o := .cells #[.string a1_0, .int .i8 a1_1, .string a1_2, .string a1_3, .int .i64 a1_4, .int .i64 a1_5] 45 (0, 0)) z10_4_ hb); have _ := A_ (below_step z10_2_ hb); clear BK368 HB; rename_i HO372 BK368 HB; (try clear hb); (try clear ho0); obtain ⟨hcz11_0, hcz11_1, hcz11_2, hcz11_3, hcz11_4, hcz11_5⟩ := bc6 BK368.out; obtain ⟨hfz11_0, hfz11_1, hfz11_2, hfz11_3, hfz11_4, hfz11_5⟩ := bf6 BK368.out) | ((with_reducible refine gate_callee (f := 79) rfl ?_); refine goesL_ (some 16) rfl rfl Try.func79 (by kernel_rfl) rfl #[.slice A0 l0.length c0, .string a1_0] rfl z10_3_ ?_; (with_reducible refine (impl_lineOf.calls _ _ l0 a1_0 t373 _ ?side1 ?side2 A6.out).mono ?_); (case side1 => have hx_ := (Kd.C_below HR0.out HB.out); exact kc_); (case side2 => exact HC0.out); rintro e w12 ⟨rfl, hb⟩; refine ⟨_, rfl, ?_⟩; have _ := A_ (Kd.R_below z10_11_ hb); have _ := A_ (blk_below (g := gb368) (o := .cells #[.string a1_0, .int .i8 a1_1, .string a1_2, .string a1_3, .int .i64 a1_4, .int .i64 a1_5] 45 (0, 0)) z10_4_ hb); have _ := A_ (below_step z10_2_ hb); clear HO372 BK368 HB; rename_i HO372 BK368 HB; (try clear hb)))
  (try simp only [Act.put, sA_, sB_, sC_])
  go_cut [6] (fun v6 wc => ∃ (kq : Nat) (x6_6 : List (S45)) (x369000_6 : ByteArray) (x369001_6 : Int) (x369002_6 : ByteArray) (x369003_6 : ByteArray) (x369004_6 : Int) (x369005_6 : Int), Aside0 (impl_WriteLine.j0 kq x6_6 = some (r1, r2)) ∧ Aside0 (kq ≤ k) ∧ Aside0 (Kd.R k45 45 wc w.heap.size (fun k_ => k_ ≠ gb368) v6 x6_6) ∧ Aside0 (wc.heap[gb368]? = some (.cells #[.string x369000_6, .int .i8 x369001_6, .string x369002_6, .string x369003_6, .int .i64 x369004_6, .int .i64 x369005_6] 45 (0, 0))) ∧ Aside0 (Below w.heap.size w wc))
  case first =>
   have H := HC7.out
   clear HC7
   by_cases c13 : t373 ≥ 0
   ·
    rw [if_pos c13] at H
    have c13b0 := decide_eq_true c13
    clear c13
    (first | rw [c13b0] | (simp only [i64_w, i32_w]; rw [c13b0]) | skip)
    by_cases c14 : 0 ≤ t373
    ·
     rw [if_pos c14] at H
     have c14b0 := decide_eq_true c14
     clear c14
     by_cases c15 : t373 < (t370.length : Int)
     ·
      rw [if_pos c15] at H
      have c15b0 := decide_eq_true c15
      clear c15
      obtain ⟨y374, hy374⟩ : ∃ y_ : List (S45), y_ = (t370.set (t373 : Int).toNat (⟨a1_0, a1_1, a1_2, a1_3, a1_4, a1_5⟩ : S45)) := ⟨_, rfl⟩
      replace H : (impl_WriteLine.j0 k y374) = some (r1, r2) := by first | (rw [hy374]; with_reducible exact H) | (have H2_ := (Option.bind_some _ _).symm.trans H; rw [hy374]; with_reducible exact H2_) | (have H2_ := (Option.bind_some _ _).symm.trans H; with_reducible exact H2_) | with_reducible exact H | (rw [hy374]; exact H) | exact H
      have Ny374 := A_ hy374
      clear hy374
      have H' := A_ H
      clear H
      obtain ⟨hcz17_0, hcz17_1, hcz17_2, hcz17_3, hcz17_4, hcz17_5⟩ := bc6 BK368.out
      obtain ⟨hfz17_0, hfz17_1, hfz17_2, hfz17_3, hfz17_4, hfz17_5⟩ := bf6 BK368.out
      have p16 : 0 ≤ (t373 : Int) := of_decide_eq_true (by assumption)
      have q16 : (t373 : Int) < ((t370.length : Int) : Int) := of_decide_eq_true (by assumption)
      obtain ⟨go16, co16, eo16, gb16, gl16, cl16, HG16⟩ := Kd.R_form HO372.out (by omega)
      (first | cases eo16 | (injection eo16 with ea_ en_ ec_; (first | subst ea_ | (injection ea_ with ea_; subst ea_)); subst ec_; clear en_))
      have GB16 := A_ gb16
      have GG16 := A_ HG16
      clear gb16 gl16 HG16
      obtain ⟨ce16, hcl16, hM16, hcc16, hfr16⟩ := Kd.R_elem HO372.out z45 (t373 : Int) p16 q16
      obtain rfl := k45_openM hM16
      have hx16_0 : w12.cell? ⟨go16, (t373 : Int).toNat * 6, none⟩ = some (.string ((rd_T45 t370 t373).f0)) := hcc16 0 _ rfl
      have hx16_1 : w12.cell? ⟨go16, (t373 : Int).toNat * 6 + 1, none⟩ = some (.int .i8 ((rd_T45 t370 t373).f1)) := hcc16 1 _ rfl
      have hx16_2 : w12.cell? ⟨go16, (t373 : Int).toNat * 6 + 2, none⟩ = some (.string ((rd_T45 t370 t373).f2)) := hcc16 2 _ rfl
      have hx16_3 : w12.cell? ⟨go16, (t373 : Int).toNat * 6 + 3, none⟩ = some (.string ((rd_T45 t370 t373).f3)) := hcc16 3 _ rfl
      have hx16_4 : w12.cell? ⟨go16, (t373 : Int).toNat * 6 + 4, none⟩ = some (.int .i64 ((rd_T45 t370 t373).f4)) := hcc16 4 _ rfl
      have hx16_5 : w12.cell? ⟨go16, (t373 : Int).toNat * 6 + 5, none⟩ = some (.int .i64 ((rd_T45 t370 t373).f5)) := hcc16 5 _ rfl
      have hf16_0 : w12.frozen? ⟨go16, (t373 : Int).toNat * 6, none⟩ = false := hfr16 0
      have hf16_1 : w12.frozen? ⟨go16, (t373 : Int).toNat * 6 + 1, none⟩ = false := hfr16 1
      have hf16_2 : w12.frozen? ⟨go16, (t373 : Int).toNat * 6 + 2, none⟩ = false := hfr16 2
      have hf16_3 : w12.frozen? ⟨go16, (t373 : Int).toNat * 6 + 3, none⟩ = false := hfr16 3
      have hf16_4 : w12.frozen? ⟨go16, (t373 : Int).toNat * 6 + 4, none⟩ = false := hfr16 4
      have hf16_5 : w12.frozen? ⟨go16, (t373 : Int).toNat * 6 + 5, none⟩ = false := hfr16 5
      clear hcl16 hcc16 hfr16 hM16
      replace p16 := eq_true p16
      replace q16 := eq_true q16
      have n_ := A_ (Kd.R_mono (ok' := (fun k_ => k_ ≠ gb368)) HO372.out (fun k_ hk => hk.2))
      clear HO372
      have HO372 := n_
      clear n_
      have HX18 := A_ (show Kd.R k45 45 w12 w.heap.size (fun k_ => k_ ≠ gb368) (.slice (some ⟨go16, 0, none⟩) t370.length co16) t370 from z10_11_)
      obtain ⟨ce18, hcl18, hM18, hcc18, hfr18⟩ := Kd.R_elem HX18.out z45 (t373 : Int) (of_decide_eq_true (by assumption)) (by have h_ : (t373 : Int) < ((t370.length : Int) : Int) := of_decide_eq_true (by assumption); first | exact h_ | (have e_ := (Kd.R_reads' HO372.out).1; omega) | simpa using h_)
      obtain rfl := k45_openM hM18
      have HP18 := Kd.R_seg HX18.out (t373 : Int) (of_decide_eq_true (by assumption)) (by have h_ : (t373 : Int) < ((t370.length : Int) : Int) := of_decide_eq_true (by assumption); first | exact h_ | (have e_ := (Kd.R_reads' HO372.out).1; omega) | simpa using h_) (seg := [.string a1_0, .int .i8 a1_1, .string a1_2, .string a1_3, .int .i64 a1_4, .int .i64 a1_5]) (j := 0) hcl18 hcc18 (show 6 ≤ 6 from by decide) (x' := (⟨a1_0, a1_1, a1_2, a1_3, a1_4, a1_5⟩ : S45)) (k45_mkM _ _ _ (⟨a1_0, a1_1, a1_2, a1_3, a1_4, a1_5⟩ : S45) ) (fun _ hk => hk)
      have hx18_0 := hcc18 0 _ rfl
      (try simp only [show (k45).sz = 6 from rfl, Nat.mul_one, Nat.add_zero] at hx18_0)
      have hf18_0 := hfr18 0
      (try simp only [show (k45).sz = 6 from rfl, Nat.mul_one, Nat.add_zero] at hf18_0)
      have hx18_1 := hcc18 1 _ rfl
      (try simp only [show (k45).sz = 6 from rfl, Nat.mul_one, Nat.add_zero] at hx18_1)
      have hf18_1 := hfr18 1
      (try simp only [show (k45).sz = 6 from rfl, Nat.mul_one, Nat.add_zero] at hf18_1)
      have hx18_2 := hcc18 2 _ rfl
      (try simp only [show (k45).sz = 6 from rfl, Nat.mul_one, Nat.add_zero] at hx18_2)
      have hf18_2 := hfr18 2
      (try simp only [show (k45).sz = 6 from rfl, Nat.mul_one, Nat.add_zero] at hf18_2)
      have hx18_3 := hcc18 3 _ rfl
      (try simp only [show (k45).sz = 6 from rfl, Nat.mul_one, Nat.add_zero] at hx18_3)
      have hf18_3 := hfr18 3
      (try simp only [show (k45).sz = 6 from rfl, Nat.mul_one, Nat.add_zero] at hf18_3)
      have hx18_4 := hcc18 4 _ rfl
      (try simp only [show (k45).sz = 6 from rfl, Nat.mul_one, Nat.add_zero] at hx18_4)
      have hf18_4 := hfr18 4
      (try simp only [show (k45).sz = 6 from rfl, Nat.mul_one, Nat.add_zero] at hf18_4)
      have hx18_5 := hcc18 5 _ rfl
      (try simp only [show (k45).sz = 6 from rfl, Nat.mul_one, Nat.add_zero] at hx18_5)
      have hf18_5 := hfr18 5
      (try simp only [show (k45).sz = 6 from rfl, Nat.mul_one, Nat.add_zero] at hf18_5)
      clear hcl18 hcc18 hfr18 hM18
      go_wp2_with (first | ((with_reducible refine gate_store (t := 45) (p := 22) rfl ?_); refine store_event (t := 45) (p := 22) (v := ?vo_w19) (w1 := ((((((w12.setCell ⟨go16, (t373 : Int).toNat * 6, none⟩ (.string a1_0)).setCell ⟨go16, (t373 : Int).toNat * 6 + 1, none⟩ (.int .i8 a1_1)).setCell ⟨go16, (t373 : Int).toNat * 6 + 2, none⟩ (.string a1_2)).setCell ⟨go16, (t373 : Int).toNat * 6 + 3, none⟩ (.string a1_3)).setCell ⟨go16, (t373 : Int).toNat * 6 + 4, none⟩ (.int .i64 a1_4)).setCell ⟨go16, (t373 : Int).toNat * 6 + 5, none⟩ (.int .i64 a1_5))) ?hg ?ho ?hn ?hr ?_; (case ho => rfl); (case hg => rfl); (case hn => rfl); (case hr => first | (go_simp; done) | (go_simp; rfl)); intro w19 hw; have hg : w12.grownBy w19 (some go16) := (by rw [hw]; exact HP18.2); have hp_ : Kd.R k45 45 w19 w.heap.size (fun k_ => k_ ≠ gb368) (.slice (some ⟨go16, 0, none⟩) t370.length co16) y374 := (by rw [hw, Ny374.out]; exact HP18.1); clear HP18; have _ := A_ (blk_grown (g := gb368) (o := .cells #[.string a1_0, .int .i8 a1_1, .string a1_2, .string a1_3, .int .i64 a1_4, .int .i64 a1_5] 45 (0, 0)) z10_4_ hg (Kd.R_away HO372.out (fun _ hk => hk))); have _ := A_ (hp_); have _ := A_ ((by rw [hw]; exact below_set (below_set (below_set (below_set (below_set (below_set (HB.out) GB16.out) GB16.out) GB16.out) GB16.out) GB16.out) GB16.out : Below w.heap.size w w19)); clear BK368 HO372 HB; rename_i BK368 HO372 HB; clear hg hw hp_))
      go_meet
      case rel => exact ⟨_, (y374), (a1_0), (a1_1), (a1_2), (a1_3), (a1_4), (a1_5), H', ⟨z10_14_⟩, ⟨z10_11_⟩, ⟨z10_4_⟩, ⟨z10_2_⟩⟩
     ·
      rw [if_neg c15] at H
      exact absurd H (by simp)
    ·
     rw [if_neg c14] at H
     exact absurd H (by simp)
   ·
    rw [if_neg c13] at H
    have c13b0 := decide_eq_false c13
    clear c13
    (first | rw [c13b0] | (simp only [i64_w, i32_w]; rw [c13b0]) | skip)
    by_cases c20 : t370.length < 1954687338268
    ·
     rw [if_pos c20] at H
     have LMc20 := A_ c20
     clear c20
     obtain ⟨y375, hy375⟩ : ∃ y_ : List (S45), y_ = (t370 ++ [(⟨a1_0, a1_1, a1_2, a1_3, a1_4, a1_5⟩ : S45)]) := ⟨_, rfl⟩
     replace H : (impl_WriteLine.j0 k y375) = some (r1, r2) := by first | (rw [hy375]; with_reducible exact H) | (have H2_ := (Option.bind_some _ _).symm.trans H; rw [hy375]; with_reducible exact H2_) | (have H2_ := (Option.bind_some _ _).symm.trans H; with_reducible exact H2_) | with_reducible exact H | (rw [hy375]; exact H) | exact H
     have Ny375 := A_ hy375
     clear hy375
     have H' := A_ H
     clear H
     obtain ⟨hcz21_0, hcz21_1, hcz21_2, hcz21_3, hcz21_4, hcz21_5⟩ := bc6 BK368.out
     obtain ⟨hfz21_0, hfz21_1, hfz21_2, hfz21_3, hfz21_4, hfz21_5⟩ := bf6 BK368.out
     go_wp2_with (first | ((with_reducible refine gate_builtin (b := .append) (xs := #[.tmp 23, .tmp 25]) rfl ?_); at_builtin; refine Kd.R_append k45 (w0 := w) w.heap.size rfl (.tmp 23) (.tmp 25) 25 45 (.agg #[(.string ⟨#[]⟩), (.int .i8 0), (.string ⟨#[]⟩), (.string ⟨#[]⟩), (.int .i64 0), (.int .i64 0)]) 72 rfl Try.underlying25 info45 rfl (by decide) (by omega) v371 t370 (⟨a1_0, a1_1, a1_2, a1_3, a1_4, a1_5⟩ : S45) [.string a1_0, .int .i8 a1_1, .string a1_2, .string a1_3, .int .i64 a1_4, .int .i64 a1_5] (fun k_ => k_ ≠ gb368) (fun _ => False) rfl rfl ?aP (fun _ hk => hk.elim) ?aF ?aO ?aB ?aS ?aL ?_; (case aP => exact k45_mkM _ _ _ (⟨a1_0, a1_1, a1_2, a1_3, a1_4, a1_5⟩ : S45)); (case aB => exact z10_2_); (case aF => exact (fun k_ hk => Kd.freshB (g := gb368) (o := .cells #[.string a1_0, .int .i8 a1_1, .string a1_2, .string a1_3, .int .i64 a1_4, .int .i64 a1_5] 45 (0, 0)) z10_4_ k_ hk)); (case aO => exact (by (with_reducible repeat (first | apply Kd.R_alloc | apply Kd.R_drewN | apply Kd.R_drew)); exact Kd.R_mono HO372.out (fun _ hk => hk.2))); (case aS => exact (below_size z10_2_)); (case aL => have := LMc20.out; omega); intro v376 w22 ho hb hg hat; rw [← Ny375.out] at ho; have _ := A_ (blk_grown (g := gb368) (o := .cells #[.string a1_0, .int .i8 a1_1, .string a1_2, .string a1_3, .int .i64 a1_4, .int .i64 a1_5] 45 (0, 0)) z10_4_ hg (Kd.R_away HO372.out (fun _ hk => hk.2))); have _ := A_ (hb); have _ := A_ (ho); clear BK368 HB HO372; rename_i BK368 HB HO377; clear ho hb hg hat))
     go_meet
     case rel => exact ⟨_, (y375), (a1_0), (a1_1), (a1_2), (a1_3), (a1_4), (a1_5), H', ⟨z10_14_⟩, ⟨(by (with_reducible repeat (first | apply Kd.R_alloc | apply Kd.R_drewN | apply Kd.R_drew)); exact HO377.out)⟩, ⟨z10_4_⟩, ⟨z10_2_⟩⟩
    ·
     rw [if_neg c20] at H
     exact absurd H (by simp)
  case rest =>
   clear HC7
   try clear c1
   try clear p1
   try clear q1
   try clear hx1
   try clear c2
   try clear p2
   try clear c3
   try clear c4
   try clear c7
   try clear c13
   try clear c13b0
   try clear c14
   try clear c14b0
   try clear c15
   try clear c15b0
   try clear c16
   try clear p16
   try clear q16
   try clear hx16
   try clear hf16
   try clear c18
   try clear hx18
   try clear hf18
   try clear c20
   try clear hcz11_0
   try clear hcz11_1
   try clear hcz11_2
   try clear hcz11_3
   try clear hcz11_4
   try clear hcz11_5
   try clear hcz17_0
   try clear hcz17_1
   try clear hcz17_2
   try clear hcz17_3
   try clear hcz17_4
   try clear hcz17_5
   try clear hcz21_0
   try clear hcz21_1
   try clear hcz21_2
   try clear hcz21_3
   try clear hcz21_4
   try clear hcz21_5
   try clear hfz11_0
   try clear hfz11_1
   try clear hfz11_2
   try clear hfz11_3
   try clear hfz11_4
   try clear hfz11_5
   try clear hfz17_0
   try clear hfz17_1
   try clear hfz17_2
   try clear hfz17_3
   try clear hfz17_4
   try clear hfz17_5
   try clear hfz21_0
   try clear hfz21_1
   try clear hfz21_2
   try clear hfz21_3
   try clear hfz21_4
   try clear hfz21_5
   try clear hx16_0
   try clear hx16_1
   try clear hx16_2
   try clear hx16_3
   try clear hx16_4
   try clear hx16_5
   try clear hx18_0
   try clear hx18_1
   try clear hx18_2
   try clear hx18_3
   try clear hx18_4
   try clear hx18_5
   try clear p16
   try clear q16
   obtain ⟨kq, x6_6, x369000_6, x369001_6, x369002_6, x369003_6, x369004_6, x369005_6, HA, HJ6, HO_6, BK368, HB⟩ := hcut
   cases kq with
   | zero => exact absurd HA.out (by simp [impl_WriteLine.j0])
   | succ kj6 =>
    have H := HA.out
    clear HA
    simp only [impl_WriteLine.j0] at H
    by_cases c23 : (x6_6.length : Int) > 24
    ·
     rw [if_pos c23] at H
     have c23b0 := decide_eq_true c23
     have c23b1 : decide (24 < x6_6.length) = true := decide_eq_true (by omega)
     clear c23
     simp only [Option.some.injEq, Prod.mk.injEq] at H
     obtain ⟨rfl, rfl⟩ := H
     obtain ⟨Ao24, co24, eo24⟩ := Kd.R_slice HO_6.out
     subst eo24
     go_wp2
     go_ret2
     exact ⟨_, z10_7_, z10_10_, z10_2_⟩
    ·
     rw [if_neg c23] at H
     have c23b0 := decide_eq_false c23
     have c23b1 : decide (24 < x6_6.length) = false := decide_eq_false (by omega)
     clear c23
     replace H := Option.bind_eq_some_iff.mp H
     obtain ⟨t378, A250, H⟩ := H
     try dsimp only at H
     have A25 := A_ A250
     clear A250
     by_cases c26 : t378 = true
     ·
      subst c26
      have H1 := H; rw [if_pos rfl] at H1
      clear H
      have H := H1
      clear H1
      simp only [Option.some.injEq, Prod.mk.injEq] at H
      obtain ⟨rfl, rfl⟩ := H
      obtain ⟨Ao27, co27, eo27⟩ := Kd.R_slice HO_6.out
      subst eo27
      go_wp2_with (first | ((with_reducible refine gate_callee (f := 20) rfl ?_); refine goesL_ (some 31) rfl rfl Try.func20 (by kernel_rfl) rfl #[.slice Ao27 x6_6.length co27] rfl z10_3_ ?_; (with_reducible refine (impl_ValidBook.calls kj6 _ _ x6_6 true _ ?side1 ?side2 A25.out).mono ?_); (case side1 => have hx_ := (Kd.R_reads' HO_6.out).2.2; exact kc_); (case side2 => exact (Kd.R_reads' HO_6.out).2.1); rintro e w28 ⟨rfl, hb⟩; refine ⟨_, rfl, ?_⟩; have _ := A_ (Kd.R_below z10_15_ hb); have _ := A_ (blk_below (g := gb368) (o := .cells #[.string x369000_6, .int .i8 x369001_6, .string x369002_6, .string x369003_6, .int .i64 x369004_6, .int .i64 x369005_6] 45 (0, 0)) z10_4_ hb); have _ := A_ (below_step z10_2_ hb); clear HO_6 BK368 HB; rename_i HO_6 BK368 HB; (try clear hb)))
      go_ret2
      exact ⟨_, z10_7_, (by (with_reducible repeat (first | apply Kd.R_alloc | apply Kd.R_drewN | apply Kd.R_drew)); exact Kd.R_mono HO_6.out (fun _ hk => trivial)), z10_2_⟩
     ·
      replace c26 := Bool.eq_false_iff.mpr c26
      subst c26
      have H1 := H; rw [if_neg (show ¬ (false = true) by decide)] at H1
      clear H
      have H := H1
      clear H1
      simp only [Option.some.injEq, Prod.mk.injEq] at H
      obtain ⟨rfl, rfl⟩ := H
      obtain ⟨Ao29, co29, eo29⟩ := Kd.R_slice HO_6.out
      subst eo29
      go_wp2_with (first | ((with_reducible refine gate_callee (f := 20) rfl ?_); refine goesL_ (some 31) rfl rfl Try.func20 (by kernel_rfl) rfl #[.slice Ao29 x6_6.length co29] rfl z10_3_ ?_; (with_reducible refine (impl_ValidBook.calls kj6 _ _ x6_6 false _ ?side1 ?side2 A25.out).mono ?_); (case side1 => have hx_ := (Kd.R_reads' HO_6.out).2.2; exact kc_); (case side2 => exact (Kd.R_reads' HO_6.out).2.1); rintro e w30 ⟨rfl, hb⟩; refine ⟨_, rfl, ?_⟩; have _ := A_ (Kd.R_below z10_15_ hb); have _ := A_ (blk_below (g := gb368) (o := .cells #[.string x369000_6, .int .i8 x369001_6, .string x369002_6, .string x369003_6, .int .i64 x369004_6, .int .i64 x369005_6] 45 (0, 0)) z10_4_ hb); have _ := A_ (below_step z10_2_ hb); clear HO_6 BK368 HB; rename_i HO_6 BK368 HB; (try clear hb)))
      go_ret2
      exact ⟨_, z10_7_, z10_10_, z10_2_⟩
 ·
  replace c4 := Bool.eq_false_iff.mpr c4
  subst c4
  have H1 := H; rw [if_neg (show ¬ (false = true) by decide)] at H1
  clear H
  have H := H1
  clear H1
  simp only [Option.some.injEq, Prod.mk.injEq] at H
  obtain ⟨rfl, rfl⟩ := H
  go_enter Try.func32, Try.ntmps32
  go_wp2_with (first | ((with_reducible refine gate_dst (N := 3) rfl ?_); refine box_event ?hg (N := 3) ?hd (cs := #[.string a1_0, .int .i8 a1_1, .string a1_2, .string a1_3, .int .i64 a1_4, .int .i64 a1_5]) (t := 45) ?hr ?_; (case hd => rfl); (case hg => rfl); (case hr => first | (go_simp; done) | (go_simp; rfl)); intro gb368 hg w31 hbox hb; have _ := A_ (below_step z10_1_ hb); have _ := A_ (hbox); have _ := A_ ((by rw [hg]; exact (below_size z10_1_) : w.heap.size ≤ gb368)); have _ := A_ ((by rw [hg]; exact (below_size z10_1_) : w.heap.size ≤ gb368)); clear HB; rename_i HB BK368 GW368 GE368; clear hb hbox hg) | ((with_reducible refine gate_callee (f := 20) rfl ?_); refine goesL_ (some 9) rfl rfl Try.func20 (by kernel_rfl) rfl #[.slice A0 l0.length c0] rfl z10_3_ ?_; (with_reducible refine (impl_ValidBook.calls k _ _ l0 false _ ?side1 ?side2 A3.out).mono ?_); (case side1 => have hx_ := (Kd.C_below HR0.out HB.out); exact kc_); (case side2 => exact HC0.out); rintro e w32 ⟨rfl, hb⟩; refine ⟨_, rfl, ?_⟩; have _ := A_ (blk_below (g := gb368) (o := .cells #[.string a1_0, .int .i8 a1_1, .string a1_2, .string a1_3, .int .i64 a1_4, .int .i64 a1_5] 45 (0, 0)) z10_4_ hb); have _ := A_ (below_step z10_2_ hb); clear BK368 HB; rename_i BK368 HB; (try clear hb)))
  go_ret2
  exact ⟨_, z10_7_, z10_10_, z10_2_⟩
end Go.Proofs.Ytenhgmddpkiliaa.PB

-- Written by a program (xprint.py) out of the translation's own print; Lean checks it.
import Derived.Test.YtenhgmddpkiliaaPBx0
import Derived.Test.YtenhgmddpkiliaaPBx2
namespace Go.Proofs.Ytenhgmddpkiliaa.PB
open Go.RowKit Go.Proofs.YtenhgmddpkiliaaW.PrintWords Go.Proofs.YtenhgmddpkiliaaW.PrintLast Go.Proofs.YtenhgmddpkiliaaW.PrintMore Go.Proofs.YtenhgmddpkiliaaRP
attribute [local go_sem] max2_int min2_int max_two min_two max_three min_three max_four min_four Go.Proofs.YtenhgmddpkiliaaRP.max_eight Go.Proofs.YtenhgmddpkiliaaRP.tmod_len   -- for this text's walks alone
set_option linter.unusedVariables false
set_option linter.unusedSimpArgs false
/-! ### laws_heldLineS: function 28 -/
def laws_heldLineS.l0 : Nat → List (S45) → Int → Int → Option (Int)
 | 0, _, _, _ => none
 | k + 1, x0, x1, x5 => if x5 < (x0.length : Int) then (if 0 ≤ x5 then ((laws_markText.f k x1).bind fun t136 => (if ((rd_T45 x0 x5).f0).toList = t136.toList then (if ((rd_T45 x0 x5).f1) = (IntKind.i8.wrap (wrap64 (x1 + 1))) then ((laws_markText.f k (wrap64 ((wrap64 (x1 + 1)) + 1))).bind fun t139 => (if ((rd_T45 x0 x5).f2).toList = t139.toList then ((laws_markText.f k (wrap64 ((wrap64 ((wrap64 (x1 + 1)) + 1)) + 1))).bind fun t141 => (if ((rd_T45 x0 x5).f3).toList = t141.toList then (if ((rd_T45 x0 x5).f4) = (wrap64 ((wrap64 ((wrap64 ((wrap64 (x1 + 1)) + 1)) + 1)) + 1)) then (if ((rd_T45 x0 x5).f5) = (wrap64 ((wrap64 ((wrap64 ((wrap64 ((wrap64 (x1 + 1)) + 1)) + 1)) + 1)) + 1)) then (laws_heldLineS.l0 k x0 (wrap64 ((wrap64 ((wrap64 ((wrap64 ((wrap64 ((wrap64 (x1 + 1)) + 1)) + 1)) + 1)) + 1)) + 1)) (wrap64 (x5 + 1))) else (some (-1))) else (some (-1))) else (some (-1)))) else (some (-1)))) else (some (-1))) else (some (-1)))) else (none)) else (some x1)
def laws_heldLineS.f (k : Nat) (l0 : List (S45)) (a1 : Int) : Option (Int) := laws_heldLineS.l0 k l0 a1 0
theorem laws_heldLineS.mono_l : ∀ k, (∀ y0 y1 y2, LeO (laws_heldLineS.l0 k y0 y1 y2) (laws_heldLineS.l0 (k + 1) y0 y1 y2))
 | 0 => fun _ _ _ r h => by simp [laws_heldLineS.l0] at h
 | k + 1 => by
  have ih0 := laws_heldLineS.mono_l k
  ·
   intro y0 y1 y2
   unfold laws_heldLineS.l0
   repeat' first
   | (with_reducible exact ih0 _ _ _)
   | (with_reducible exact laws_markText.mono _ _)
   | (with_reducible exact LeO.refl _)
   | (with_reducible exact LeO.none _)
   | (with_reducible refine LeO.ite ?_ ?_)
   | (with_reducible refine LeO.bind ?_ (fun _ => ?_))
   | exact ih0 _ _ _
   | exact LeO.none _
   | refine LeO.ite ?_ ?_
   | refine LeO.bind ?_ (fun _ => ?_)
theorem laws_heldLineS.mono : ∀ a0 a1 k, LeO (laws_heldLineS.f k a0 a1) (laws_heldLineS.f (k + 1) a0 a1) := by
 intro a0 a1 k
 have ih0 := laws_heldLineS.mono_l k
 unfold laws_heldLineS.f
 repeat' first
   | (with_reducible exact ih0 _ _ _)
   | (with_reducible exact laws_markText.mono _ _)
   | (with_reducible exact LeO.refl _)
   | (with_reducible exact LeO.none _)
   | (with_reducible refine LeO.ite ?_ ?_)
   | (with_reducible refine LeO.bind ?_ (fun _ => ?_))
   | exact ih0 _ _ _
   | exact LeO.none _
   | refine LeO.ite ?_ ?_
   | refine LeO.bind ?_ (fun _ => ?_)
def laws_heldLineS.T4 : Bool × List (List Nat × List Nat) := (true, [([], []), ([], []), ([0, 1], [0, 1]), ([2], [2]), ([3], [3]), ([], []), ([5], [5]), ([4, 6], [4, 6])])
def laws_heldLineS.B4 : List Nat := [0, 0, 3, 7, 15, 0, 32, 127]
theorem laws_heldLineS.tab4 : rtab .any (opsOf Try.f28 4) = laws_heldLineS.T4 := by kernel_rfl
theorem laws_heldLineS.bits4 : waitsOk laws_heldLineS.T4.2 laws_heldLineS.B4 = true := by kernel_rfl
def laws_heldLineS.T10 : Bool × List (List Nat × List Nat) := (true, [([], []), ([], []), ([0, 1], [0, 1]), ([2], [2]), ([3], [3]), ([], []), ([5], [5]), ([4, 6], [4, 6])])
def laws_heldLineS.B10 : List Nat := [0, 0, 3, 7, 15, 0, 32, 127]
theorem laws_heldLineS.tab10 : rtab .any (opsOf Try.f28 10) = laws_heldLineS.T10 := by kernel_rfl
theorem laws_heldLineS.bits10 : waitsOk laws_heldLineS.T10.2 laws_heldLineS.B10 = true := by kernel_rfl
def laws_heldLineS.T13 : Bool × List (List Nat × List Nat) := (true, [([], []), ([], []), ([0, 1], [0, 1]), ([2], [2]), ([3], [3]), ([], []), ([5], [5]), ([4, 6], [4, 6])])
def laws_heldLineS.B13 : List Nat := [0, 0, 3, 7, 15, 0, 32, 127]
theorem laws_heldLineS.tab13 : rtab .any (opsOf Try.f28 13) = laws_heldLineS.T13 := by kernel_rfl
theorem laws_heldLineS.bits13 : waitsOk laws_heldLineS.T13.2 laws_heldLineS.B13 = true := by kernel_rfl
set_option maxHeartbeats 8000000 in
set_option maxRecDepth 100000 in
theorem laws_heldLineS.calls (k : Nat) (A0 : Option Addr) (c0 : Nat) (l0 : List (S45)) (a1 : Int) (r : Int) (w : World) (hr0 : Kd.C k45 w A0 l0.length l0) (hc0 : l0.length ≤ c0) (h : laws_heldLineS.f k l0 a1 = some r) :
  Calls Try.prog 28 #[.slice A0 l0.length c0, .int .i64 a1] w fun e w' => e = .returned (.int .i64 r) ∧ Below w.heap.size w w' := by
 have HR0 := Aside0.mk hr0
 have HC0 := Aside0.mk hc0
 clear hr0 hc0
 have HB := Aside0.mk (Below.refl w.heap.size w)
 have H : (laws_heldLineS.l0 k l0 a1 0) = some r := h
 clear h
 have H' := Aside0.mk H
 clear H
 go_enter Try.func28, Try.ntmps28
 go_wp2
 go_loopg [1, 5] k (fun kq v1 v5 w' => ∃ (x1_1 : Int) (x5_1 : Int), v1 = .int .i64 x1_1 ∧ v5 = .int .i64 x5_1 ∧ Aside0 (laws_heldLineS.l0 kq l0 x1_1 x5_1 = some r) ∧ Aside0 (kq ≤ k) ∧ Aside0 (Below w.heap.size w w'))
 case atStart => exact ⟨(a1), (0), (by first | rfl | (simp; done) | (simp [*]; done) | (simp [isE_]; done)), (by first | rfl | (simp; done) | (simp [*]; done) | (simp [isE_]; done)), H', ⟨Nat.le_refl _⟩, ⟨by repeat (first | (with_reducible first | exact HB.out | apply below_alloc | apply pw_below_drewN | apply below_drew1) | exact HB.out)⟩⟩
 case round =>
  clear H'
  try clear c2
  try clear p2
  obtain ⟨x1_1, x5_1, rfl, rfl, HA, HK1, HB⟩ := hrel
  cases gk with
  | zero => exact absurd HA.out (by simp [laws_heldLineS.l0])
  | succ k1 =>
   have H := HA.out
   clear HA
   simp only [laws_heldLineS.l0] at H
   by_cases c3 : x5_1 < (l0.length : Int)
   ·
    rw [if_pos c3] at H
    have c3b0 : decide (x5_1 < (l0.length : Int)) = true := decide_eq_true c3
    clear c3
    by_cases c4 : 0 ≤ x5_1
    ·
     rw [if_pos c4] at H
     have c4b0 : decide (0 ≤ x5_1) = true := decide_eq_true c4
     clear c4
     replace H := Option.bind_eq_some_iff.mp H
     obtain ⟨t136, A50, H⟩ := H
     replace H : (if ((rd_T45 l0 x5_1).f0).toList = t136.toList then (if ((rd_T45 l0 x5_1).f1) = (IntKind.i8.wrap (wrap64 (x1_1 + 1))) then ((laws_markText.f k1 (wrap64 ((wrap64 (x1_1 + 1)) + 1))).bind fun t139 => (if ((rd_T45 l0 x5_1).f2).toList = t139.toList then ((laws_markText.f k1 (wrap64 ((wrap64 ((wrap64 (x1_1 + 1)) + 1)) + 1))).bind fun t141 => (if ((rd_T45 l0 x5_1).f3).toList = t141.toList then (if ((rd_T45 l0 x5_1).f4) = (wrap64 ((wrap64 ((wrap64 ((wrap64 (x1_1 + 1)) + 1)) + 1)) + 1)) then (if ((rd_T45 l0 x5_1).f5) = (wrap64 ((wrap64 ((wrap64 ((wrap64 ((wrap64 (x1_1 + 1)) + 1)) + 1)) + 1)) + 1)) then (laws_heldLineS.l0 k1 l0 (wrap64 ((wrap64 ((wrap64 ((wrap64 ((wrap64 ((wrap64 (x1_1 + 1)) + 1)) + 1)) + 1)) + 1)) + 1)) (wrap64 (x5_1 + 1))) else (some (-1))) else (some (-1))) else (some (-1)))) else (some (-1)))) else (some (-1))) else (some (-1))) = some r := H
     have A5 := Aside0.mk A50
     clear A50
     by_cases c6 : ((rd_T45 l0 x5_1).f0).toList = t136.toList
     ·
      rw [if_pos c6] at H
      have c6b0 : (((rd_T45 l0 x5_1).f0).toList == t136.toList) = true := beq_iff_eq.mpr c6
      have c6b1 : (((rd_T45 l0 x5_1).f0).toList != t136.toList) = false := bne_eq_false_iff_eq.mpr c6
      clear c6
      by_cases c7 : ((rd_T45 l0 x5_1).f1) = (IntKind.i8.wrap (wrap64 (x1_1 + 1)))
      ·
       rw [if_pos c7] at H
       have c7b0 : (((rd_T45 l0 x5_1).f1) == (IntKind.i8.wrap (wrap64 (x1_1 + 1)))) = true := beq_iff_eq.mpr c7
       have c7b1 : (((rd_T45 l0 x5_1).f1) != (IntKind.i8.wrap (wrap64 (x1_1 + 1)))) = false := bne_eq_false_iff_eq.mpr c7
       clear c7
       replace H := Option.bind_eq_some_iff.mp H
       obtain ⟨t139, A80, H⟩ := H
       replace H : (if ((rd_T45 l0 x5_1).f2).toList = t139.toList then ((laws_markText.f k1 (wrap64 ((wrap64 ((wrap64 (x1_1 + 1)) + 1)) + 1))).bind fun t141 => (if ((rd_T45 l0 x5_1).f3).toList = t141.toList then (if ((rd_T45 l0 x5_1).f4) = (wrap64 ((wrap64 ((wrap64 ((wrap64 (x1_1 + 1)) + 1)) + 1)) + 1)) then (if ((rd_T45 l0 x5_1).f5) = (wrap64 ((wrap64 ((wrap64 ((wrap64 ((wrap64 (x1_1 + 1)) + 1)) + 1)) + 1)) + 1)) then (laws_heldLineS.l0 k1 l0 (wrap64 ((wrap64 ((wrap64 ((wrap64 ((wrap64 ((wrap64 (x1_1 + 1)) + 1)) + 1)) + 1)) + 1)) + 1)) (wrap64 (x5_1 + 1))) else (some (-1))) else (some (-1))) else (some (-1)))) else (some (-1))) = some r := H
       have A8 := Aside0.mk A80
       clear A80
       by_cases c9 : ((rd_T45 l0 x5_1).f2).toList = t139.toList
       ·
        rw [if_pos c9] at H
        have c9b0 : (((rd_T45 l0 x5_1).f2).toList == t139.toList) = true := beq_iff_eq.mpr c9
        have c9b1 : (((rd_T45 l0 x5_1).f2).toList != t139.toList) = false := bne_eq_false_iff_eq.mpr c9
        clear c9
        replace H := Option.bind_eq_some_iff.mp H
        obtain ⟨t141, A100, H⟩ := H
        replace H : (if ((rd_T45 l0 x5_1).f3).toList = t141.toList then (if ((rd_T45 l0 x5_1).f4) = (wrap64 ((wrap64 ((wrap64 ((wrap64 (x1_1 + 1)) + 1)) + 1)) + 1)) then (if ((rd_T45 l0 x5_1).f5) = (wrap64 ((wrap64 ((wrap64 ((wrap64 ((wrap64 (x1_1 + 1)) + 1)) + 1)) + 1)) + 1)) then (laws_heldLineS.l0 k1 l0 (wrap64 ((wrap64 ((wrap64 ((wrap64 ((wrap64 ((wrap64 (x1_1 + 1)) + 1)) + 1)) + 1)) + 1)) + 1)) (wrap64 (x5_1 + 1))) else (some (-1))) else (some (-1))) else (some (-1))) = some r := H
        have A10 := Aside0.mk A100
        clear A100
        by_cases c11 : ((rd_T45 l0 x5_1).f3).toList = t141.toList
        ·
         rw [if_pos c11] at H
         have c11b0 : (((rd_T45 l0 x5_1).f3).toList == t141.toList) = true := beq_iff_eq.mpr c11
         have c11b1 : (((rd_T45 l0 x5_1).f3).toList != t141.toList) = false := bne_eq_false_iff_eq.mpr c11
         clear c11
         by_cases c12 : ((rd_T45 l0 x5_1).f4) = (wrap64 ((wrap64 ((wrap64 ((wrap64 (x1_1 + 1)) + 1)) + 1)) + 1))
         ·
          rw [if_pos c12] at H
          have c12b0 : (((rd_T45 l0 x5_1).f4) == (wrap64 ((wrap64 ((wrap64 ((wrap64 (x1_1 + 1)) + 1)) + 1)) + 1))) = true := beq_iff_eq.mpr c12
          have c12b1 : (((rd_T45 l0 x5_1).f4) != (wrap64 ((wrap64 ((wrap64 ((wrap64 (x1_1 + 1)) + 1)) + 1)) + 1))) = false := bne_eq_false_iff_eq.mpr c12
          clear c12
          by_cases c13 : ((rd_T45 l0 x5_1).f5) = (wrap64 ((wrap64 ((wrap64 ((wrap64 ((wrap64 (x1_1 + 1)) + 1)) + 1)) + 1)) + 1))
          ·
           rw [if_pos c13] at H
           have c13b0 : (((rd_T45 l0 x5_1).f5) == (wrap64 ((wrap64 ((wrap64 ((wrap64 ((wrap64 (x1_1 + 1)) + 1)) + 1)) + 1)) + 1))) = true := beq_iff_eq.mpr c13
           have c13b1 : (((rd_T45 l0 x5_1).f5) != (wrap64 ((wrap64 ((wrap64 ((wrap64 ((wrap64 (x1_1 + 1)) + 1)) + 1)) + 1)) + 1))) = false := bne_eq_false_iff_eq.mpr c13
           clear c13
           have H' := Aside0.mk H
           clear H
           try go_wp2
           have n0_ := Aside0.mk (below_drew1 HB.out)
           clear HB
           have HB := n0_
           clear n0_
           have p135 : 0 ≤ (x5_1 : Int) := of_decide_eq_true (by assumption)
           have q135 : x5_1 < (l0.length : Int) := of_decide_eq_true (by assumption)
           obtain ⟨ad135, e135, hx135_0, hx135_1, hx135_2, hx135_3, hx135_4, hx135_5⟩ := at_T45 HR0.out x5_1 p135 q135
           have hw135_5 := hx135_5
           have hw135_4 := hx135_4
           have hw135_3 := hx135_3
           have hw135_2 := hx135_2
           have hw135_1 := hx135_1
           have hw135_0 := hx135_0
           cases e135
           replace hx135_0 := (HB.out.cell (World.block_lt_of_cell? w _ hx135_0)).trans hx135_0
           replace hx135_1 := (HB.out.cell (World.block_lt_of_cell? w _ hx135_1)).trans hx135_1
           replace hx135_2 := (HB.out.cell (World.block_lt_of_cell? w _ hx135_2)).trans hx135_2
           replace hx135_3 := (HB.out.cell (World.block_lt_of_cell? w _ hx135_3)).trans hx135_3
           replace hx135_4 := (HB.out.cell (World.block_lt_of_cell? w _ hx135_4)).trans hx135_4
           replace hx135_5 := (HB.out.cell (World.block_lt_of_cell? w _ hx135_5)).trans hx135_5
           replace p135 := eq_true p135
           replace q135 := eq_true q135
           refine start_ (n := 8) (S := fun w' => w'.cell? (ad135.add ((x5_1).toNat * 6)) = some (.string ((rd_T45 l0 x5_1).f0)) ∧ w'.cell? ⟨(ad135.add ((x5_1).toNat * 6)).block, (ad135.add ((x5_1).toNat * 6)).off + 1, none⟩ = some (.int .i8 ((rd_T45 l0 x5_1).f1)) ∧ w'.cell? ⟨(ad135.add ((x5_1).toNat * 6)).block, (ad135.add ((x5_1).toNat * 6)).off + 2, none⟩ = some (.string ((rd_T45 l0 x5_1).f2)) ∧ w'.cell? ⟨(ad135.add ((x5_1).toNat * 6)).block, (ad135.add ((x5_1).toNat * 6)).off + 3, none⟩ = some (.string ((rd_T45 l0 x5_1).f3)) ∧ w'.cell? ⟨(ad135.add ((x5_1).toNat * 6)).block, (ad135.add ((x5_1).toNat * 6)).off + 4, none⟩ = some (.int .i64 ((rd_T45 l0 x5_1).f4)) ∧ w'.cell? ⟨(ad135.add ((x5_1).toNat * 6)).block, (ad135.add ((x5_1).toNat * 6)).off + 5, none⟩ = some (.int .i64 ((rd_T45 l0 x5_1).f5))) (ds := []) #[false, false, false, false, false, false, false, false] (by kernel_rfl) rfl rfl ⟨((HB.out.cell (World.block_lt_of_cell? w _ hw135_0)).trans hw135_0), ((HB.out.cell (World.block_lt_of_cell? w _ hw135_1)).trans hw135_1), ((HB.out.cell (World.block_lt_of_cell? w _ hw135_2)).trans hw135_2), ((HB.out.cell (World.block_lt_of_cell? w _ hw135_3)).trans hw135_3), ((HB.out.cell (World.block_lt_of_cell? w _ hw135_4)).trans hw135_4), ((HB.out.cell (World.block_lt_of_cell? w _ hw135_5)).trans hw135_5)⟩ (fun hHeld => ?_); refine with_tabW laws_heldLineS.tab4 laws_heldLineS.bits4 (fun HT_ HW_ => ?_)
           generalize wr.drew = w14 at HB hx135_0 hx135_1 hx135_2 hx135_3 hx135_4 hx135_5 hHeld ⊢
           refine pure_ (i := 0) (N := some 12) (v := ?_) (a' := ?_) #[true, false, false, false, false, false, false, false] rfl rfl (any_of HT_.out (by kernel_rfl)) (fun _ _ _ h => h) (Or.inl ⟨by rfl, ?_⟩) ?_ ?_
           rotate_left
           ·
            intro w'
            go_simp
            with_reducible rfl
           rotate_left
           ·
            simp only [Act.put, sA_, sB_, sC_, i64_w, i32_w]
            rfl
           refine pure_ (i := 1) (N := some 13) (v := ?_) (a' := ?_) #[true, true, false, false, false, false, false, false] rfl rfl (any_of HT_.out (by kernel_rfl)) (fun _ _ _ h => h) (Or.inl ⟨by rfl, ?_⟩) ?_ ?_
           rotate_left
           ·
            intro w'
            go_simp
            with_reducible rfl
           rotate_left
           ·
            simp only [Act.put, sA_, sB_, sC_, i64_w, i32_w]
            rfl
           refine pure_ (i := 2) (N := some 14) (v := ?_) (a' := ?_) #[true, true, true, false, false, false, false, false] rfl rfl (any_of HT_.out (by kernel_rfl)) (fun _ _ _ h => h) (Or.inl ⟨by rfl, ?_⟩) ?_ ?_
           rotate_left
           ·
            intro w'
            go_simp
            with_reducible rfl
           rotate_left
           ·
            simp only [Act.put, sA_, sB_, sC_, i64_w, i32_w]
            rfl
           refine pure_ (i := 3) (N := some 15) (v := ?_) (a' := ?_) #[true, true, true, true, false, false, false, false] rfl rfl (any_of HT_.out (by kernel_rfl)) (fun _ _ _ h => h) (Or.inl ⟨by rfl, ?_⟩) ?_ ?_
           rotate_left
           ·
            intro w'
            go_simp
            with_reducible rfl
           rotate_left
           ·
            simp only [Act.put, sA_, sB_, sC_, i64_w, i32_w]
            rfl
           refine pure_ (i := 5) (N := some 17) (v := ?_) (a' := ?_) #[true, true, true, true, false, true, false, false] rfl rfl (any_of HT_.out (by kernel_rfl)) (fun _ _ _ h => h) (Or.inl ⟨by rfl, ?_⟩) ?_ ?_
           rotate_left
           ·
            intro w'
            go_simp
            with_reducible rfl
           rotate_left
           ·
            simp only [Act.put, sA_, sB_, sC_, i64_w, i32_w]
            rfl
           refine take_ (i := 4) (N := some 16) (v := ?_) (a' := ?_) #[true, true, true, true, true, true, false, false] rfl rfl (take_ofW HT_.out HW_.out (by kernel_rfl)) (fun _ _ _ h => h) (Or.inl ⟨by rfl, ?_⟩) hHeld ?_ ?_
           rotate_left
           ·
            rintro w' ⟨s0, s1, s2, s3, s4, s5⟩
            go_simp
            with_reducible rfl
           rotate_left
           ·
            simp only [Act.put, sA_, sB_, sC_, i64_w, i32_w]
            rfl
           refine one_ (i := 6) (N := some 18) #[true, true, true, true, true, true, true, false] rfl rfl (one_of HT_.out (by kernel_rfl)) (by decide) (fun K hK => ?_)
           refine goes_ Try.func76 (by kernel_rfl) rfl #[.int .i64 x1_1] (by rfl) rfl rfl (by (try simp only [List.map_toArray, List.map_cons, List.map_nil]); first | done | rfl | (simp only [List.length_drop, List.length_take]; rfl)) ?_
           with_reducible refine (laws_markText.calls k1 x1_1 t136 _ A5.out).mono ?_
           rintro e w15 ⟨rfl, hb⟩
           refine ⟨_, rfl, ?_⟩
           have n0_ := Aside0.mk (below_step (by repeat (first | (with_reducible first | exact HB.out | apply below_alloc | apply pw_below_drewN | apply below_drew1) | exact HB.out)) hb)
           clear HB
           have HB := n0_
           clear n0_
           (try clear hb)
           (try clear hb2)
           (try clear hk)
           (try clear hi)
           refine hK.out _ _ ⟨((HB.out.cell (World.block_lt_of_cell? w _ hw135_0)).trans hw135_0), ((HB.out.cell (World.block_lt_of_cell? w _ hw135_1)).trans hw135_1), ((HB.out.cell (World.block_lt_of_cell? w _ hw135_2)).trans hw135_2), ((HB.out.cell (World.block_lt_of_cell? w _ hw135_3)).trans hw135_3), ((HB.out.cell (World.block_lt_of_cell? w _ hw135_4)).trans hw135_4), ((HB.out.cell (World.block_lt_of_cell? w _ hw135_5)).trans hw135_5)⟩ (fun hHeld => ?_)
           clear hK K
           refine norm_ (a' := ?_) ?_ ?_
           rotate_left
           ·
            show Act.put _ (some 18) _ = _
            simp only [Act.put, sA_, sB_, sC_, i64_w, i32_w]
            rfl
           refine pure_ (i := 7) (N := some 19) (v := ?_) (a' := ?_) #[true, true, true, true, true, true, true, true] rfl rfl (any_of HT_.out (by kernel_rfl)) (fun _ _ _ h => h) (Or.inl ⟨by rfl, ?_⟩) ?_ ?_
           rotate_left
           ·
            intro w'
            go_simp
            with_reducible rfl
           rotate_left
           ·
            simp only [Act.put, sA_, sB_, sC_, i64_w, i32_w]
            rfl
           refine done_ (done_of HT_.out (by kernel_rfl)) ?_
           have p137 : 0 ≤ (x5_1 : Int) := of_decide_eq_true (by assumption)
           have q137 : x5_1 < (l0.length : Int) := of_decide_eq_true (by assumption)
           obtain ⟨ad137, e137, hx137_0, hx137_1, hx137_2, hx137_3, hx137_4, hx137_5⟩ := at_T45 HR0.out x5_1 p137 q137
           obtain rfl : ad135 = ad137 := (by injection e137)
           replace hx137_0 := (HB.out.cell (World.block_lt_of_cell? w _ hx137_0)).trans hx137_0
           replace hx137_1 := (HB.out.cell (World.block_lt_of_cell? w _ hx137_1)).trans hx137_1
           replace hx137_2 := (HB.out.cell (World.block_lt_of_cell? w _ hx137_2)).trans hx137_2
           replace hx137_3 := (HB.out.cell (World.block_lt_of_cell? w _ hx137_3)).trans hx137_3
           replace hx137_4 := (HB.out.cell (World.block_lt_of_cell? w _ hx137_4)).trans hx137_4
           replace hx137_5 := (HB.out.cell (World.block_lt_of_cell? w _ hx137_5)).trans hx137_5
           replace p137 := eq_true p137
           replace q137 := eq_true q137
           try go_wp2
           have n0_ := Aside0.mk (below_drew1 HB.out)
           clear HB
           have HB := n0_
           clear n0_
           have p138 : 0 ≤ (x5_1 : Int) := of_decide_eq_true (by assumption)
           have q138 : x5_1 < (l0.length : Int) := of_decide_eq_true (by assumption)
           obtain ⟨ad138, e138, hx138_0, hx138_1, hx138_2, hx138_3, hx138_4, hx138_5⟩ := at_T45 HR0.out x5_1 p138 q138
           have hw138_5 := hx138_5
           have hw138_4 := hx138_4
           have hw138_3 := hx138_3
           have hw138_2 := hx138_2
           have hw138_1 := hx138_1
           have hw138_0 := hx138_0
           obtain rfl : ad135 = ad138 := (by injection e138)
           replace hx138_0 := (HB.out.cell (World.block_lt_of_cell? w _ hx138_0)).trans hx138_0
           replace hx138_1 := (HB.out.cell (World.block_lt_of_cell? w _ hx138_1)).trans hx138_1
           replace hx138_2 := (HB.out.cell (World.block_lt_of_cell? w _ hx138_2)).trans hx138_2
           replace hx138_3 := (HB.out.cell (World.block_lt_of_cell? w _ hx138_3)).trans hx138_3
           replace hx138_4 := (HB.out.cell (World.block_lt_of_cell? w _ hx138_4)).trans hx138_4
           replace hx138_5 := (HB.out.cell (World.block_lt_of_cell? w _ hx138_5)).trans hx138_5
           replace p138 := eq_true p138
           replace q138 := eq_true q138
           refine start_ (n := 8) (S := fun w' => w'.cell? (ad135.add ((x5_1).toNat * 6)) = some (.string ((rd_T45 l0 x5_1).f0)) ∧ w'.cell? ⟨(ad135.add ((x5_1).toNat * 6)).block, (ad135.add ((x5_1).toNat * 6)).off + 1, none⟩ = some (.int .i8 ((rd_T45 l0 x5_1).f1)) ∧ w'.cell? ⟨(ad135.add ((x5_1).toNat * 6)).block, (ad135.add ((x5_1).toNat * 6)).off + 2, none⟩ = some (.string ((rd_T45 l0 x5_1).f2)) ∧ w'.cell? ⟨(ad135.add ((x5_1).toNat * 6)).block, (ad135.add ((x5_1).toNat * 6)).off + 3, none⟩ = some (.string ((rd_T45 l0 x5_1).f3)) ∧ w'.cell? ⟨(ad135.add ((x5_1).toNat * 6)).block, (ad135.add ((x5_1).toNat * 6)).off + 4, none⟩ = some (.int .i64 ((rd_T45 l0 x5_1).f4)) ∧ w'.cell? ⟨(ad135.add ((x5_1).toNat * 6)).block, (ad135.add ((x5_1).toNat * 6)).off + 5, none⟩ = some (.int .i64 ((rd_T45 l0 x5_1).f5))) (ds := []) #[false, false, false, false, false, false, false, false] (by kernel_rfl) rfl rfl ⟨((HB.out.cell (World.block_lt_of_cell? w _ hw138_0)).trans hw138_0), ((HB.out.cell (World.block_lt_of_cell? w _ hw138_1)).trans hw138_1), ((HB.out.cell (World.block_lt_of_cell? w _ hw138_2)).trans hw138_2), ((HB.out.cell (World.block_lt_of_cell? w _ hw138_3)).trans hw138_3), ((HB.out.cell (World.block_lt_of_cell? w _ hw138_4)).trans hw138_4), ((HB.out.cell (World.block_lt_of_cell? w _ hw138_5)).trans hw138_5)⟩ (fun hHeld => ?_); refine with_tabW laws_heldLineS.tab10 laws_heldLineS.bits10 (fun HT_ HW_ => ?_)
           generalize w15.drew = w16 at HB hx138_0 hx138_1 hx138_2 hx138_3 hx138_4 hx138_5 hHeld ⊢
           refine pure_ (i := 0) (N := some 32) (v := ?_) (a' := ?_) #[true, false, false, false, false, false, false, false] rfl rfl (any_of HT_.out (by kernel_rfl)) (fun _ _ _ h => h) (Or.inl ⟨by rfl, ?_⟩) ?_ ?_
           rotate_left
           ·
            intro w'
            go_simp
            with_reducible rfl
           rotate_left
           ·
            simp only [Act.put, sA_, sB_, sC_, i64_w, i32_w]
            rfl
           refine pure_ (i := 1) (N := some 33) (v := ?_) (a' := ?_) #[true, true, false, false, false, false, false, false] rfl rfl (any_of HT_.out (by kernel_rfl)) (fun _ _ _ h => h) (Or.inl ⟨by rfl, ?_⟩) ?_ ?_
           rotate_left
           ·
            intro w'
            go_simp
            with_reducible rfl
           rotate_left
           ·
            simp only [Act.put, sA_, sB_, sC_, i64_w, i32_w]
            rfl
           refine pure_ (i := 2) (N := some 34) (v := ?_) (a' := ?_) #[true, true, true, false, false, false, false, false] rfl rfl (any_of HT_.out (by kernel_rfl)) (fun _ _ _ h => h) (Or.inl ⟨by rfl, ?_⟩) ?_ ?_
           rotate_left
           ·
            intro w'
            go_simp
            with_reducible rfl
           rotate_left
           ·
            simp only [Act.put, sA_, sB_, sC_, i64_w, i32_w]
            rfl
           refine pure_ (i := 3) (N := some 35) (v := ?_) (a' := ?_) #[true, true, true, true, false, false, false, false] rfl rfl (any_of HT_.out (by kernel_rfl)) (fun _ _ _ h => h) (Or.inl ⟨by rfl, ?_⟩) ?_ ?_
           rotate_left
           ·
            intro w'
            go_simp
            with_reducible rfl
           rotate_left
           ·
            simp only [Act.put, sA_, sB_, sC_, i64_w, i32_w]
            rfl
           refine pure_ (i := 5) (N := some 37) (v := ?_) (a' := ?_) #[true, true, true, true, false, true, false, false] rfl rfl (any_of HT_.out (by kernel_rfl)) (fun _ _ _ h => h) (Or.inl ⟨by rfl, ?_⟩) ?_ ?_
           rotate_left
           ·
            intro w'
            go_simp
            with_reducible rfl
           rotate_left
           ·
            simp only [Act.put, sA_, sB_, sC_, i64_w, i32_w]
            rfl
           refine take_ (i := 4) (N := some 36) (v := ?_) (a' := ?_) #[true, true, true, true, true, true, false, false] rfl rfl (take_ofW HT_.out HW_.out (by kernel_rfl)) (fun _ _ _ h => h) (Or.inl ⟨by rfl, ?_⟩) hHeld ?_ ?_
           rotate_left
           ·
            rintro w' ⟨s0, s1, s2, s3, s4, s5⟩
            go_simp
            with_reducible rfl
           rotate_left
           ·
            simp only [Act.put, sA_, sB_, sC_, i64_w, i32_w]
            rfl
           refine one_ (i := 6) (N := some 38) #[true, true, true, true, true, true, true, false] rfl rfl (one_of HT_.out (by kernel_rfl)) (by decide) (fun K hK => ?_)
           refine goes_ Try.func76 (by kernel_rfl) rfl #[.int .i64 (wrap64 ((wrap64 (x1_1 + 1)) + 1))] (by rfl) rfl rfl (by (try simp only [List.map_toArray, List.map_cons, List.map_nil]); first | done | rfl | (simp only [List.length_drop, List.length_take]; rfl)) ?_
           with_reducible refine (laws_markText.calls k1 (wrap64 ((wrap64 (x1_1 + 1)) + 1)) t139 _ A8.out).mono ?_
           rintro e w17 ⟨rfl, hb⟩
           refine ⟨_, rfl, ?_⟩
           have n0_ := Aside0.mk (below_step (by repeat (first | (with_reducible first | exact HB.out | apply below_alloc | apply pw_below_drewN | apply below_drew1) | exact HB.out)) hb)
           clear HB
           have HB := n0_
           clear n0_
           (try clear hb)
           (try clear hb2)
           (try clear hk)
           (try clear hi)
           refine hK.out _ _ ⟨((HB.out.cell (World.block_lt_of_cell? w _ hw138_0)).trans hw138_0), ((HB.out.cell (World.block_lt_of_cell? w _ hw138_1)).trans hw138_1), ((HB.out.cell (World.block_lt_of_cell? w _ hw138_2)).trans hw138_2), ((HB.out.cell (World.block_lt_of_cell? w _ hw138_3)).trans hw138_3), ((HB.out.cell (World.block_lt_of_cell? w _ hw138_4)).trans hw138_4), ((HB.out.cell (World.block_lt_of_cell? w _ hw138_5)).trans hw138_5)⟩ (fun hHeld => ?_)
           clear hK K
           refine norm_ (a' := ?_) ?_ ?_
           rotate_left
           ·
            show Act.put _ (some 38) _ = _
            simp only [Act.put, sA_, sB_, sC_, i64_w, i32_w]
            rfl
           refine pure_ (i := 7) (N := some 39) (v := ?_) (a' := ?_) #[true, true, true, true, true, true, true, true] rfl rfl (any_of HT_.out (by kernel_rfl)) (fun _ _ _ h => h) (Or.inl ⟨by rfl, ?_⟩) ?_ ?_
           rotate_left
           ·
            intro w'
            go_simp
            with_reducible rfl
           rotate_left
           ·
            simp only [Act.put, sA_, sB_, sC_, i64_w, i32_w]
            rfl
           refine done_ (done_of HT_.out (by kernel_rfl)) ?_
           try go_wp2
           have n0_ := Aside0.mk (below_drew1 HB.out)
           clear HB
           have HB := n0_
           clear n0_
           have p140 : 0 ≤ (x5_1 : Int) := of_decide_eq_true (by assumption)
           have q140 : x5_1 < (l0.length : Int) := of_decide_eq_true (by assumption)
           obtain ⟨ad140, e140, hx140_0, hx140_1, hx140_2, hx140_3, hx140_4, hx140_5⟩ := at_T45 HR0.out x5_1 p140 q140
           have hw140_5 := hx140_5
           have hw140_4 := hx140_4
           have hw140_3 := hx140_3
           have hw140_2 := hx140_2
           have hw140_1 := hx140_1
           have hw140_0 := hx140_0
           obtain rfl : ad135 = ad140 := (by injection e140)
           replace hx140_0 := (HB.out.cell (World.block_lt_of_cell? w _ hx140_0)).trans hx140_0
           replace hx140_1 := (HB.out.cell (World.block_lt_of_cell? w _ hx140_1)).trans hx140_1
           replace hx140_2 := (HB.out.cell (World.block_lt_of_cell? w _ hx140_2)).trans hx140_2
           replace hx140_3 := (HB.out.cell (World.block_lt_of_cell? w _ hx140_3)).trans hx140_3
           replace hx140_4 := (HB.out.cell (World.block_lt_of_cell? w _ hx140_4)).trans hx140_4
           replace hx140_5 := (HB.out.cell (World.block_lt_of_cell? w _ hx140_5)).trans hx140_5
           replace p140 := eq_true p140
           replace q140 := eq_true q140
           refine start_ (n := 8) (S := fun w' => w'.cell? (ad135.add ((x5_1).toNat * 6)) = some (.string ((rd_T45 l0 x5_1).f0)) ∧ w'.cell? ⟨(ad135.add ((x5_1).toNat * 6)).block, (ad135.add ((x5_1).toNat * 6)).off + 1, none⟩ = some (.int .i8 ((rd_T45 l0 x5_1).f1)) ∧ w'.cell? ⟨(ad135.add ((x5_1).toNat * 6)).block, (ad135.add ((x5_1).toNat * 6)).off + 2, none⟩ = some (.string ((rd_T45 l0 x5_1).f2)) ∧ w'.cell? ⟨(ad135.add ((x5_1).toNat * 6)).block, (ad135.add ((x5_1).toNat * 6)).off + 3, none⟩ = some (.string ((rd_T45 l0 x5_1).f3)) ∧ w'.cell? ⟨(ad135.add ((x5_1).toNat * 6)).block, (ad135.add ((x5_1).toNat * 6)).off + 4, none⟩ = some (.int .i64 ((rd_T45 l0 x5_1).f4)) ∧ w'.cell? ⟨(ad135.add ((x5_1).toNat * 6)).block, (ad135.add ((x5_1).toNat * 6)).off + 5, none⟩ = some (.int .i64 ((rd_T45 l0 x5_1).f5))) (ds := []) #[false, false, false, false, false, false, false, false] (by kernel_rfl) rfl rfl ⟨((HB.out.cell (World.block_lt_of_cell? w _ hw140_0)).trans hw140_0), ((HB.out.cell (World.block_lt_of_cell? w _ hw140_1)).trans hw140_1), ((HB.out.cell (World.block_lt_of_cell? w _ hw140_2)).trans hw140_2), ((HB.out.cell (World.block_lt_of_cell? w _ hw140_3)).trans hw140_3), ((HB.out.cell (World.block_lt_of_cell? w _ hw140_4)).trans hw140_4), ((HB.out.cell (World.block_lt_of_cell? w _ hw140_5)).trans hw140_5)⟩ (fun hHeld => ?_); refine with_tabW laws_heldLineS.tab13 laws_heldLineS.bits13 (fun HT_ HW_ => ?_)
           generalize w17.drew = w18 at HB hx140_0 hx140_1 hx140_2 hx140_3 hx140_4 hx140_5 hHeld ⊢
           refine pure_ (i := 0) (N := some 42) (v := ?_) (a' := ?_) #[true, false, false, false, false, false, false, false] rfl rfl (any_of HT_.out (by kernel_rfl)) (fun _ _ _ h => h) (Or.inl ⟨by rfl, ?_⟩) ?_ ?_
           rotate_left
           ·
            intro w'
            go_simp
            with_reducible rfl
           rotate_left
           ·
            simp only [Act.put, sA_, sB_, sC_, i64_w, i32_w]
            rfl
           refine pure_ (i := 1) (N := some 43) (v := ?_) (a' := ?_) #[true, true, false, false, false, false, false, false] rfl rfl (any_of HT_.out (by kernel_rfl)) (fun _ _ _ h => h) (Or.inl ⟨by rfl, ?_⟩) ?_ ?_
           rotate_left
           ·
            intro w'
            go_simp
            with_reducible rfl
           rotate_left
           ·
            simp only [Act.put, sA_, sB_, sC_, i64_w, i32_w]
            rfl
           refine pure_ (i := 2) (N := some 44) (v := ?_) (a' := ?_) #[true, true, true, false, false, false, false, false] rfl rfl (any_of HT_.out (by kernel_rfl)) (fun _ _ _ h => h) (Or.inl ⟨by rfl, ?_⟩) ?_ ?_
           rotate_left
           ·
            intro w'
            go_simp
            with_reducible rfl
           rotate_left
           ·
            simp only [Act.put, sA_, sB_, sC_, i64_w, i32_w]
            rfl
           refine pure_ (i := 3) (N := some 45) (v := ?_) (a' := ?_) #[true, true, true, true, false, false, false, false] rfl rfl (any_of HT_.out (by kernel_rfl)) (fun _ _ _ h => h) (Or.inl ⟨by rfl, ?_⟩) ?_ ?_
           rotate_left
           ·
            intro w'
            go_simp
            with_reducible rfl
           rotate_left
           ·
            simp only [Act.put, sA_, sB_, sC_, i64_w, i32_w]
            rfl
           refine pure_ (i := 5) (N := some 47) (v := ?_) (a' := ?_) #[true, true, true, true, false, true, false, false] rfl rfl (any_of HT_.out (by kernel_rfl)) (fun _ _ _ h => h) (Or.inl ⟨by rfl, ?_⟩) ?_ ?_
           rotate_left
           ·
            intro w'
            go_simp
            with_reducible rfl
           rotate_left
           ·
            simp only [Act.put, sA_, sB_, sC_, i64_w, i32_w]
            rfl
           refine take_ (i := 4) (N := some 46) (v := ?_) (a' := ?_) #[true, true, true, true, true, true, false, false] rfl rfl (take_ofW HT_.out HW_.out (by kernel_rfl)) (fun _ _ _ h => h) (Or.inl ⟨by rfl, ?_⟩) hHeld ?_ ?_
           rotate_left
           ·
            rintro w' ⟨s0, s1, s2, s3, s4, s5⟩
            go_simp
            with_reducible rfl
           rotate_left
           ·
            simp only [Act.put, sA_, sB_, sC_, i64_w, i32_w]
            rfl
           refine one_ (i := 6) (N := some 48) #[true, true, true, true, true, true, true, false] rfl rfl (one_of HT_.out (by kernel_rfl)) (by decide) (fun K hK => ?_)
           refine goes_ Try.func76 (by kernel_rfl) rfl #[.int .i64 (wrap64 ((wrap64 ((wrap64 (x1_1 + 1)) + 1)) + 1))] (by rfl) rfl rfl (by (try simp only [List.map_toArray, List.map_cons, List.map_nil]); first | done | rfl | (simp only [List.length_drop, List.length_take]; rfl)) ?_
           with_reducible refine (laws_markText.calls k1 (wrap64 ((wrap64 ((wrap64 (x1_1 + 1)) + 1)) + 1)) t141 _ A10.out).mono ?_
           rintro e w19 ⟨rfl, hb⟩
           refine ⟨_, rfl, ?_⟩
           have n0_ := Aside0.mk (below_step (by repeat (first | (with_reducible first | exact HB.out | apply below_alloc | apply pw_below_drewN | apply below_drew1) | exact HB.out)) hb)
           clear HB
           have HB := n0_
           clear n0_
           (try clear hb)
           (try clear hb2)
           (try clear hk)
           (try clear hi)
           refine hK.out _ _ ⟨((HB.out.cell (World.block_lt_of_cell? w _ hw140_0)).trans hw140_0), ((HB.out.cell (World.block_lt_of_cell? w _ hw140_1)).trans hw140_1), ((HB.out.cell (World.block_lt_of_cell? w _ hw140_2)).trans hw140_2), ((HB.out.cell (World.block_lt_of_cell? w _ hw140_3)).trans hw140_3), ((HB.out.cell (World.block_lt_of_cell? w _ hw140_4)).trans hw140_4), ((HB.out.cell (World.block_lt_of_cell? w _ hw140_5)).trans hw140_5)⟩ (fun hHeld => ?_)
           clear hK K
           refine norm_ (a' := ?_) ?_ ?_
           rotate_left
           ·
            show Act.put _ (some 48) _ = _
            simp only [Act.put, sA_, sB_, sC_, i64_w, i32_w]
            rfl
           refine pure_ (i := 7) (N := some 49) (v := ?_) (a' := ?_) #[true, true, true, true, true, true, true, true] rfl rfl (any_of HT_.out (by kernel_rfl)) (fun _ _ _ h => h) (Or.inl ⟨by rfl, ?_⟩) ?_ ?_
           rotate_left
           ·
            intro w'
            go_simp
            with_reducible rfl
           rotate_left
           ·
            simp only [Act.put, sA_, sB_, sC_, i64_w, i32_w]
            rfl
           refine done_ (done_of HT_.out (by kernel_rfl)) ?_
           have p142 : 0 ≤ (x5_1 : Int) := of_decide_eq_true (by assumption)
           have q142 : x5_1 < (l0.length : Int) := of_decide_eq_true (by assumption)
           obtain ⟨ad142, e142, hx142_0, hx142_1, hx142_2, hx142_3, hx142_4, hx142_5⟩ := at_T45 HR0.out x5_1 p142 q142
           obtain rfl : ad135 = ad142 := (by injection e142)
           replace hx142_0 := (HB.out.cell (World.block_lt_of_cell? w _ hx142_0)).trans hx142_0
           replace hx142_1 := (HB.out.cell (World.block_lt_of_cell? w _ hx142_1)).trans hx142_1
           replace hx142_2 := (HB.out.cell (World.block_lt_of_cell? w _ hx142_2)).trans hx142_2
           replace hx142_3 := (HB.out.cell (World.block_lt_of_cell? w _ hx142_3)).trans hx142_3
           replace hx142_4 := (HB.out.cell (World.block_lt_of_cell? w _ hx142_4)).trans hx142_4
           replace hx142_5 := (HB.out.cell (World.block_lt_of_cell? w _ hx142_5)).trans hx142_5
           replace p142 := eq_true p142
           replace q142 := eq_true q142
           have p143 : 0 ≤ (x5_1 : Int) := of_decide_eq_true (by assumption)
           have q143 : x5_1 < (l0.length : Int) := of_decide_eq_true (by assumption)
           obtain ⟨ad143, e143, hx143_0, hx143_1, hx143_2, hx143_3, hx143_4, hx143_5⟩ := at_T45 HR0.out x5_1 p143 q143
           obtain rfl : ad135 = ad143 := (by injection e143)
           replace hx143_0 := (HB.out.cell (World.block_lt_of_cell? w _ hx143_0)).trans hx143_0
           replace hx143_1 := (HB.out.cell (World.block_lt_of_cell? w _ hx143_1)).trans hx143_1
           replace hx143_2 := (HB.out.cell (World.block_lt_of_cell? w _ hx143_2)).trans hx143_2
           replace hx143_3 := (HB.out.cell (World.block_lt_of_cell? w _ hx143_3)).trans hx143_3
           replace hx143_4 := (HB.out.cell (World.block_lt_of_cell? w _ hx143_4)).trans hx143_4
           replace hx143_5 := (HB.out.cell (World.block_lt_of_cell? w _ hx143_5)).trans hx143_5
           replace p143 := eq_true p143
           replace q143 := eq_true q143
           try go_wp2
           go_roundg k1
           case measure => have := HK1.out; omega
           case rel => exact ⟨(wrap64 ((wrap64 ((wrap64 ((wrap64 ((wrap64 ((wrap64 (x1_1 + 1)) + 1)) + 1)) + 1)) + 1)) + 1)), (wrap64 (x5_1 + 1)), (by first | rfl | (simp; done) | (simp [*]; done) | (simp [isE_]; done)), (by first | rfl | (simp; done) | (simp [*]; done) | (simp [isE_]; done)), H', ⟨by have := HK1.out; omega⟩, ⟨by repeat (first | (with_reducible first | exact HB.out | apply below_alloc | apply pw_below_drewN | apply below_drew1) | exact HB.out)⟩⟩
          ·
           rw [if_neg c13] at H
           have c13b0 : (((rd_T45 l0 x5_1).f5) == (wrap64 ((wrap64 ((wrap64 ((wrap64 ((wrap64 (x1_1 + 1)) + 1)) + 1)) + 1)) + 1))) = false := beq_eq_false_iff_ne.mpr c13
           have c13b1 : (((rd_T45 l0 x5_1).f5) != (wrap64 ((wrap64 ((wrap64 ((wrap64 ((wrap64 (x1_1 + 1)) + 1)) + 1)) + 1)) + 1))) = true := bne_iff_ne.mpr c13
           obtain rfl := Option.some.inj H
           try go_wp2
           have n0_ := Aside0.mk (below_drew1 HB.out)
           clear HB
           have HB := n0_
           clear n0_
           have p135 : 0 ≤ (x5_1 : Int) := of_decide_eq_true (by assumption)
           have q135 : x5_1 < (l0.length : Int) := of_decide_eq_true (by assumption)
           obtain ⟨ad135, e135, hx135_0, hx135_1, hx135_2, hx135_3, hx135_4, hx135_5⟩ := at_T45 HR0.out x5_1 p135 q135
           have hw135_5 := hx135_5
           have hw135_4 := hx135_4
           have hw135_3 := hx135_3
           have hw135_2 := hx135_2
           have hw135_1 := hx135_1
           have hw135_0 := hx135_0
           cases e135
           replace hx135_0 := (HB.out.cell (World.block_lt_of_cell? w _ hx135_0)).trans hx135_0
           replace hx135_1 := (HB.out.cell (World.block_lt_of_cell? w _ hx135_1)).trans hx135_1
           replace hx135_2 := (HB.out.cell (World.block_lt_of_cell? w _ hx135_2)).trans hx135_2
           replace hx135_3 := (HB.out.cell (World.block_lt_of_cell? w _ hx135_3)).trans hx135_3
           replace hx135_4 := (HB.out.cell (World.block_lt_of_cell? w _ hx135_4)).trans hx135_4
           replace hx135_5 := (HB.out.cell (World.block_lt_of_cell? w _ hx135_5)).trans hx135_5
           replace p135 := eq_true p135
           replace q135 := eq_true q135
           refine start_ (n := 8) (S := fun w' => w'.cell? (ad135.add ((x5_1).toNat * 6)) = some (.string ((rd_T45 l0 x5_1).f0)) ∧ w'.cell? ⟨(ad135.add ((x5_1).toNat * 6)).block, (ad135.add ((x5_1).toNat * 6)).off + 1, none⟩ = some (.int .i8 ((rd_T45 l0 x5_1).f1)) ∧ w'.cell? ⟨(ad135.add ((x5_1).toNat * 6)).block, (ad135.add ((x5_1).toNat * 6)).off + 2, none⟩ = some (.string ((rd_T45 l0 x5_1).f2)) ∧ w'.cell? ⟨(ad135.add ((x5_1).toNat * 6)).block, (ad135.add ((x5_1).toNat * 6)).off + 3, none⟩ = some (.string ((rd_T45 l0 x5_1).f3)) ∧ w'.cell? ⟨(ad135.add ((x5_1).toNat * 6)).block, (ad135.add ((x5_1).toNat * 6)).off + 4, none⟩ = some (.int .i64 ((rd_T45 l0 x5_1).f4)) ∧ w'.cell? ⟨(ad135.add ((x5_1).toNat * 6)).block, (ad135.add ((x5_1).toNat * 6)).off + 5, none⟩ = some (.int .i64 ((rd_T45 l0 x5_1).f5))) (ds := []) #[false, false, false, false, false, false, false, false] (by kernel_rfl) rfl rfl ⟨((HB.out.cell (World.block_lt_of_cell? w _ hw135_0)).trans hw135_0), ((HB.out.cell (World.block_lt_of_cell? w _ hw135_1)).trans hw135_1), ((HB.out.cell (World.block_lt_of_cell? w _ hw135_2)).trans hw135_2), ((HB.out.cell (World.block_lt_of_cell? w _ hw135_3)).trans hw135_3), ((HB.out.cell (World.block_lt_of_cell? w _ hw135_4)).trans hw135_4), ((HB.out.cell (World.block_lt_of_cell? w _ hw135_5)).trans hw135_5)⟩ (fun hHeld => ?_); refine with_tabW laws_heldLineS.tab4 laws_heldLineS.bits4 (fun HT_ HW_ => ?_)
           generalize wr.drew = w20 at HB hx135_0 hx135_1 hx135_2 hx135_3 hx135_4 hx135_5 hHeld ⊢
           refine pure_ (i := 0) (N := some 12) (v := ?_) (a' := ?_) #[true, false, false, false, false, false, false, false] rfl rfl (any_of HT_.out (by kernel_rfl)) (fun _ _ _ h => h) (Or.inl ⟨by rfl, ?_⟩) ?_ ?_
           rotate_left
           ·
            intro w'
            go_simp
            with_reducible rfl
           rotate_left
           ·
            simp only [Act.put, sA_, sB_, sC_, i64_w, i32_w]
            rfl
           refine pure_ (i := 1) (N := some 13) (v := ?_) (a' := ?_) #[true, true, false, false, false, false, false, false] rfl rfl (any_of HT_.out (by kernel_rfl)) (fun _ _ _ h => h) (Or.inl ⟨by rfl, ?_⟩) ?_ ?_
           rotate_left
           ·
            intro w'
            go_simp
            with_reducible rfl
           rotate_left
           ·
            simp only [Act.put, sA_, sB_, sC_, i64_w, i32_w]
            rfl
           refine pure_ (i := 2) (N := some 14) (v := ?_) (a' := ?_) #[true, true, true, false, false, false, false, false] rfl rfl (any_of HT_.out (by kernel_rfl)) (fun _ _ _ h => h) (Or.inl ⟨by rfl, ?_⟩) ?_ ?_
           rotate_left
           ·
            intro w'
            go_simp
            with_reducible rfl
           rotate_left
           ·
            simp only [Act.put, sA_, sB_, sC_, i64_w, i32_w]
            rfl
           refine pure_ (i := 3) (N := some 15) (v := ?_) (a' := ?_) #[true, true, true, true, false, false, false, false] rfl rfl (any_of HT_.out (by kernel_rfl)) (fun _ _ _ h => h) (Or.inl ⟨by rfl, ?_⟩) ?_ ?_
           rotate_left
           ·
            intro w'
            go_simp
            with_reducible rfl
           rotate_left
           ·
            simp only [Act.put, sA_, sB_, sC_, i64_w, i32_w]
            rfl
           refine pure_ (i := 5) (N := some 17) (v := ?_) (a' := ?_) #[true, true, true, true, false, true, false, false] rfl rfl (any_of HT_.out (by kernel_rfl)) (fun _ _ _ h => h) (Or.inl ⟨by rfl, ?_⟩) ?_ ?_
           rotate_left
           ·
            intro w'
            go_simp
            with_reducible rfl
           rotate_left
           ·
            simp only [Act.put, sA_, sB_, sC_, i64_w, i32_w]
            rfl
           refine take_ (i := 4) (N := some 16) (v := ?_) (a' := ?_) #[true, true, true, true, true, true, false, false] rfl rfl (take_ofW HT_.out HW_.out (by kernel_rfl)) (fun _ _ _ h => h) (Or.inl ⟨by rfl, ?_⟩) hHeld ?_ ?_
           rotate_left
           ·
            rintro w' ⟨s0, s1, s2, s3, s4, s5⟩
            go_simp
            with_reducible rfl
           rotate_left
           ·
            simp only [Act.put, sA_, sB_, sC_, i64_w, i32_w]
            rfl
           refine one_ (i := 6) (N := some 18) #[true, true, true, true, true, true, true, false] rfl rfl (one_of HT_.out (by kernel_rfl)) (by decide) (fun K hK => ?_)
           refine goes_ Try.func76 (by kernel_rfl) rfl #[.int .i64 x1_1] (by rfl) rfl rfl (by (try simp only [List.map_toArray, List.map_cons, List.map_nil]); first | done | rfl | (simp only [List.length_drop, List.length_take]; rfl)) ?_
           with_reducible refine (laws_markText.calls k1 x1_1 t136 _ A5.out).mono ?_
           rintro e w21 ⟨rfl, hb⟩
           refine ⟨_, rfl, ?_⟩
           have n0_ := Aside0.mk (below_step (by repeat (first | (with_reducible first | exact HB.out | apply below_alloc | apply pw_below_drewN | apply below_drew1) | exact HB.out)) hb)
           clear HB
           have HB := n0_
           clear n0_
           (try clear hb)
           (try clear hb2)
           (try clear hk)
           (try clear hi)
           refine hK.out _ _ ⟨((HB.out.cell (World.block_lt_of_cell? w _ hw135_0)).trans hw135_0), ((HB.out.cell (World.block_lt_of_cell? w _ hw135_1)).trans hw135_1), ((HB.out.cell (World.block_lt_of_cell? w _ hw135_2)).trans hw135_2), ((HB.out.cell (World.block_lt_of_cell? w _ hw135_3)).trans hw135_3), ((HB.out.cell (World.block_lt_of_cell? w _ hw135_4)).trans hw135_4), ((HB.out.cell (World.block_lt_of_cell? w _ hw135_5)).trans hw135_5)⟩ (fun hHeld => ?_)
           clear hK K
           refine norm_ (a' := ?_) ?_ ?_
           rotate_left
           ·
            show Act.put _ (some 18) _ = _
            simp only [Act.put, sA_, sB_, sC_, i64_w, i32_w]
            rfl
           refine pure_ (i := 7) (N := some 19) (v := ?_) (a' := ?_) #[true, true, true, true, true, true, true, true] rfl rfl (any_of HT_.out (by kernel_rfl)) (fun _ _ _ h => h) (Or.inl ⟨by rfl, ?_⟩) ?_ ?_
           rotate_left
           ·
            intro w'
            go_simp
            with_reducible rfl
           rotate_left
           ·
            simp only [Act.put, sA_, sB_, sC_, i64_w, i32_w]
            rfl
           refine done_ (done_of HT_.out (by kernel_rfl)) ?_
           have p137 : 0 ≤ (x5_1 : Int) := of_decide_eq_true (by assumption)
           have q137 : x5_1 < (l0.length : Int) := of_decide_eq_true (by assumption)
           obtain ⟨ad137, e137, hx137_0, hx137_1, hx137_2, hx137_3, hx137_4, hx137_5⟩ := at_T45 HR0.out x5_1 p137 q137
           obtain rfl : ad135 = ad137 := (by injection e137)
           replace hx137_0 := (HB.out.cell (World.block_lt_of_cell? w _ hx137_0)).trans hx137_0
           replace hx137_1 := (HB.out.cell (World.block_lt_of_cell? w _ hx137_1)).trans hx137_1
           replace hx137_2 := (HB.out.cell (World.block_lt_of_cell? w _ hx137_2)).trans hx137_2
           replace hx137_3 := (HB.out.cell (World.block_lt_of_cell? w _ hx137_3)).trans hx137_3
           replace hx137_4 := (HB.out.cell (World.block_lt_of_cell? w _ hx137_4)).trans hx137_4
           replace hx137_5 := (HB.out.cell (World.block_lt_of_cell? w _ hx137_5)).trans hx137_5
           replace p137 := eq_true p137
           replace q137 := eq_true q137
           try go_wp2
           have n0_ := Aside0.mk (below_drew1 HB.out)
           clear HB
           have HB := n0_
           clear n0_
           have p138 : 0 ≤ (x5_1 : Int) := of_decide_eq_true (by assumption)
           have q138 : x5_1 < (l0.length : Int) := of_decide_eq_true (by assumption)
           obtain ⟨ad138, e138, hx138_0, hx138_1, hx138_2, hx138_3, hx138_4, hx138_5⟩ := at_T45 HR0.out x5_1 p138 q138
           have hw138_5 := hx138_5
           have hw138_4 := hx138_4
           have hw138_3 := hx138_3
           have hw138_2 := hx138_2
           have hw138_1 := hx138_1
           have hw138_0 := hx138_0
           obtain rfl : ad135 = ad138 := (by injection e138)
           replace hx138_0 := (HB.out.cell (World.block_lt_of_cell? w _ hx138_0)).trans hx138_0
           replace hx138_1 := (HB.out.cell (World.block_lt_of_cell? w _ hx138_1)).trans hx138_1
           replace hx138_2 := (HB.out.cell (World.block_lt_of_cell? w _ hx138_2)).trans hx138_2
           replace hx138_3 := (HB.out.cell (World.block_lt_of_cell? w _ hx138_3)).trans hx138_3
           replace hx138_4 := (HB.out.cell (World.block_lt_of_cell? w _ hx138_4)).trans hx138_4
           replace hx138_5 := (HB.out.cell (World.block_lt_of_cell? w _ hx138_5)).trans hx138_5
           replace p138 := eq_true p138
           replace q138 := eq_true q138
           refine start_ (n := 8) (S := fun w' => w'.cell? (ad135.add ((x5_1).toNat * 6)) = some (.string ((rd_T45 l0 x5_1).f0)) ∧ w'.cell? ⟨(ad135.add ((x5_1).toNat * 6)).block, (ad135.add ((x5_1).toNat * 6)).off + 1, none⟩ = some (.int .i8 ((rd_T45 l0 x5_1).f1)) ∧ w'.cell? ⟨(ad135.add ((x5_1).toNat * 6)).block, (ad135.add ((x5_1).toNat * 6)).off + 2, none⟩ = some (.string ((rd_T45 l0 x5_1).f2)) ∧ w'.cell? ⟨(ad135.add ((x5_1).toNat * 6)).block, (ad135.add ((x5_1).toNat * 6)).off + 3, none⟩ = some (.string ((rd_T45 l0 x5_1).f3)) ∧ w'.cell? ⟨(ad135.add ((x5_1).toNat * 6)).block, (ad135.add ((x5_1).toNat * 6)).off + 4, none⟩ = some (.int .i64 ((rd_T45 l0 x5_1).f4)) ∧ w'.cell? ⟨(ad135.add ((x5_1).toNat * 6)).block, (ad135.add ((x5_1).toNat * 6)).off + 5, none⟩ = some (.int .i64 ((rd_T45 l0 x5_1).f5))) (ds := []) #[false, false, false, false, false, false, false, false] (by kernel_rfl) rfl rfl ⟨((HB.out.cell (World.block_lt_of_cell? w _ hw138_0)).trans hw138_0), ((HB.out.cell (World.block_lt_of_cell? w _ hw138_1)).trans hw138_1), ((HB.out.cell (World.block_lt_of_cell? w _ hw138_2)).trans hw138_2), ((HB.out.cell (World.block_lt_of_cell? w _ hw138_3)).trans hw138_3), ((HB.out.cell (World.block_lt_of_cell? w _ hw138_4)).trans hw138_4), ((HB.out.cell (World.block_lt_of_cell? w _ hw138_5)).trans hw138_5)⟩ (fun hHeld => ?_); refine with_tabW laws_heldLineS.tab10 laws_heldLineS.bits10 (fun HT_ HW_ => ?_)
           generalize w21.drew = w22 at HB hx138_0 hx138_1 hx138_2 hx138_3 hx138_4 hx138_5 hHeld ⊢
           refine pure_ (i := 0) (N := some 32) (v := ?_) (a' := ?_) #[true, false, false, false, false, false, false, false] rfl rfl (any_of HT_.out (by kernel_rfl)) (fun _ _ _ h => h) (Or.inl ⟨by rfl, ?_⟩) ?_ ?_
           rotate_left
           ·
            intro w'
            go_simp
            with_reducible rfl
           rotate_left
           ·
            simp only [Act.put, sA_, sB_, sC_, i64_w, i32_w]
            rfl
           refine pure_ (i := 1) (N := some 33) (v := ?_) (a' := ?_) #[true, true, false, false, false, false, false, false] rfl rfl (any_of HT_.out (by kernel_rfl)) (fun _ _ _ h => h) (Or.inl ⟨by rfl, ?_⟩) ?_ ?_
           rotate_left
           ·
            intro w'
            go_simp
            with_reducible rfl
           rotate_left
           ·
            simp only [Act.put, sA_, sB_, sC_, i64_w, i32_w]
            rfl
           refine pure_ (i := 2) (N := some 34) (v := ?_) (a' := ?_) #[true, true, true, false, false, false, false, false] rfl rfl (any_of HT_.out (by kernel_rfl)) (fun _ _ _ h => h) (Or.inl ⟨by rfl, ?_⟩) ?_ ?_
           rotate_left
           ·
            intro w'
            go_simp
            with_reducible rfl
           rotate_left
           ·
            simp only [Act.put, sA_, sB_, sC_, i64_w, i32_w]
            rfl
           refine pure_ (i := 3) (N := some 35) (v := ?_) (a' := ?_) #[true, true, true, true, false, false, false, false] rfl rfl (any_of HT_.out (by kernel_rfl)) (fun _ _ _ h => h) (Or.inl ⟨by rfl, ?_⟩) ?_ ?_
           rotate_left
           ·
            intro w'
            go_simp
            with_reducible rfl
           rotate_left
           ·
            simp only [Act.put, sA_, sB_, sC_, i64_w, i32_w]
            rfl
           refine pure_ (i := 5) (N := some 37) (v := ?_) (a' := ?_) #[true, true, true, true, false, true, false, false] rfl rfl (any_of HT_.out (by kernel_rfl)) (fun _ _ _ h => h) (Or.inl ⟨by rfl, ?_⟩) ?_ ?_
           rotate_left
           ·
            intro w'
            go_simp
            with_reducible rfl
           rotate_left
           ·
            simp only [Act.put, sA_, sB_, sC_, i64_w, i32_w]
            rfl
           refine take_ (i := 4) (N := some 36) (v := ?_) (a' := ?_) #[true, true, true, true, true, true, false, false] rfl rfl (take_ofW HT_.out HW_.out (by kernel_rfl)) (fun _ _ _ h => h) (Or.inl ⟨by rfl, ?_⟩) hHeld ?_ ?_
           rotate_left
           ·
            rintro w' ⟨s0, s1, s2, s3, s4, s5⟩
            go_simp
            with_reducible rfl
           rotate_left
           ·
            simp only [Act.put, sA_, sB_, sC_, i64_w, i32_w]
            rfl
           refine one_ (i := 6) (N := some 38) #[true, true, true, true, true, true, true, false] rfl rfl (one_of HT_.out (by kernel_rfl)) (by decide) (fun K hK => ?_)
           refine goes_ Try.func76 (by kernel_rfl) rfl #[.int .i64 (wrap64 ((wrap64 (x1_1 + 1)) + 1))] (by rfl) rfl rfl (by (try simp only [List.map_toArray, List.map_cons, List.map_nil]); first | done | rfl | (simp only [List.length_drop, List.length_take]; rfl)) ?_
           with_reducible refine (laws_markText.calls k1 (wrap64 ((wrap64 (x1_1 + 1)) + 1)) t139 _ A8.out).mono ?_
           rintro e w23 ⟨rfl, hb⟩
           refine ⟨_, rfl, ?_⟩
           have n0_ := Aside0.mk (below_step (by repeat (first | (with_reducible first | exact HB.out | apply below_alloc | apply pw_below_drewN | apply below_drew1) | exact HB.out)) hb)
           clear HB
           have HB := n0_
           clear n0_
           (try clear hb)
           (try clear hb2)
           (try clear hk)
           (try clear hi)
           refine hK.out _ _ ⟨((HB.out.cell (World.block_lt_of_cell? w _ hw138_0)).trans hw138_0), ((HB.out.cell (World.block_lt_of_cell? w _ hw138_1)).trans hw138_1), ((HB.out.cell (World.block_lt_of_cell? w _ hw138_2)).trans hw138_2), ((HB.out.cell (World.block_lt_of_cell? w _ hw138_3)).trans hw138_3), ((HB.out.cell (World.block_lt_of_cell? w _ hw138_4)).trans hw138_4), ((HB.out.cell (World.block_lt_of_cell? w _ hw138_5)).trans hw138_5)⟩ (fun hHeld => ?_)
           clear hK K
           refine norm_ (a' := ?_) ?_ ?_
           rotate_left
           ·
            show Act.put _ (some 38) _ = _
            simp only [Act.put, sA_, sB_, sC_, i64_w, i32_w]
            rfl
           refine pure_ (i := 7) (N := some 39) (v := ?_) (a' := ?_) #[true, true, true, true, true, true, true, true] rfl rfl (any_of HT_.out (by kernel_rfl)) (fun _ _ _ h => h) (Or.inl ⟨by rfl, ?_⟩) ?_ ?_
           rotate_left
           ·
            intro w'
            go_simp
            with_reducible rfl
           rotate_left
           ·
            simp only [Act.put, sA_, sB_, sC_, i64_w, i32_w]
            rfl
           refine done_ (done_of HT_.out (by kernel_rfl)) ?_
           try go_wp2
           have n0_ := Aside0.mk (below_drew1 HB.out)
           clear HB
           have HB := n0_
           clear n0_
           have p140 : 0 ≤ (x5_1 : Int) := of_decide_eq_true (by assumption)
           have q140 : x5_1 < (l0.length : Int) := of_decide_eq_true (by assumption)
           obtain ⟨ad140, e140, hx140_0, hx140_1, hx140_2, hx140_3, hx140_4, hx140_5⟩ := at_T45 HR0.out x5_1 p140 q140
           have hw140_5 := hx140_5
           have hw140_4 := hx140_4
           have hw140_3 := hx140_3
           have hw140_2 := hx140_2
           have hw140_1 := hx140_1
           have hw140_0 := hx140_0
           obtain rfl : ad135 = ad140 := (by injection e140)
           replace hx140_0 := (HB.out.cell (World.block_lt_of_cell? w _ hx140_0)).trans hx140_0
           replace hx140_1 := (HB.out.cell (World.block_lt_of_cell? w _ hx140_1)).trans hx140_1
           replace hx140_2 := (HB.out.cell (World.block_lt_of_cell? w _ hx140_2)).trans hx140_2
           replace hx140_3 := (HB.out.cell (World.block_lt_of_cell? w _ hx140_3)).trans hx140_3
           replace hx140_4 := (HB.out.cell (World.block_lt_of_cell? w _ hx140_4)).trans hx140_4
           replace hx140_5 := (HB.out.cell (World.block_lt_of_cell? w _ hx140_5)).trans hx140_5
           replace p140 := eq_true p140
           replace q140 := eq_true q140
           refine start_ (n := 8) (S := fun w' => w'.cell? (ad135.add ((x5_1).toNat * 6)) = some (.string ((rd_T45 l0 x5_1).f0)) ∧ w'.cell? ⟨(ad135.add ((x5_1).toNat * 6)).block, (ad135.add ((x5_1).toNat * 6)).off + 1, none⟩ = some (.int .i8 ((rd_T45 l0 x5_1).f1)) ∧ w'.cell? ⟨(ad135.add ((x5_1).toNat * 6)).block, (ad135.add ((x5_1).toNat * 6)).off + 2, none⟩ = some (.string ((rd_T45 l0 x5_1).f2)) ∧ w'.cell? ⟨(ad135.add ((x5_1).toNat * 6)).block, (ad135.add ((x5_1).toNat * 6)).off + 3, none⟩ = some (.string ((rd_T45 l0 x5_1).f3)) ∧ w'.cell? ⟨(ad135.add ((x5_1).toNat * 6)).block, (ad135.add ((x5_1).toNat * 6)).off + 4, none⟩ = some (.int .i64 ((rd_T45 l0 x5_1).f4)) ∧ w'.cell? ⟨(ad135.add ((x5_1).toNat * 6)).block, (ad135.add ((x5_1).toNat * 6)).off + 5, none⟩ = some (.int .i64 ((rd_T45 l0 x5_1).f5))) (ds := []) #[false, false, false, false, false, false, false, false] (by kernel_rfl) rfl rfl ⟨((HB.out.cell (World.block_lt_of_cell? w _ hw140_0)).trans hw140_0), ((HB.out.cell (World.block_lt_of_cell? w _ hw140_1)).trans hw140_1), ((HB.out.cell (World.block_lt_of_cell? w _ hw140_2)).trans hw140_2), ((HB.out.cell (World.block_lt_of_cell? w _ hw140_3)).trans hw140_3), ((HB.out.cell (World.block_lt_of_cell? w _ hw140_4)).trans hw140_4), ((HB.out.cell (World.block_lt_of_cell? w _ hw140_5)).trans hw140_5)⟩ (fun hHeld => ?_); refine with_tabW laws_heldLineS.tab13 laws_heldLineS.bits13 (fun HT_ HW_ => ?_)
           generalize w23.drew = w24 at HB hx140_0 hx140_1 hx140_2 hx140_3 hx140_4 hx140_5 hHeld ⊢
           refine pure_ (i := 0) (N := some 42) (v := ?_) (a' := ?_) #[true, false, false, false, false, false, false, false] rfl rfl (any_of HT_.out (by kernel_rfl)) (fun _ _ _ h => h) (Or.inl ⟨by rfl, ?_⟩) ?_ ?_
           rotate_left
           ·
            intro w'
            go_simp
            with_reducible rfl
           rotate_left
           ·
            simp only [Act.put, sA_, sB_, sC_, i64_w, i32_w]
            rfl
           refine pure_ (i := 1) (N := some 43) (v := ?_) (a' := ?_) #[true, true, false, false, false, false, false, false] rfl rfl (any_of HT_.out (by kernel_rfl)) (fun _ _ _ h => h) (Or.inl ⟨by rfl, ?_⟩) ?_ ?_
           rotate_left
           ·
            intro w'
            go_simp
            with_reducible rfl
           rotate_left
           ·
            simp only [Act.put, sA_, sB_, sC_, i64_w, i32_w]
            rfl
           refine pure_ (i := 2) (N := some 44) (v := ?_) (a' := ?_) #[true, true, true, false, false, false, false, false] rfl rfl (any_of HT_.out (by kernel_rfl)) (fun _ _ _ h => h) (Or.inl ⟨by rfl, ?_⟩) ?_ ?_
           rotate_left
           ·
            intro w'
            go_simp
            with_reducible rfl
           rotate_left
           ·
            simp only [Act.put, sA_, sB_, sC_, i64_w, i32_w]
            rfl
           refine pure_ (i := 3) (N := some 45) (v := ?_) (a' := ?_) #[true, true, true, true, false, false, false, false] rfl rfl (any_of HT_.out (by kernel_rfl)) (fun _ _ _ h => h) (Or.inl ⟨by rfl, ?_⟩) ?_ ?_
           rotate_left
           ·
            intro w'
            go_simp
            with_reducible rfl
           rotate_left
           ·
            simp only [Act.put, sA_, sB_, sC_, i64_w, i32_w]
            rfl
           refine pure_ (i := 5) (N := some 47) (v := ?_) (a' := ?_) #[true, true, true, true, false, true, false, false] rfl rfl (any_of HT_.out (by kernel_rfl)) (fun _ _ _ h => h) (Or.inl ⟨by rfl, ?_⟩) ?_ ?_
           rotate_left
           ·
            intro w'
            go_simp
            with_reducible rfl
           rotate_left
           ·
            simp only [Act.put, sA_, sB_, sC_, i64_w, i32_w]
            rfl
           refine take_ (i := 4) (N := some 46) (v := ?_) (a' := ?_) #[true, true, true, true, true, true, false, false] rfl rfl (take_ofW HT_.out HW_.out (by kernel_rfl)) (fun _ _ _ h => h) (Or.inl ⟨by rfl, ?_⟩) hHeld ?_ ?_
           rotate_left
           ·
            rintro w' ⟨s0, s1, s2, s3, s4, s5⟩
            go_simp
            with_reducible rfl
           rotate_left
           ·
            simp only [Act.put, sA_, sB_, sC_, i64_w, i32_w]
            rfl
           refine one_ (i := 6) (N := some 48) #[true, true, true, true, true, true, true, false] rfl rfl (one_of HT_.out (by kernel_rfl)) (by decide) (fun K hK => ?_)
           refine goes_ Try.func76 (by kernel_rfl) rfl #[.int .i64 (wrap64 ((wrap64 ((wrap64 (x1_1 + 1)) + 1)) + 1))] (by rfl) rfl rfl (by (try simp only [List.map_toArray, List.map_cons, List.map_nil]); first | done | rfl | (simp only [List.length_drop, List.length_take]; rfl)) ?_
           with_reducible refine (laws_markText.calls k1 (wrap64 ((wrap64 ((wrap64 (x1_1 + 1)) + 1)) + 1)) t141 _ A10.out).mono ?_
           rintro e w25 ⟨rfl, hb⟩
           refine ⟨_, rfl, ?_⟩
           have n0_ := Aside0.mk (below_step (by repeat (first | (with_reducible first | exact HB.out | apply below_alloc | apply pw_below_drewN | apply below_drew1) | exact HB.out)) hb)
           clear HB
           have HB := n0_
           clear n0_
           (try clear hb)
           (try clear hb2)
           (try clear hk)
           (try clear hi)
           refine hK.out _ _ ⟨((HB.out.cell (World.block_lt_of_cell? w _ hw140_0)).trans hw140_0), ((HB.out.cell (World.block_lt_of_cell? w _ hw140_1)).trans hw140_1), ((HB.out.cell (World.block_lt_of_cell? w _ hw140_2)).trans hw140_2), ((HB.out.cell (World.block_lt_of_cell? w _ hw140_3)).trans hw140_3), ((HB.out.cell (World.block_lt_of_cell? w _ hw140_4)).trans hw140_4), ((HB.out.cell (World.block_lt_of_cell? w _ hw140_5)).trans hw140_5)⟩ (fun hHeld => ?_)
           clear hK K
           refine norm_ (a' := ?_) ?_ ?_
           rotate_left
           ·
            show Act.put _ (some 48) _ = _
            simp only [Act.put, sA_, sB_, sC_, i64_w, i32_w]
            rfl
           refine pure_ (i := 7) (N := some 49) (v := ?_) (a' := ?_) #[true, true, true, true, true, true, true, true] rfl rfl (any_of HT_.out (by kernel_rfl)) (fun _ _ _ h => h) (Or.inl ⟨by rfl, ?_⟩) ?_ ?_
           rotate_left
           ·
            intro w'
            go_simp
            with_reducible rfl
           rotate_left
           ·
            simp only [Act.put, sA_, sB_, sC_, i64_w, i32_w]
            rfl
           refine done_ (done_of HT_.out (by kernel_rfl)) ?_
           have p142 : 0 ≤ (x5_1 : Int) := of_decide_eq_true (by assumption)
           have q142 : x5_1 < (l0.length : Int) := of_decide_eq_true (by assumption)
           obtain ⟨ad142, e142, hx142_0, hx142_1, hx142_2, hx142_3, hx142_4, hx142_5⟩ := at_T45 HR0.out x5_1 p142 q142
           obtain rfl : ad135 = ad142 := (by injection e142)
           replace hx142_0 := (HB.out.cell (World.block_lt_of_cell? w _ hx142_0)).trans hx142_0
           replace hx142_1 := (HB.out.cell (World.block_lt_of_cell? w _ hx142_1)).trans hx142_1
           replace hx142_2 := (HB.out.cell (World.block_lt_of_cell? w _ hx142_2)).trans hx142_2
           replace hx142_3 := (HB.out.cell (World.block_lt_of_cell? w _ hx142_3)).trans hx142_3
           replace hx142_4 := (HB.out.cell (World.block_lt_of_cell? w _ hx142_4)).trans hx142_4
           replace hx142_5 := (HB.out.cell (World.block_lt_of_cell? w _ hx142_5)).trans hx142_5
           replace p142 := eq_true p142
           replace q142 := eq_true q142
           have p143 : 0 ≤ (x5_1 : Int) := of_decide_eq_true (by assumption)
           have q143 : x5_1 < (l0.length : Int) := of_decide_eq_true (by assumption)
           obtain ⟨ad143, e143, hx143_0, hx143_1, hx143_2, hx143_3, hx143_4, hx143_5⟩ := at_T45 HR0.out x5_1 p143 q143
           obtain rfl : ad135 = ad143 := (by injection e143)
           replace hx143_0 := (HB.out.cell (World.block_lt_of_cell? w _ hx143_0)).trans hx143_0
           replace hx143_1 := (HB.out.cell (World.block_lt_of_cell? w _ hx143_1)).trans hx143_1
           replace hx143_2 := (HB.out.cell (World.block_lt_of_cell? w _ hx143_2)).trans hx143_2
           replace hx143_3 := (HB.out.cell (World.block_lt_of_cell? w _ hx143_3)).trans hx143_3
           replace hx143_4 := (HB.out.cell (World.block_lt_of_cell? w _ hx143_4)).trans hx143_4
           replace hx143_5 := (HB.out.cell (World.block_lt_of_cell? w _ hx143_5)).trans hx143_5
           replace p143 := eq_true p143
           replace q143 := eq_true q143
           try go_wp2
           go_ret
           exact ⟨by first | rfl | (simp [errW_none, errW_some] <;> rfl) | (simp [*, errW_none, errW_some] <;> rfl), by repeat (first | (with_reducible first | exact HB.out | apply below_alloc | apply pw_below_drewN | apply below_drew1) | exact HB.out)⟩
         ·
          rw [if_neg c12] at H
          have c12b0 : (((rd_T45 l0 x5_1).f4) == (wrap64 ((wrap64 ((wrap64 ((wrap64 (x1_1 + 1)) + 1)) + 1)) + 1))) = false := beq_eq_false_iff_ne.mpr c12
          have c12b1 : (((rd_T45 l0 x5_1).f4) != (wrap64 ((wrap64 ((wrap64 ((wrap64 (x1_1 + 1)) + 1)) + 1)) + 1))) = true := bne_iff_ne.mpr c12
          obtain rfl := Option.some.inj H
          try go_wp2
          have n0_ := Aside0.mk (below_drew1 HB.out)
          clear HB
          have HB := n0_
          clear n0_
          have p135 : 0 ≤ (x5_1 : Int) := of_decide_eq_true (by assumption)
          have q135 : x5_1 < (l0.length : Int) := of_decide_eq_true (by assumption)
          obtain ⟨ad135, e135, hx135_0, hx135_1, hx135_2, hx135_3, hx135_4, hx135_5⟩ := at_T45 HR0.out x5_1 p135 q135
          have hw135_5 := hx135_5
          have hw135_4 := hx135_4
          have hw135_3 := hx135_3
          have hw135_2 := hx135_2
          have hw135_1 := hx135_1
          have hw135_0 := hx135_0
          cases e135
          replace hx135_0 := (HB.out.cell (World.block_lt_of_cell? w _ hx135_0)).trans hx135_0
          replace hx135_1 := (HB.out.cell (World.block_lt_of_cell? w _ hx135_1)).trans hx135_1
          replace hx135_2 := (HB.out.cell (World.block_lt_of_cell? w _ hx135_2)).trans hx135_2
          replace hx135_3 := (HB.out.cell (World.block_lt_of_cell? w _ hx135_3)).trans hx135_3
          replace hx135_4 := (HB.out.cell (World.block_lt_of_cell? w _ hx135_4)).trans hx135_4
          replace hx135_5 := (HB.out.cell (World.block_lt_of_cell? w _ hx135_5)).trans hx135_5
          replace p135 := eq_true p135
          replace q135 := eq_true q135
          refine start_ (n := 8) (S := fun w' => w'.cell? (ad135.add ((x5_1).toNat * 6)) = some (.string ((rd_T45 l0 x5_1).f0)) ∧ w'.cell? ⟨(ad135.add ((x5_1).toNat * 6)).block, (ad135.add ((x5_1).toNat * 6)).off + 1, none⟩ = some (.int .i8 ((rd_T45 l0 x5_1).f1)) ∧ w'.cell? ⟨(ad135.add ((x5_1).toNat * 6)).block, (ad135.add ((x5_1).toNat * 6)).off + 2, none⟩ = some (.string ((rd_T45 l0 x5_1).f2)) ∧ w'.cell? ⟨(ad135.add ((x5_1).toNat * 6)).block, (ad135.add ((x5_1).toNat * 6)).off + 3, none⟩ = some (.string ((rd_T45 l0 x5_1).f3)) ∧ w'.cell? ⟨(ad135.add ((x5_1).toNat * 6)).block, (ad135.add ((x5_1).toNat * 6)).off + 4, none⟩ = some (.int .i64 ((rd_T45 l0 x5_1).f4)) ∧ w'.cell? ⟨(ad135.add ((x5_1).toNat * 6)).block, (ad135.add ((x5_1).toNat * 6)).off + 5, none⟩ = some (.int .i64 ((rd_T45 l0 x5_1).f5))) (ds := []) #[false, false, false, false, false, false, false, false] (by kernel_rfl) rfl rfl ⟨((HB.out.cell (World.block_lt_of_cell? w _ hw135_0)).trans hw135_0), ((HB.out.cell (World.block_lt_of_cell? w _ hw135_1)).trans hw135_1), ((HB.out.cell (World.block_lt_of_cell? w _ hw135_2)).trans hw135_2), ((HB.out.cell (World.block_lt_of_cell? w _ hw135_3)).trans hw135_3), ((HB.out.cell (World.block_lt_of_cell? w _ hw135_4)).trans hw135_4), ((HB.out.cell (World.block_lt_of_cell? w _ hw135_5)).trans hw135_5)⟩ (fun hHeld => ?_); refine with_tabW laws_heldLineS.tab4 laws_heldLineS.bits4 (fun HT_ HW_ => ?_)
          generalize wr.drew = w26 at HB hx135_0 hx135_1 hx135_2 hx135_3 hx135_4 hx135_5 hHeld ⊢
          refine pure_ (i := 0) (N := some 12) (v := ?_) (a' := ?_) #[true, false, false, false, false, false, false, false] rfl rfl (any_of HT_.out (by kernel_rfl)) (fun _ _ _ h => h) (Or.inl ⟨by rfl, ?_⟩) ?_ ?_
          rotate_left
          ·
           intro w'
           go_simp
           with_reducible rfl
          rotate_left
          ·
           simp only [Act.put, sA_, sB_, sC_, i64_w, i32_w]
           rfl
          refine pure_ (i := 1) (N := some 13) (v := ?_) (a' := ?_) #[true, true, false, false, false, false, false, false] rfl rfl (any_of HT_.out (by kernel_rfl)) (fun _ _ _ h => h) (Or.inl ⟨by rfl, ?_⟩) ?_ ?_
          rotate_left
          ·
           intro w'
           go_simp
           with_reducible rfl
          rotate_left
          ·
           simp only [Act.put, sA_, sB_, sC_, i64_w, i32_w]
           rfl
          refine pure_ (i := 2) (N := some 14) (v := ?_) (a' := ?_) #[true, true, true, false, false, false, false, false] rfl rfl (any_of HT_.out (by kernel_rfl)) (fun _ _ _ h => h) (Or.inl ⟨by rfl, ?_⟩) ?_ ?_
          rotate_left
          ·
           intro w'
           go_simp
           with_reducible rfl
          rotate_left
          ·
           simp only [Act.put, sA_, sB_, sC_, i64_w, i32_w]
           rfl
          refine pure_ (i := 3) (N := some 15) (v := ?_) (a' := ?_) #[true, true, true, true, false, false, false, false] rfl rfl (any_of HT_.out (by kernel_rfl)) (fun _ _ _ h => h) (Or.inl ⟨by rfl, ?_⟩) ?_ ?_
          rotate_left
          ·
           intro w'
           go_simp
           with_reducible rfl
          rotate_left
          ·
           simp only [Act.put, sA_, sB_, sC_, i64_w, i32_w]
           rfl
          refine pure_ (i := 5) (N := some 17) (v := ?_) (a' := ?_) #[true, true, true, true, false, true, false, false] rfl rfl (any_of HT_.out (by kernel_rfl)) (fun _ _ _ h => h) (Or.inl ⟨by rfl, ?_⟩) ?_ ?_
          rotate_left
          ·
           intro w'
           go_simp
           with_reducible rfl
          rotate_left
          ·
           simp only [Act.put, sA_, sB_, sC_, i64_w, i32_w]
           rfl
          refine take_ (i := 4) (N := some 16) (v := ?_) (a' := ?_) #[true, true, true, true, true, true, false, false] rfl rfl (take_ofW HT_.out HW_.out (by kernel_rfl)) (fun _ _ _ h => h) (Or.inl ⟨by rfl, ?_⟩) hHeld ?_ ?_
          rotate_left
          ·
           rintro w' ⟨s0, s1, s2, s3, s4, s5⟩
           go_simp
           with_reducible rfl
          rotate_left
          ·
           simp only [Act.put, sA_, sB_, sC_, i64_w, i32_w]
           rfl
          refine one_ (i := 6) (N := some 18) #[true, true, true, true, true, true, true, false] rfl rfl (one_of HT_.out (by kernel_rfl)) (by decide) (fun K hK => ?_)
          refine goes_ Try.func76 (by kernel_rfl) rfl #[.int .i64 x1_1] (by rfl) rfl rfl (by (try simp only [List.map_toArray, List.map_cons, List.map_nil]); first | done | rfl | (simp only [List.length_drop, List.length_take]; rfl)) ?_
          with_reducible refine (laws_markText.calls k1 x1_1 t136 _ A5.out).mono ?_
          rintro e w27 ⟨rfl, hb⟩
          refine ⟨_, rfl, ?_⟩
          have n0_ := Aside0.mk (below_step (by repeat (first | (with_reducible first | exact HB.out | apply below_alloc | apply pw_below_drewN | apply below_drew1) | exact HB.out)) hb)
          clear HB
          have HB := n0_
          clear n0_
          (try clear hb)
          (try clear hb2)
          (try clear hk)
          (try clear hi)
          refine hK.out _ _ ⟨((HB.out.cell (World.block_lt_of_cell? w _ hw135_0)).trans hw135_0), ((HB.out.cell (World.block_lt_of_cell? w _ hw135_1)).trans hw135_1), ((HB.out.cell (World.block_lt_of_cell? w _ hw135_2)).trans hw135_2), ((HB.out.cell (World.block_lt_of_cell? w _ hw135_3)).trans hw135_3), ((HB.out.cell (World.block_lt_of_cell? w _ hw135_4)).trans hw135_4), ((HB.out.cell (World.block_lt_of_cell? w _ hw135_5)).trans hw135_5)⟩ (fun hHeld => ?_)
          clear hK K
          refine norm_ (a' := ?_) ?_ ?_
          rotate_left
          ·
           show Act.put _ (some 18) _ = _
           simp only [Act.put, sA_, sB_, sC_, i64_w, i32_w]
           rfl
          refine pure_ (i := 7) (N := some 19) (v := ?_) (a' := ?_) #[true, true, true, true, true, true, true, true] rfl rfl (any_of HT_.out (by kernel_rfl)) (fun _ _ _ h => h) (Or.inl ⟨by rfl, ?_⟩) ?_ ?_
          rotate_left
          ·
           intro w'
           go_simp
           with_reducible rfl
          rotate_left
          ·
           simp only [Act.put, sA_, sB_, sC_, i64_w, i32_w]
           rfl
          refine done_ (done_of HT_.out (by kernel_rfl)) ?_
          have p137 : 0 ≤ (x5_1 : Int) := of_decide_eq_true (by assumption)
          have q137 : x5_1 < (l0.length : Int) := of_decide_eq_true (by assumption)
          obtain ⟨ad137, e137, hx137_0, hx137_1, hx137_2, hx137_3, hx137_4, hx137_5⟩ := at_T45 HR0.out x5_1 p137 q137
          obtain rfl : ad135 = ad137 := (by injection e137)
          replace hx137_0 := (HB.out.cell (World.block_lt_of_cell? w _ hx137_0)).trans hx137_0
          replace hx137_1 := (HB.out.cell (World.block_lt_of_cell? w _ hx137_1)).trans hx137_1
          replace hx137_2 := (HB.out.cell (World.block_lt_of_cell? w _ hx137_2)).trans hx137_2
          replace hx137_3 := (HB.out.cell (World.block_lt_of_cell? w _ hx137_3)).trans hx137_3
          replace hx137_4 := (HB.out.cell (World.block_lt_of_cell? w _ hx137_4)).trans hx137_4
          replace hx137_5 := (HB.out.cell (World.block_lt_of_cell? w _ hx137_5)).trans hx137_5
          replace p137 := eq_true p137
          replace q137 := eq_true q137
          try go_wp2
          have n0_ := Aside0.mk (below_drew1 HB.out)
          clear HB
          have HB := n0_
          clear n0_
          have p138 : 0 ≤ (x5_1 : Int) := of_decide_eq_true (by assumption)
          have q138 : x5_1 < (l0.length : Int) := of_decide_eq_true (by assumption)
          obtain ⟨ad138, e138, hx138_0, hx138_1, hx138_2, hx138_3, hx138_4, hx138_5⟩ := at_T45 HR0.out x5_1 p138 q138
          have hw138_5 := hx138_5
          have hw138_4 := hx138_4
          have hw138_3 := hx138_3
          have hw138_2 := hx138_2
          have hw138_1 := hx138_1
          have hw138_0 := hx138_0
          obtain rfl : ad135 = ad138 := (by injection e138)
          replace hx138_0 := (HB.out.cell (World.block_lt_of_cell? w _ hx138_0)).trans hx138_0
          replace hx138_1 := (HB.out.cell (World.block_lt_of_cell? w _ hx138_1)).trans hx138_1
          replace hx138_2 := (HB.out.cell (World.block_lt_of_cell? w _ hx138_2)).trans hx138_2
          replace hx138_3 := (HB.out.cell (World.block_lt_of_cell? w _ hx138_3)).trans hx138_3
          replace hx138_4 := (HB.out.cell (World.block_lt_of_cell? w _ hx138_4)).trans hx138_4
          replace hx138_5 := (HB.out.cell (World.block_lt_of_cell? w _ hx138_5)).trans hx138_5
          replace p138 := eq_true p138
          replace q138 := eq_true q138
          refine start_ (n := 8) (S := fun w' => w'.cell? (ad135.add ((x5_1).toNat * 6)) = some (.string ((rd_T45 l0 x5_1).f0)) ∧ w'.cell? ⟨(ad135.add ((x5_1).toNat * 6)).block, (ad135.add ((x5_1).toNat * 6)).off + 1, none⟩ = some (.int .i8 ((rd_T45 l0 x5_1).f1)) ∧ w'.cell? ⟨(ad135.add ((x5_1).toNat * 6)).block, (ad135.add ((x5_1).toNat * 6)).off + 2, none⟩ = some (.string ((rd_T45 l0 x5_1).f2)) ∧ w'.cell? ⟨(ad135.add ((x5_1).toNat * 6)).block, (ad135.add ((x5_1).toNat * 6)).off + 3, none⟩ = some (.string ((rd_T45 l0 x5_1).f3)) ∧ w'.cell? ⟨(ad135.add ((x5_1).toNat * 6)).block, (ad135.add ((x5_1).toNat * 6)).off + 4, none⟩ = some (.int .i64 ((rd_T45 l0 x5_1).f4)) ∧ w'.cell? ⟨(ad135.add ((x5_1).toNat * 6)).block, (ad135.add ((x5_1).toNat * 6)).off + 5, none⟩ = some (.int .i64 ((rd_T45 l0 x5_1).f5))) (ds := []) #[false, false, false, false, false, false, false, false] (by kernel_rfl) rfl rfl ⟨((HB.out.cell (World.block_lt_of_cell? w _ hw138_0)).trans hw138_0), ((HB.out.cell (World.block_lt_of_cell? w _ hw138_1)).trans hw138_1), ((HB.out.cell (World.block_lt_of_cell? w _ hw138_2)).trans hw138_2), ((HB.out.cell (World.block_lt_of_cell? w _ hw138_3)).trans hw138_3), ((HB.out.cell (World.block_lt_of_cell? w _ hw138_4)).trans hw138_4), ((HB.out.cell (World.block_lt_of_cell? w _ hw138_5)).trans hw138_5)⟩ (fun hHeld => ?_); refine with_tabW laws_heldLineS.tab10 laws_heldLineS.bits10 (fun HT_ HW_ => ?_)
          generalize w27.drew = w28 at HB hx138_0 hx138_1 hx138_2 hx138_3 hx138_4 hx138_5 hHeld ⊢
          refine pure_ (i := 0) (N := some 32) (v := ?_) (a' := ?_) #[true, false, false, false, false, false, false, false] rfl rfl (any_of HT_.out (by kernel_rfl)) (fun _ _ _ h => h) (Or.inl ⟨by rfl, ?_⟩) ?_ ?_
          rotate_left
          ·
           intro w'
           go_simp
           with_reducible rfl
          rotate_left
          ·
           simp only [Act.put, sA_, sB_, sC_, i64_w, i32_w]
           rfl
          refine pure_ (i := 1) (N := some 33) (v := ?_) (a' := ?_) #[true, true, false, false, false, false, false, false] rfl rfl (any_of HT_.out (by kernel_rfl)) (fun _ _ _ h => h) (Or.inl ⟨by rfl, ?_⟩) ?_ ?_
          rotate_left
          ·
           intro w'
           go_simp
           with_reducible rfl
          rotate_left
          ·
           simp only [Act.put, sA_, sB_, sC_, i64_w, i32_w]
           rfl
          refine pure_ (i := 2) (N := some 34) (v := ?_) (a' := ?_) #[true, true, true, false, false, false, false, false] rfl rfl (any_of HT_.out (by kernel_rfl)) (fun _ _ _ h => h) (Or.inl ⟨by rfl, ?_⟩) ?_ ?_
          rotate_left
          ·
           intro w'
           go_simp
           with_reducible rfl
          rotate_left
          ·
           simp only [Act.put, sA_, sB_, sC_, i64_w, i32_w]
           rfl
          refine pure_ (i := 3) (N := some 35) (v := ?_) (a' := ?_) #[true, true, true, true, false, false, false, false] rfl rfl (any_of HT_.out (by kernel_rfl)) (fun _ _ _ h => h) (Or.inl ⟨by rfl, ?_⟩) ?_ ?_
          rotate_left
          ·
           intro w'
           go_simp
           with_reducible rfl
          rotate_left
          ·
           simp only [Act.put, sA_, sB_, sC_, i64_w, i32_w]
           rfl
          refine pure_ (i := 5) (N := some 37) (v := ?_) (a' := ?_) #[true, true, true, true, false, true, false, false] rfl rfl (any_of HT_.out (by kernel_rfl)) (fun _ _ _ h => h) (Or.inl ⟨by rfl, ?_⟩) ?_ ?_
          rotate_left
          ·
           intro w'
           go_simp
           with_reducible rfl
          rotate_left
          ·
           simp only [Act.put, sA_, sB_, sC_, i64_w, i32_w]
           rfl
          refine take_ (i := 4) (N := some 36) (v := ?_) (a' := ?_) #[true, true, true, true, true, true, false, false] rfl rfl (take_ofW HT_.out HW_.out (by kernel_rfl)) (fun _ _ _ h => h) (Or.inl ⟨by rfl, ?_⟩) hHeld ?_ ?_
          rotate_left
          ·
           rintro w' ⟨s0, s1, s2, s3, s4, s5⟩
           go_simp
           with_reducible rfl
          rotate_left
          ·
           simp only [Act.put, sA_, sB_, sC_, i64_w, i32_w]
           rfl
          refine one_ (i := 6) (N := some 38) #[true, true, true, true, true, true, true, false] rfl rfl (one_of HT_.out (by kernel_rfl)) (by decide) (fun K hK => ?_)
          refine goes_ Try.func76 (by kernel_rfl) rfl #[.int .i64 (wrap64 ((wrap64 (x1_1 + 1)) + 1))] (by rfl) rfl rfl (by (try simp only [List.map_toArray, List.map_cons, List.map_nil]); first | done | rfl | (simp only [List.length_drop, List.length_take]; rfl)) ?_
          with_reducible refine (laws_markText.calls k1 (wrap64 ((wrap64 (x1_1 + 1)) + 1)) t139 _ A8.out).mono ?_
          rintro e w29 ⟨rfl, hb⟩
          refine ⟨_, rfl, ?_⟩
          have n0_ := Aside0.mk (below_step (by repeat (first | (with_reducible first | exact HB.out | apply below_alloc | apply pw_below_drewN | apply below_drew1) | exact HB.out)) hb)
          clear HB
          have HB := n0_
          clear n0_
          (try clear hb)
          (try clear hb2)
          (try clear hk)
          (try clear hi)
          refine hK.out _ _ ⟨((HB.out.cell (World.block_lt_of_cell? w _ hw138_0)).trans hw138_0), ((HB.out.cell (World.block_lt_of_cell? w _ hw138_1)).trans hw138_1), ((HB.out.cell (World.block_lt_of_cell? w _ hw138_2)).trans hw138_2), ((HB.out.cell (World.block_lt_of_cell? w _ hw138_3)).trans hw138_3), ((HB.out.cell (World.block_lt_of_cell? w _ hw138_4)).trans hw138_4), ((HB.out.cell (World.block_lt_of_cell? w _ hw138_5)).trans hw138_5)⟩ (fun hHeld => ?_)
          clear hK K
          refine norm_ (a' := ?_) ?_ ?_
          rotate_left
          ·
           show Act.put _ (some 38) _ = _
           simp only [Act.put, sA_, sB_, sC_, i64_w, i32_w]
           rfl
          refine pure_ (i := 7) (N := some 39) (v := ?_) (a' := ?_) #[true, true, true, true, true, true, true, true] rfl rfl (any_of HT_.out (by kernel_rfl)) (fun _ _ _ h => h) (Or.inl ⟨by rfl, ?_⟩) ?_ ?_
          rotate_left
          ·
           intro w'
           go_simp
           with_reducible rfl
          rotate_left
          ·
           simp only [Act.put, sA_, sB_, sC_, i64_w, i32_w]
           rfl
          refine done_ (done_of HT_.out (by kernel_rfl)) ?_
          try go_wp2
          have n0_ := Aside0.mk (below_drew1 HB.out)
          clear HB
          have HB := n0_
          clear n0_
          have p140 : 0 ≤ (x5_1 : Int) := of_decide_eq_true (by assumption)
          have q140 : x5_1 < (l0.length : Int) := of_decide_eq_true (by assumption)
          obtain ⟨ad140, e140, hx140_0, hx140_1, hx140_2, hx140_3, hx140_4, hx140_5⟩ := at_T45 HR0.out x5_1 p140 q140
          have hw140_5 := hx140_5
          have hw140_4 := hx140_4
          have hw140_3 := hx140_3
          have hw140_2 := hx140_2
          have hw140_1 := hx140_1
          have hw140_0 := hx140_0
          obtain rfl : ad135 = ad140 := (by injection e140)
          replace hx140_0 := (HB.out.cell (World.block_lt_of_cell? w _ hx140_0)).trans hx140_0
          replace hx140_1 := (HB.out.cell (World.block_lt_of_cell? w _ hx140_1)).trans hx140_1
          replace hx140_2 := (HB.out.cell (World.block_lt_of_cell? w _ hx140_2)).trans hx140_2
          replace hx140_3 := (HB.out.cell (World.block_lt_of_cell? w _ hx140_3)).trans hx140_3
          replace hx140_4 := (HB.out.cell (World.block_lt_of_cell? w _ hx140_4)).trans hx140_4
          replace hx140_5 := (HB.out.cell (World.block_lt_of_cell? w _ hx140_5)).trans hx140_5
          replace p140 := eq_true p140
          replace q140 := eq_true q140
          refine start_ (n := 8) (S := fun w' => w'.cell? (ad135.add ((x5_1).toNat * 6)) = some (.string ((rd_T45 l0 x5_1).f0)) ∧ w'.cell? ⟨(ad135.add ((x5_1).toNat * 6)).block, (ad135.add ((x5_1).toNat * 6)).off + 1, none⟩ = some (.int .i8 ((rd_T45 l0 x5_1).f1)) ∧ w'.cell? ⟨(ad135.add ((x5_1).toNat * 6)).block, (ad135.add ((x5_1).toNat * 6)).off + 2, none⟩ = some (.string ((rd_T45 l0 x5_1).f2)) ∧ w'.cell? ⟨(ad135.add ((x5_1).toNat * 6)).block, (ad135.add ((x5_1).toNat * 6)).off + 3, none⟩ = some (.string ((rd_T45 l0 x5_1).f3)) ∧ w'.cell? ⟨(ad135.add ((x5_1).toNat * 6)).block, (ad135.add ((x5_1).toNat * 6)).off + 4, none⟩ = some (.int .i64 ((rd_T45 l0 x5_1).f4)) ∧ w'.cell? ⟨(ad135.add ((x5_1).toNat * 6)).block, (ad135.add ((x5_1).toNat * 6)).off + 5, none⟩ = some (.int .i64 ((rd_T45 l0 x5_1).f5))) (ds := []) #[false, false, false, false, false, false, false, false] (by kernel_rfl) rfl rfl ⟨((HB.out.cell (World.block_lt_of_cell? w _ hw140_0)).trans hw140_0), ((HB.out.cell (World.block_lt_of_cell? w _ hw140_1)).trans hw140_1), ((HB.out.cell (World.block_lt_of_cell? w _ hw140_2)).trans hw140_2), ((HB.out.cell (World.block_lt_of_cell? w _ hw140_3)).trans hw140_3), ((HB.out.cell (World.block_lt_of_cell? w _ hw140_4)).trans hw140_4), ((HB.out.cell (World.block_lt_of_cell? w _ hw140_5)).trans hw140_5)⟩ (fun hHeld => ?_); refine with_tabW laws_heldLineS.tab13 laws_heldLineS.bits13 (fun HT_ HW_ => ?_)
          generalize w29.drew = w30 at HB hx140_0 hx140_1 hx140_2 hx140_3 hx140_4 hx140_5 hHeld ⊢
          refine pure_ (i := 0) (N := some 42) (v := ?_) (a' := ?_) #[true, false, false, false, false, false, false, false] rfl rfl (any_of HT_.out (by kernel_rfl)) (fun _ _ _ h => h) (Or.inl ⟨by rfl, ?_⟩) ?_ ?_
          rotate_left
          ·
           intro w'
           go_simp
           with_reducible rfl
          rotate_left
          ·
           simp only [Act.put, sA_, sB_, sC_, i64_w, i32_w]
           rfl
          refine pure_ (i := 1) (N := some 43) (v := ?_) (a' := ?_) #[true, true, false, false, false, false, false, false] rfl rfl (any_of HT_.out (by kernel_rfl)) (fun _ _ _ h => h) (Or.inl ⟨by rfl, ?_⟩) ?_ ?_
          rotate_left
          ·
           intro w'
           go_simp
           with_reducible rfl
          rotate_left
          ·
           simp only [Act.put, sA_, sB_, sC_, i64_w, i32_w]
           rfl
          refine pure_ (i := 2) (N := some 44) (v := ?_) (a' := ?_) #[true, true, true, false, false, false, false, false] rfl rfl (any_of HT_.out (by kernel_rfl)) (fun _ _ _ h => h) (Or.inl ⟨by rfl, ?_⟩) ?_ ?_
          rotate_left
          ·
           intro w'
           go_simp
           with_reducible rfl
          rotate_left
          ·
           simp only [Act.put, sA_, sB_, sC_, i64_w, i32_w]
           rfl
          refine pure_ (i := 3) (N := some 45) (v := ?_) (a' := ?_) #[true, true, true, true, false, false, false, false] rfl rfl (any_of HT_.out (by kernel_rfl)) (fun _ _ _ h => h) (Or.inl ⟨by rfl, ?_⟩) ?_ ?_
          rotate_left
          ·
           intro w'
           go_simp
           with_reducible rfl
          rotate_left
          ·
           simp only [Act.put, sA_, sB_, sC_, i64_w, i32_w]
           rfl
          refine pure_ (i := 5) (N := some 47) (v := ?_) (a' := ?_) #[true, true, true, true, false, true, false, false] rfl rfl (any_of HT_.out (by kernel_rfl)) (fun _ _ _ h => h) (Or.inl ⟨by rfl, ?_⟩) ?_ ?_
          rotate_left
          ·
           intro w'
           go_simp
           with_reducible rfl
          rotate_left
          ·
           simp only [Act.put, sA_, sB_, sC_, i64_w, i32_w]
           rfl
          refine take_ (i := 4) (N := some 46) (v := ?_) (a' := ?_) #[true, true, true, true, true, true, false, false] rfl rfl (take_ofW HT_.out HW_.out (by kernel_rfl)) (fun _ _ _ h => h) (Or.inl ⟨by rfl, ?_⟩) hHeld ?_ ?_
          rotate_left
          ·
           rintro w' ⟨s0, s1, s2, s3, s4, s5⟩
           go_simp
           with_reducible rfl
          rotate_left
          ·
           simp only [Act.put, sA_, sB_, sC_, i64_w, i32_w]
           rfl
          refine one_ (i := 6) (N := some 48) #[true, true, true, true, true, true, true, false] rfl rfl (one_of HT_.out (by kernel_rfl)) (by decide) (fun K hK => ?_)
          refine goes_ Try.func76 (by kernel_rfl) rfl #[.int .i64 (wrap64 ((wrap64 ((wrap64 (x1_1 + 1)) + 1)) + 1))] (by rfl) rfl rfl (by (try simp only [List.map_toArray, List.map_cons, List.map_nil]); first | done | rfl | (simp only [List.length_drop, List.length_take]; rfl)) ?_
          with_reducible refine (laws_markText.calls k1 (wrap64 ((wrap64 ((wrap64 (x1_1 + 1)) + 1)) + 1)) t141 _ A10.out).mono ?_
          rintro e w31 ⟨rfl, hb⟩
          refine ⟨_, rfl, ?_⟩
          have n0_ := Aside0.mk (below_step (by repeat (first | (with_reducible first | exact HB.out | apply below_alloc | apply pw_below_drewN | apply below_drew1) | exact HB.out)) hb)
          clear HB
          have HB := n0_
          clear n0_
          (try clear hb)
          (try clear hb2)
          (try clear hk)
          (try clear hi)
          refine hK.out _ _ ⟨((HB.out.cell (World.block_lt_of_cell? w _ hw140_0)).trans hw140_0), ((HB.out.cell (World.block_lt_of_cell? w _ hw140_1)).trans hw140_1), ((HB.out.cell (World.block_lt_of_cell? w _ hw140_2)).trans hw140_2), ((HB.out.cell (World.block_lt_of_cell? w _ hw140_3)).trans hw140_3), ((HB.out.cell (World.block_lt_of_cell? w _ hw140_4)).trans hw140_4), ((HB.out.cell (World.block_lt_of_cell? w _ hw140_5)).trans hw140_5)⟩ (fun hHeld => ?_)
          clear hK K
          refine norm_ (a' := ?_) ?_ ?_
          rotate_left
          ·
           show Act.put _ (some 48) _ = _
           simp only [Act.put, sA_, sB_, sC_, i64_w, i32_w]
           rfl
          refine pure_ (i := 7) (N := some 49) (v := ?_) (a' := ?_) #[true, true, true, true, true, true, true, true] rfl rfl (any_of HT_.out (by kernel_rfl)) (fun _ _ _ h => h) (Or.inl ⟨by rfl, ?_⟩) ?_ ?_
          rotate_left
          ·
           intro w'
           go_simp
           with_reducible rfl
          rotate_left
          ·
           simp only [Act.put, sA_, sB_, sC_, i64_w, i32_w]
           rfl
          refine done_ (done_of HT_.out (by kernel_rfl)) ?_
          have p142 : 0 ≤ (x5_1 : Int) := of_decide_eq_true (by assumption)
          have q142 : x5_1 < (l0.length : Int) := of_decide_eq_true (by assumption)
          obtain ⟨ad142, e142, hx142_0, hx142_1, hx142_2, hx142_3, hx142_4, hx142_5⟩ := at_T45 HR0.out x5_1 p142 q142
          obtain rfl : ad135 = ad142 := (by injection e142)
          replace hx142_0 := (HB.out.cell (World.block_lt_of_cell? w _ hx142_0)).trans hx142_0
          replace hx142_1 := (HB.out.cell (World.block_lt_of_cell? w _ hx142_1)).trans hx142_1
          replace hx142_2 := (HB.out.cell (World.block_lt_of_cell? w _ hx142_2)).trans hx142_2
          replace hx142_3 := (HB.out.cell (World.block_lt_of_cell? w _ hx142_3)).trans hx142_3
          replace hx142_4 := (HB.out.cell (World.block_lt_of_cell? w _ hx142_4)).trans hx142_4
          replace hx142_5 := (HB.out.cell (World.block_lt_of_cell? w _ hx142_5)).trans hx142_5
          replace p142 := eq_true p142
          replace q142 := eq_true q142
          try go_wp2
          go_ret
          exact ⟨by first | rfl | (simp [errW_none, errW_some] <;> rfl) | (simp [*, errW_none, errW_some] <;> rfl), by repeat (first | (with_reducible first | exact HB.out | apply below_alloc | apply pw_below_drewN | apply below_drew1) | exact HB.out)⟩
        ·
         rw [if_neg c11] at H
         have c11b0 : (((rd_T45 l0 x5_1).f3).toList == t141.toList) = false := beq_eq_false_iff_ne.mpr c11
         have c11b1 : (((rd_T45 l0 x5_1).f3).toList != t141.toList) = true := bne_iff_ne.mpr c11
         obtain rfl := Option.some.inj H
         try go_wp2
         have n0_ := Aside0.mk (below_drew1 HB.out)
         clear HB
         have HB := n0_
         clear n0_
         have p135 : 0 ≤ (x5_1 : Int) := of_decide_eq_true (by assumption)
         have q135 : x5_1 < (l0.length : Int) := of_decide_eq_true (by assumption)
         obtain ⟨ad135, e135, hx135_0, hx135_1, hx135_2, hx135_3, hx135_4, hx135_5⟩ := at_T45 HR0.out x5_1 p135 q135
         have hw135_5 := hx135_5
         have hw135_4 := hx135_4
         have hw135_3 := hx135_3
         have hw135_2 := hx135_2
         have hw135_1 := hx135_1
         have hw135_0 := hx135_0
         cases e135
         replace hx135_0 := (HB.out.cell (World.block_lt_of_cell? w _ hx135_0)).trans hx135_0
         replace hx135_1 := (HB.out.cell (World.block_lt_of_cell? w _ hx135_1)).trans hx135_1
         replace hx135_2 := (HB.out.cell (World.block_lt_of_cell? w _ hx135_2)).trans hx135_2
         replace hx135_3 := (HB.out.cell (World.block_lt_of_cell? w _ hx135_3)).trans hx135_3
         replace hx135_4 := (HB.out.cell (World.block_lt_of_cell? w _ hx135_4)).trans hx135_4
         replace hx135_5 := (HB.out.cell (World.block_lt_of_cell? w _ hx135_5)).trans hx135_5
         replace p135 := eq_true p135
         replace q135 := eq_true q135
         refine start_ (n := 8) (S := fun w' => w'.cell? (ad135.add ((x5_1).toNat * 6)) = some (.string ((rd_T45 l0 x5_1).f0)) ∧ w'.cell? ⟨(ad135.add ((x5_1).toNat * 6)).block, (ad135.add ((x5_1).toNat * 6)).off + 1, none⟩ = some (.int .i8 ((rd_T45 l0 x5_1).f1)) ∧ w'.cell? ⟨(ad135.add ((x5_1).toNat * 6)).block, (ad135.add ((x5_1).toNat * 6)).off + 2, none⟩ = some (.string ((rd_T45 l0 x5_1).f2)) ∧ w'.cell? ⟨(ad135.add ((x5_1).toNat * 6)).block, (ad135.add ((x5_1).toNat * 6)).off + 3, none⟩ = some (.string ((rd_T45 l0 x5_1).f3)) ∧ w'.cell? ⟨(ad135.add ((x5_1).toNat * 6)).block, (ad135.add ((x5_1).toNat * 6)).off + 4, none⟩ = some (.int .i64 ((rd_T45 l0 x5_1).f4)) ∧ w'.cell? ⟨(ad135.add ((x5_1).toNat * 6)).block, (ad135.add ((x5_1).toNat * 6)).off + 5, none⟩ = some (.int .i64 ((rd_T45 l0 x5_1).f5))) (ds := []) #[false, false, false, false, false, false, false, false] (by kernel_rfl) rfl rfl ⟨((HB.out.cell (World.block_lt_of_cell? w _ hw135_0)).trans hw135_0), ((HB.out.cell (World.block_lt_of_cell? w _ hw135_1)).trans hw135_1), ((HB.out.cell (World.block_lt_of_cell? w _ hw135_2)).trans hw135_2), ((HB.out.cell (World.block_lt_of_cell? w _ hw135_3)).trans hw135_3), ((HB.out.cell (World.block_lt_of_cell? w _ hw135_4)).trans hw135_4), ((HB.out.cell (World.block_lt_of_cell? w _ hw135_5)).trans hw135_5)⟩ (fun hHeld => ?_); refine with_tabW laws_heldLineS.tab4 laws_heldLineS.bits4 (fun HT_ HW_ => ?_)
         generalize wr.drew = w32 at HB hx135_0 hx135_1 hx135_2 hx135_3 hx135_4 hx135_5 hHeld ⊢
         refine pure_ (i := 0) (N := some 12) (v := ?_) (a' := ?_) #[true, false, false, false, false, false, false, false] rfl rfl (any_of HT_.out (by kernel_rfl)) (fun _ _ _ h => h) (Or.inl ⟨by rfl, ?_⟩) ?_ ?_
         rotate_left
         ·
          intro w'
          go_simp
          with_reducible rfl
         rotate_left
         ·
          simp only [Act.put, sA_, sB_, sC_, i64_w, i32_w]
          rfl
         refine pure_ (i := 1) (N := some 13) (v := ?_) (a' := ?_) #[true, true, false, false, false, false, false, false] rfl rfl (any_of HT_.out (by kernel_rfl)) (fun _ _ _ h => h) (Or.inl ⟨by rfl, ?_⟩) ?_ ?_
         rotate_left
         ·
          intro w'
          go_simp
          with_reducible rfl
         rotate_left
         ·
          simp only [Act.put, sA_, sB_, sC_, i64_w, i32_w]
          rfl
         refine pure_ (i := 2) (N := some 14) (v := ?_) (a' := ?_) #[true, true, true, false, false, false, false, false] rfl rfl (any_of HT_.out (by kernel_rfl)) (fun _ _ _ h => h) (Or.inl ⟨by rfl, ?_⟩) ?_ ?_
         rotate_left
         ·
          intro w'
          go_simp
          with_reducible rfl
         rotate_left
         ·
          simp only [Act.put, sA_, sB_, sC_, i64_w, i32_w]
          rfl
         refine pure_ (i := 3) (N := some 15) (v := ?_) (a' := ?_) #[true, true, true, true, false, false, false, false] rfl rfl (any_of HT_.out (by kernel_rfl)) (fun _ _ _ h => h) (Or.inl ⟨by rfl, ?_⟩) ?_ ?_
         rotate_left
         ·
          intro w'
          go_simp
          with_reducible rfl
         rotate_left
         ·
          simp only [Act.put, sA_, sB_, sC_, i64_w, i32_w]
          rfl
         refine pure_ (i := 5) (N := some 17) (v := ?_) (a' := ?_) #[true, true, true, true, false, true, false, false] rfl rfl (any_of HT_.out (by kernel_rfl)) (fun _ _ _ h => h) (Or.inl ⟨by rfl, ?_⟩) ?_ ?_
         rotate_left
         ·
          intro w'
          go_simp
          with_reducible rfl
         rotate_left
         ·
          simp only [Act.put, sA_, sB_, sC_, i64_w, i32_w]
          rfl
         refine take_ (i := 4) (N := some 16) (v := ?_) (a' := ?_) #[true, true, true, true, true, true, false, false] rfl rfl (take_ofW HT_.out HW_.out (by kernel_rfl)) (fun _ _ _ h => h) (Or.inl ⟨by rfl, ?_⟩) hHeld ?_ ?_
         rotate_left
         ·
          rintro w' ⟨s0, s1, s2, s3, s4, s5⟩
          go_simp
          with_reducible rfl
         rotate_left
         ·
          simp only [Act.put, sA_, sB_, sC_, i64_w, i32_w]
          rfl
         refine one_ (i := 6) (N := some 18) #[true, true, true, true, true, true, true, false] rfl rfl (one_of HT_.out (by kernel_rfl)) (by decide) (fun K hK => ?_)
         refine goes_ Try.func76 (by kernel_rfl) rfl #[.int .i64 x1_1] (by rfl) rfl rfl (by (try simp only [List.map_toArray, List.map_cons, List.map_nil]); first | done | rfl | (simp only [List.length_drop, List.length_take]; rfl)) ?_
         with_reducible refine (laws_markText.calls k1 x1_1 t136 _ A5.out).mono ?_
         rintro e w33 ⟨rfl, hb⟩
         refine ⟨_, rfl, ?_⟩
         have n0_ := Aside0.mk (below_step (by repeat (first | (with_reducible first | exact HB.out | apply below_alloc | apply pw_below_drewN | apply below_drew1) | exact HB.out)) hb)
         clear HB
         have HB := n0_
         clear n0_
         (try clear hb)
         (try clear hb2)
         (try clear hk)
         (try clear hi)
         refine hK.out _ _ ⟨((HB.out.cell (World.block_lt_of_cell? w _ hw135_0)).trans hw135_0), ((HB.out.cell (World.block_lt_of_cell? w _ hw135_1)).trans hw135_1), ((HB.out.cell (World.block_lt_of_cell? w _ hw135_2)).trans hw135_2), ((HB.out.cell (World.block_lt_of_cell? w _ hw135_3)).trans hw135_3), ((HB.out.cell (World.block_lt_of_cell? w _ hw135_4)).trans hw135_4), ((HB.out.cell (World.block_lt_of_cell? w _ hw135_5)).trans hw135_5)⟩ (fun hHeld => ?_)
         clear hK K
         refine norm_ (a' := ?_) ?_ ?_
         rotate_left
         ·
          show Act.put _ (some 18) _ = _
          simp only [Act.put, sA_, sB_, sC_, i64_w, i32_w]
          rfl
         refine pure_ (i := 7) (N := some 19) (v := ?_) (a' := ?_) #[true, true, true, true, true, true, true, true] rfl rfl (any_of HT_.out (by kernel_rfl)) (fun _ _ _ h => h) (Or.inl ⟨by rfl, ?_⟩) ?_ ?_
         rotate_left
         ·
          intro w'
          go_simp
          with_reducible rfl
         rotate_left
         ·
          simp only [Act.put, sA_, sB_, sC_, i64_w, i32_w]
          rfl
         refine done_ (done_of HT_.out (by kernel_rfl)) ?_
         have p137 : 0 ≤ (x5_1 : Int) := of_decide_eq_true (by assumption)
         have q137 : x5_1 < (l0.length : Int) := of_decide_eq_true (by assumption)
         obtain ⟨ad137, e137, hx137_0, hx137_1, hx137_2, hx137_3, hx137_4, hx137_5⟩ := at_T45 HR0.out x5_1 p137 q137
         obtain rfl : ad135 = ad137 := (by injection e137)
         replace hx137_0 := (HB.out.cell (World.block_lt_of_cell? w _ hx137_0)).trans hx137_0
         replace hx137_1 := (HB.out.cell (World.block_lt_of_cell? w _ hx137_1)).trans hx137_1
         replace hx137_2 := (HB.out.cell (World.block_lt_of_cell? w _ hx137_2)).trans hx137_2
         replace hx137_3 := (HB.out.cell (World.block_lt_of_cell? w _ hx137_3)).trans hx137_3
         replace hx137_4 := (HB.out.cell (World.block_lt_of_cell? w _ hx137_4)).trans hx137_4
         replace hx137_5 := (HB.out.cell (World.block_lt_of_cell? w _ hx137_5)).trans hx137_5
         replace p137 := eq_true p137
         replace q137 := eq_true q137
         try go_wp2
         have n0_ := Aside0.mk (below_drew1 HB.out)
         clear HB
         have HB := n0_
         clear n0_
         have p138 : 0 ≤ (x5_1 : Int) := of_decide_eq_true (by assumption)
         have q138 : x5_1 < (l0.length : Int) := of_decide_eq_true (by assumption)
         obtain ⟨ad138, e138, hx138_0, hx138_1, hx138_2, hx138_3, hx138_4, hx138_5⟩ := at_T45 HR0.out x5_1 p138 q138
         have hw138_5 := hx138_5
         have hw138_4 := hx138_4
         have hw138_3 := hx138_3
         have hw138_2 := hx138_2
         have hw138_1 := hx138_1
         have hw138_0 := hx138_0
         obtain rfl : ad135 = ad138 := (by injection e138)
         replace hx138_0 := (HB.out.cell (World.block_lt_of_cell? w _ hx138_0)).trans hx138_0
         replace hx138_1 := (HB.out.cell (World.block_lt_of_cell? w _ hx138_1)).trans hx138_1
         replace hx138_2 := (HB.out.cell (World.block_lt_of_cell? w _ hx138_2)).trans hx138_2
         replace hx138_3 := (HB.out.cell (World.block_lt_of_cell? w _ hx138_3)).trans hx138_3
         replace hx138_4 := (HB.out.cell (World.block_lt_of_cell? w _ hx138_4)).trans hx138_4
         replace hx138_5 := (HB.out.cell (World.block_lt_of_cell? w _ hx138_5)).trans hx138_5
         replace p138 := eq_true p138
         replace q138 := eq_true q138
         refine start_ (n := 8) (S := fun w' => w'.cell? (ad135.add ((x5_1).toNat * 6)) = some (.string ((rd_T45 l0 x5_1).f0)) ∧ w'.cell? ⟨(ad135.add ((x5_1).toNat * 6)).block, (ad135.add ((x5_1).toNat * 6)).off + 1, none⟩ = some (.int .i8 ((rd_T45 l0 x5_1).f1)) ∧ w'.cell? ⟨(ad135.add ((x5_1).toNat * 6)).block, (ad135.add ((x5_1).toNat * 6)).off + 2, none⟩ = some (.string ((rd_T45 l0 x5_1).f2)) ∧ w'.cell? ⟨(ad135.add ((x5_1).toNat * 6)).block, (ad135.add ((x5_1).toNat * 6)).off + 3, none⟩ = some (.string ((rd_T45 l0 x5_1).f3)) ∧ w'.cell? ⟨(ad135.add ((x5_1).toNat * 6)).block, (ad135.add ((x5_1).toNat * 6)).off + 4, none⟩ = some (.int .i64 ((rd_T45 l0 x5_1).f4)) ∧ w'.cell? ⟨(ad135.add ((x5_1).toNat * 6)).block, (ad135.add ((x5_1).toNat * 6)).off + 5, none⟩ = some (.int .i64 ((rd_T45 l0 x5_1).f5))) (ds := []) #[false, false, false, false, false, false, false, false] (by kernel_rfl) rfl rfl ⟨((HB.out.cell (World.block_lt_of_cell? w _ hw138_0)).trans hw138_0), ((HB.out.cell (World.block_lt_of_cell? w _ hw138_1)).trans hw138_1), ((HB.out.cell (World.block_lt_of_cell? w _ hw138_2)).trans hw138_2), ((HB.out.cell (World.block_lt_of_cell? w _ hw138_3)).trans hw138_3), ((HB.out.cell (World.block_lt_of_cell? w _ hw138_4)).trans hw138_4), ((HB.out.cell (World.block_lt_of_cell? w _ hw138_5)).trans hw138_5)⟩ (fun hHeld => ?_); refine with_tabW laws_heldLineS.tab10 laws_heldLineS.bits10 (fun HT_ HW_ => ?_)
         generalize w33.drew = w34 at HB hx138_0 hx138_1 hx138_2 hx138_3 hx138_4 hx138_5 hHeld ⊢
         refine pure_ (i := 0) (N := some 32) (v := ?_) (a' := ?_) #[true, false, false, false, false, false, false, false] rfl rfl (any_of HT_.out (by kernel_rfl)) (fun _ _ _ h => h) (Or.inl ⟨by rfl, ?_⟩) ?_ ?_
         rotate_left
         ·
          intro w'
          go_simp
          with_reducible rfl
         rotate_left
         ·
          simp only [Act.put, sA_, sB_, sC_, i64_w, i32_w]
          rfl
         refine pure_ (i := 1) (N := some 33) (v := ?_) (a' := ?_) #[true, true, false, false, false, false, false, false] rfl rfl (any_of HT_.out (by kernel_rfl)) (fun _ _ _ h => h) (Or.inl ⟨by rfl, ?_⟩) ?_ ?_
         rotate_left
         ·
          intro w'
          go_simp
          with_reducible rfl
         rotate_left
         ·
          simp only [Act.put, sA_, sB_, sC_, i64_w, i32_w]
          rfl
         refine pure_ (i := 2) (N := some 34) (v := ?_) (a' := ?_) #[true, true, true, false, false, false, false, false] rfl rfl (any_of HT_.out (by kernel_rfl)) (fun _ _ _ h => h) (Or.inl ⟨by rfl, ?_⟩) ?_ ?_
         rotate_left
         ·
          intro w'
          go_simp
          with_reducible rfl
         rotate_left
         ·
          simp only [Act.put, sA_, sB_, sC_, i64_w, i32_w]
          rfl
         refine pure_ (i := 3) (N := some 35) (v := ?_) (a' := ?_) #[true, true, true, true, false, false, false, false] rfl rfl (any_of HT_.out (by kernel_rfl)) (fun _ _ _ h => h) (Or.inl ⟨by rfl, ?_⟩) ?_ ?_
         rotate_left
         ·
          intro w'
          go_simp
          with_reducible rfl
         rotate_left
         ·
          simp only [Act.put, sA_, sB_, sC_, i64_w, i32_w]
          rfl
         refine pure_ (i := 5) (N := some 37) (v := ?_) (a' := ?_) #[true, true, true, true, false, true, false, false] rfl rfl (any_of HT_.out (by kernel_rfl)) (fun _ _ _ h => h) (Or.inl ⟨by rfl, ?_⟩) ?_ ?_
         rotate_left
         ·
          intro w'
          go_simp
          with_reducible rfl
         rotate_left
         ·
          simp only [Act.put, sA_, sB_, sC_, i64_w, i32_w]
          rfl
         refine take_ (i := 4) (N := some 36) (v := ?_) (a' := ?_) #[true, true, true, true, true, true, false, false] rfl rfl (take_ofW HT_.out HW_.out (by kernel_rfl)) (fun _ _ _ h => h) (Or.inl ⟨by rfl, ?_⟩) hHeld ?_ ?_
         rotate_left
         ·
          rintro w' ⟨s0, s1, s2, s3, s4, s5⟩
          go_simp
          with_reducible rfl
         rotate_left
         ·
          simp only [Act.put, sA_, sB_, sC_, i64_w, i32_w]
          rfl
         refine one_ (i := 6) (N := some 38) #[true, true, true, true, true, true, true, false] rfl rfl (one_of HT_.out (by kernel_rfl)) (by decide) (fun K hK => ?_)
         refine goes_ Try.func76 (by kernel_rfl) rfl #[.int .i64 (wrap64 ((wrap64 (x1_1 + 1)) + 1))] (by rfl) rfl rfl (by (try simp only [List.map_toArray, List.map_cons, List.map_nil]); first | done | rfl | (simp only [List.length_drop, List.length_take]; rfl)) ?_
         with_reducible refine (laws_markText.calls k1 (wrap64 ((wrap64 (x1_1 + 1)) + 1)) t139 _ A8.out).mono ?_
         rintro e w35 ⟨rfl, hb⟩
         refine ⟨_, rfl, ?_⟩
         have n0_ := Aside0.mk (below_step (by repeat (first | (with_reducible first | exact HB.out | apply below_alloc | apply pw_below_drewN | apply below_drew1) | exact HB.out)) hb)
         clear HB
         have HB := n0_
         clear n0_
         (try clear hb)
         (try clear hb2)
         (try clear hk)
         (try clear hi)
         refine hK.out _ _ ⟨((HB.out.cell (World.block_lt_of_cell? w _ hw138_0)).trans hw138_0), ((HB.out.cell (World.block_lt_of_cell? w _ hw138_1)).trans hw138_1), ((HB.out.cell (World.block_lt_of_cell? w _ hw138_2)).trans hw138_2), ((HB.out.cell (World.block_lt_of_cell? w _ hw138_3)).trans hw138_3), ((HB.out.cell (World.block_lt_of_cell? w _ hw138_4)).trans hw138_4), ((HB.out.cell (World.block_lt_of_cell? w _ hw138_5)).trans hw138_5)⟩ (fun hHeld => ?_)
         clear hK K
         refine norm_ (a' := ?_) ?_ ?_
         rotate_left
         ·
          show Act.put _ (some 38) _ = _
          simp only [Act.put, sA_, sB_, sC_, i64_w, i32_w]
          rfl
         refine pure_ (i := 7) (N := some 39) (v := ?_) (a' := ?_) #[true, true, true, true, true, true, true, true] rfl rfl (any_of HT_.out (by kernel_rfl)) (fun _ _ _ h => h) (Or.inl ⟨by rfl, ?_⟩) ?_ ?_
         rotate_left
         ·
          intro w'
          go_simp
          with_reducible rfl
         rotate_left
         ·
          simp only [Act.put, sA_, sB_, sC_, i64_w, i32_w]
          rfl
         refine done_ (done_of HT_.out (by kernel_rfl)) ?_
         try go_wp2
         have n0_ := Aside0.mk (below_drew1 HB.out)
         clear HB
         have HB := n0_
         clear n0_
         have p140 : 0 ≤ (x5_1 : Int) := of_decide_eq_true (by assumption)
         have q140 : x5_1 < (l0.length : Int) := of_decide_eq_true (by assumption)
         obtain ⟨ad140, e140, hx140_0, hx140_1, hx140_2, hx140_3, hx140_4, hx140_5⟩ := at_T45 HR0.out x5_1 p140 q140
         have hw140_5 := hx140_5
         have hw140_4 := hx140_4
         have hw140_3 := hx140_3
         have hw140_2 := hx140_2
         have hw140_1 := hx140_1
         have hw140_0 := hx140_0
         obtain rfl : ad135 = ad140 := (by injection e140)
         replace hx140_0 := (HB.out.cell (World.block_lt_of_cell? w _ hx140_0)).trans hx140_0
         replace hx140_1 := (HB.out.cell (World.block_lt_of_cell? w _ hx140_1)).trans hx140_1
         replace hx140_2 := (HB.out.cell (World.block_lt_of_cell? w _ hx140_2)).trans hx140_2
         replace hx140_3 := (HB.out.cell (World.block_lt_of_cell? w _ hx140_3)).trans hx140_3
         replace hx140_4 := (HB.out.cell (World.block_lt_of_cell? w _ hx140_4)).trans hx140_4
         replace hx140_5 := (HB.out.cell (World.block_lt_of_cell? w _ hx140_5)).trans hx140_5
         replace p140 := eq_true p140
         replace q140 := eq_true q140
         refine start_ (n := 8) (S := fun w' => w'.cell? (ad135.add ((x5_1).toNat * 6)) = some (.string ((rd_T45 l0 x5_1).f0)) ∧ w'.cell? ⟨(ad135.add ((x5_1).toNat * 6)).block, (ad135.add ((x5_1).toNat * 6)).off + 1, none⟩ = some (.int .i8 ((rd_T45 l0 x5_1).f1)) ∧ w'.cell? ⟨(ad135.add ((x5_1).toNat * 6)).block, (ad135.add ((x5_1).toNat * 6)).off + 2, none⟩ = some (.string ((rd_T45 l0 x5_1).f2)) ∧ w'.cell? ⟨(ad135.add ((x5_1).toNat * 6)).block, (ad135.add ((x5_1).toNat * 6)).off + 3, none⟩ = some (.string ((rd_T45 l0 x5_1).f3)) ∧ w'.cell? ⟨(ad135.add ((x5_1).toNat * 6)).block, (ad135.add ((x5_1).toNat * 6)).off + 4, none⟩ = some (.int .i64 ((rd_T45 l0 x5_1).f4)) ∧ w'.cell? ⟨(ad135.add ((x5_1).toNat * 6)).block, (ad135.add ((x5_1).toNat * 6)).off + 5, none⟩ = some (.int .i64 ((rd_T45 l0 x5_1).f5))) (ds := []) #[false, false, false, false, false, false, false, false] (by kernel_rfl) rfl rfl ⟨((HB.out.cell (World.block_lt_of_cell? w _ hw140_0)).trans hw140_0), ((HB.out.cell (World.block_lt_of_cell? w _ hw140_1)).trans hw140_1), ((HB.out.cell (World.block_lt_of_cell? w _ hw140_2)).trans hw140_2), ((HB.out.cell (World.block_lt_of_cell? w _ hw140_3)).trans hw140_3), ((HB.out.cell (World.block_lt_of_cell? w _ hw140_4)).trans hw140_4), ((HB.out.cell (World.block_lt_of_cell? w _ hw140_5)).trans hw140_5)⟩ (fun hHeld => ?_); refine with_tabW laws_heldLineS.tab13 laws_heldLineS.bits13 (fun HT_ HW_ => ?_)
         generalize w35.drew = w36 at HB hx140_0 hx140_1 hx140_2 hx140_3 hx140_4 hx140_5 hHeld ⊢
         refine pure_ (i := 0) (N := some 42) (v := ?_) (a' := ?_) #[true, false, false, false, false, false, false, false] rfl rfl (any_of HT_.out (by kernel_rfl)) (fun _ _ _ h => h) (Or.inl ⟨by rfl, ?_⟩) ?_ ?_
         rotate_left
         ·
          intro w'
          go_simp
          with_reducible rfl
         rotate_left
         ·
          simp only [Act.put, sA_, sB_, sC_, i64_w, i32_w]
          rfl
         refine pure_ (i := 1) (N := some 43) (v := ?_) (a' := ?_) #[true, true, false, false, false, false, false, false] rfl rfl (any_of HT_.out (by kernel_rfl)) (fun _ _ _ h => h) (Or.inl ⟨by rfl, ?_⟩) ?_ ?_
         rotate_left
         ·
          intro w'
          go_simp
          with_reducible rfl
         rotate_left
         ·
          simp only [Act.put, sA_, sB_, sC_, i64_w, i32_w]
          rfl
         refine pure_ (i := 2) (N := some 44) (v := ?_) (a' := ?_) #[true, true, true, false, false, false, false, false] rfl rfl (any_of HT_.out (by kernel_rfl)) (fun _ _ _ h => h) (Or.inl ⟨by rfl, ?_⟩) ?_ ?_
         rotate_left
         ·
          intro w'
          go_simp
          with_reducible rfl
         rotate_left
         ·
          simp only [Act.put, sA_, sB_, sC_, i64_w, i32_w]
          rfl
         refine pure_ (i := 3) (N := some 45) (v := ?_) (a' := ?_) #[true, true, true, true, false, false, false, false] rfl rfl (any_of HT_.out (by kernel_rfl)) (fun _ _ _ h => h) (Or.inl ⟨by rfl, ?_⟩) ?_ ?_
         rotate_left
         ·
          intro w'
          go_simp
          with_reducible rfl
         rotate_left
         ·
          simp only [Act.put, sA_, sB_, sC_, i64_w, i32_w]
          rfl
         refine pure_ (i := 5) (N := some 47) (v := ?_) (a' := ?_) #[true, true, true, true, false, true, false, false] rfl rfl (any_of HT_.out (by kernel_rfl)) (fun _ _ _ h => h) (Or.inl ⟨by rfl, ?_⟩) ?_ ?_
         rotate_left
         ·
          intro w'
          go_simp
          with_reducible rfl
         rotate_left
         ·
          simp only [Act.put, sA_, sB_, sC_, i64_w, i32_w]
          rfl
         refine take_ (i := 4) (N := some 46) (v := ?_) (a' := ?_) #[true, true, true, true, true, true, false, false] rfl rfl (take_ofW HT_.out HW_.out (by kernel_rfl)) (fun _ _ _ h => h) (Or.inl ⟨by rfl, ?_⟩) hHeld ?_ ?_
         rotate_left
         ·
          rintro w' ⟨s0, s1, s2, s3, s4, s5⟩
          go_simp
          with_reducible rfl
         rotate_left
         ·
          simp only [Act.put, sA_, sB_, sC_, i64_w, i32_w]
          rfl
         refine one_ (i := 6) (N := some 48) #[true, true, true, true, true, true, true, false] rfl rfl (one_of HT_.out (by kernel_rfl)) (by decide) (fun K hK => ?_)
         refine goes_ Try.func76 (by kernel_rfl) rfl #[.int .i64 (wrap64 ((wrap64 ((wrap64 (x1_1 + 1)) + 1)) + 1))] (by rfl) rfl rfl (by (try simp only [List.map_toArray, List.map_cons, List.map_nil]); first | done | rfl | (simp only [List.length_drop, List.length_take]; rfl)) ?_
         with_reducible refine (laws_markText.calls k1 (wrap64 ((wrap64 ((wrap64 (x1_1 + 1)) + 1)) + 1)) t141 _ A10.out).mono ?_
         rintro e w37 ⟨rfl, hb⟩
         refine ⟨_, rfl, ?_⟩
         have n0_ := Aside0.mk (below_step (by repeat (first | (with_reducible first | exact HB.out | apply below_alloc | apply pw_below_drewN | apply below_drew1) | exact HB.out)) hb)
         clear HB
         have HB := n0_
         clear n0_
         (try clear hb)
         (try clear hb2)
         (try clear hk)
         (try clear hi)
         refine hK.out _ _ ⟨((HB.out.cell (World.block_lt_of_cell? w _ hw140_0)).trans hw140_0), ((HB.out.cell (World.block_lt_of_cell? w _ hw140_1)).trans hw140_1), ((HB.out.cell (World.block_lt_of_cell? w _ hw140_2)).trans hw140_2), ((HB.out.cell (World.block_lt_of_cell? w _ hw140_3)).trans hw140_3), ((HB.out.cell (World.block_lt_of_cell? w _ hw140_4)).trans hw140_4), ((HB.out.cell (World.block_lt_of_cell? w _ hw140_5)).trans hw140_5)⟩ (fun hHeld => ?_)
         clear hK K
         refine norm_ (a' := ?_) ?_ ?_
         rotate_left
         ·
          show Act.put _ (some 48) _ = _
          simp only [Act.put, sA_, sB_, sC_, i64_w, i32_w]
          rfl
         refine pure_ (i := 7) (N := some 49) (v := ?_) (a' := ?_) #[true, true, true, true, true, true, true, true] rfl rfl (any_of HT_.out (by kernel_rfl)) (fun _ _ _ h => h) (Or.inl ⟨by rfl, ?_⟩) ?_ ?_
         rotate_left
         ·
          intro w'
          go_simp
          with_reducible rfl
         rotate_left
         ·
          simp only [Act.put, sA_, sB_, sC_, i64_w, i32_w]
          rfl
         refine done_ (done_of HT_.out (by kernel_rfl)) ?_
         try go_wp2
         go_ret
         exact ⟨by first | rfl | (simp [errW_none, errW_some] <;> rfl) | (simp [*, errW_none, errW_some] <;> rfl), by repeat (first | (with_reducible first | exact HB.out | apply below_alloc | apply pw_below_drewN | apply below_drew1) | exact HB.out)⟩
       ·
        rw [if_neg c9] at H
        have c9b0 : (((rd_T45 l0 x5_1).f2).toList == t139.toList) = false := beq_eq_false_iff_ne.mpr c9
        have c9b1 : (((rd_T45 l0 x5_1).f2).toList != t139.toList) = true := bne_iff_ne.mpr c9
        obtain rfl := Option.some.inj H
        try go_wp2
        have n0_ := Aside0.mk (below_drew1 HB.out)
        clear HB
        have HB := n0_
        clear n0_
        have p135 : 0 ≤ (x5_1 : Int) := of_decide_eq_true (by assumption)
        have q135 : x5_1 < (l0.length : Int) := of_decide_eq_true (by assumption)
        obtain ⟨ad135, e135, hx135_0, hx135_1, hx135_2, hx135_3, hx135_4, hx135_5⟩ := at_T45 HR0.out x5_1 p135 q135
        have hw135_5 := hx135_5
        have hw135_4 := hx135_4
        have hw135_3 := hx135_3
        have hw135_2 := hx135_2
        have hw135_1 := hx135_1
        have hw135_0 := hx135_0
        cases e135
        replace hx135_0 := (HB.out.cell (World.block_lt_of_cell? w _ hx135_0)).trans hx135_0
        replace hx135_1 := (HB.out.cell (World.block_lt_of_cell? w _ hx135_1)).trans hx135_1
        replace hx135_2 := (HB.out.cell (World.block_lt_of_cell? w _ hx135_2)).trans hx135_2
        replace hx135_3 := (HB.out.cell (World.block_lt_of_cell? w _ hx135_3)).trans hx135_3
        replace hx135_4 := (HB.out.cell (World.block_lt_of_cell? w _ hx135_4)).trans hx135_4
        replace hx135_5 := (HB.out.cell (World.block_lt_of_cell? w _ hx135_5)).trans hx135_5
        replace p135 := eq_true p135
        replace q135 := eq_true q135
        refine start_ (n := 8) (S := fun w' => w'.cell? (ad135.add ((x5_1).toNat * 6)) = some (.string ((rd_T45 l0 x5_1).f0)) ∧ w'.cell? ⟨(ad135.add ((x5_1).toNat * 6)).block, (ad135.add ((x5_1).toNat * 6)).off + 1, none⟩ = some (.int .i8 ((rd_T45 l0 x5_1).f1)) ∧ w'.cell? ⟨(ad135.add ((x5_1).toNat * 6)).block, (ad135.add ((x5_1).toNat * 6)).off + 2, none⟩ = some (.string ((rd_T45 l0 x5_1).f2)) ∧ w'.cell? ⟨(ad135.add ((x5_1).toNat * 6)).block, (ad135.add ((x5_1).toNat * 6)).off + 3, none⟩ = some (.string ((rd_T45 l0 x5_1).f3)) ∧ w'.cell? ⟨(ad135.add ((x5_1).toNat * 6)).block, (ad135.add ((x5_1).toNat * 6)).off + 4, none⟩ = some (.int .i64 ((rd_T45 l0 x5_1).f4)) ∧ w'.cell? ⟨(ad135.add ((x5_1).toNat * 6)).block, (ad135.add ((x5_1).toNat * 6)).off + 5, none⟩ = some (.int .i64 ((rd_T45 l0 x5_1).f5))) (ds := []) #[false, false, false, false, false, false, false, false] (by kernel_rfl) rfl rfl ⟨((HB.out.cell (World.block_lt_of_cell? w _ hw135_0)).trans hw135_0), ((HB.out.cell (World.block_lt_of_cell? w _ hw135_1)).trans hw135_1), ((HB.out.cell (World.block_lt_of_cell? w _ hw135_2)).trans hw135_2), ((HB.out.cell (World.block_lt_of_cell? w _ hw135_3)).trans hw135_3), ((HB.out.cell (World.block_lt_of_cell? w _ hw135_4)).trans hw135_4), ((HB.out.cell (World.block_lt_of_cell? w _ hw135_5)).trans hw135_5)⟩ (fun hHeld => ?_); refine with_tabW laws_heldLineS.tab4 laws_heldLineS.bits4 (fun HT_ HW_ => ?_)
        generalize wr.drew = w38 at HB hx135_0 hx135_1 hx135_2 hx135_3 hx135_4 hx135_5 hHeld ⊢
        refine pure_ (i := 0) (N := some 12) (v := ?_) (a' := ?_) #[true, false, false, false, false, false, false, false] rfl rfl (any_of HT_.out (by kernel_rfl)) (fun _ _ _ h => h) (Or.inl ⟨by rfl, ?_⟩) ?_ ?_
        rotate_left
        ·
         intro w'
         go_simp
         with_reducible rfl
        rotate_left
        ·
         simp only [Act.put, sA_, sB_, sC_, i64_w, i32_w]
         rfl
        refine pure_ (i := 1) (N := some 13) (v := ?_) (a' := ?_) #[true, true, false, false, false, false, false, false] rfl rfl (any_of HT_.out (by kernel_rfl)) (fun _ _ _ h => h) (Or.inl ⟨by rfl, ?_⟩) ?_ ?_
        rotate_left
        ·
         intro w'
         go_simp
         with_reducible rfl
        rotate_left
        ·
         simp only [Act.put, sA_, sB_, sC_, i64_w, i32_w]
         rfl
        refine pure_ (i := 2) (N := some 14) (v := ?_) (a' := ?_) #[true, true, true, false, false, false, false, false] rfl rfl (any_of HT_.out (by kernel_rfl)) (fun _ _ _ h => h) (Or.inl ⟨by rfl, ?_⟩) ?_ ?_
        rotate_left
        ·
         intro w'
         go_simp
         with_reducible rfl
        rotate_left
        ·
         simp only [Act.put, sA_, sB_, sC_, i64_w, i32_w]
         rfl
        refine pure_ (i := 3) (N := some 15) (v := ?_) (a' := ?_) #[true, true, true, true, false, false, false, false] rfl rfl (any_of HT_.out (by kernel_rfl)) (fun _ _ _ h => h) (Or.inl ⟨by rfl, ?_⟩) ?_ ?_
        rotate_left
        ·
         intro w'
         go_simp
         with_reducible rfl
        rotate_left
        ·
         simp only [Act.put, sA_, sB_, sC_, i64_w, i32_w]
         rfl
        refine pure_ (i := 5) (N := some 17) (v := ?_) (a' := ?_) #[true, true, true, true, false, true, false, false] rfl rfl (any_of HT_.out (by kernel_rfl)) (fun _ _ _ h => h) (Or.inl ⟨by rfl, ?_⟩) ?_ ?_
        rotate_left
        ·
         intro w'
         go_simp
         with_reducible rfl
        rotate_left
        ·
         simp only [Act.put, sA_, sB_, sC_, i64_w, i32_w]
         rfl
        refine take_ (i := 4) (N := some 16) (v := ?_) (a' := ?_) #[true, true, true, true, true, true, false, false] rfl rfl (take_ofW HT_.out HW_.out (by kernel_rfl)) (fun _ _ _ h => h) (Or.inl ⟨by rfl, ?_⟩) hHeld ?_ ?_
        rotate_left
        ·
         rintro w' ⟨s0, s1, s2, s3, s4, s5⟩
         go_simp
         with_reducible rfl
        rotate_left
        ·
         simp only [Act.put, sA_, sB_, sC_, i64_w, i32_w]
         rfl
        refine one_ (i := 6) (N := some 18) #[true, true, true, true, true, true, true, false] rfl rfl (one_of HT_.out (by kernel_rfl)) (by decide) (fun K hK => ?_)
        refine goes_ Try.func76 (by kernel_rfl) rfl #[.int .i64 x1_1] (by rfl) rfl rfl (by (try simp only [List.map_toArray, List.map_cons, List.map_nil]); first | done | rfl | (simp only [List.length_drop, List.length_take]; rfl)) ?_
        with_reducible refine (laws_markText.calls k1 x1_1 t136 _ A5.out).mono ?_
        rintro e w39 ⟨rfl, hb⟩
        refine ⟨_, rfl, ?_⟩
        have n0_ := Aside0.mk (below_step (by repeat (first | (with_reducible first | exact HB.out | apply below_alloc | apply pw_below_drewN | apply below_drew1) | exact HB.out)) hb)
        clear HB
        have HB := n0_
        clear n0_
        (try clear hb)
        (try clear hb2)
        (try clear hk)
        (try clear hi)
        refine hK.out _ _ ⟨((HB.out.cell (World.block_lt_of_cell? w _ hw135_0)).trans hw135_0), ((HB.out.cell (World.block_lt_of_cell? w _ hw135_1)).trans hw135_1), ((HB.out.cell (World.block_lt_of_cell? w _ hw135_2)).trans hw135_2), ((HB.out.cell (World.block_lt_of_cell? w _ hw135_3)).trans hw135_3), ((HB.out.cell (World.block_lt_of_cell? w _ hw135_4)).trans hw135_4), ((HB.out.cell (World.block_lt_of_cell? w _ hw135_5)).trans hw135_5)⟩ (fun hHeld => ?_)
        clear hK K
        refine norm_ (a' := ?_) ?_ ?_
        rotate_left
        ·
         show Act.put _ (some 18) _ = _
         simp only [Act.put, sA_, sB_, sC_, i64_w, i32_w]
         rfl
        refine pure_ (i := 7) (N := some 19) (v := ?_) (a' := ?_) #[true, true, true, true, true, true, true, true] rfl rfl (any_of HT_.out (by kernel_rfl)) (fun _ _ _ h => h) (Or.inl ⟨by rfl, ?_⟩) ?_ ?_
        rotate_left
        ·
         intro w'
         go_simp
         with_reducible rfl
        rotate_left
        ·
         simp only [Act.put, sA_, sB_, sC_, i64_w, i32_w]
         rfl
        refine done_ (done_of HT_.out (by kernel_rfl)) ?_
        have p137 : 0 ≤ (x5_1 : Int) := of_decide_eq_true (by assumption)
        have q137 : x5_1 < (l0.length : Int) := of_decide_eq_true (by assumption)
        obtain ⟨ad137, e137, hx137_0, hx137_1, hx137_2, hx137_3, hx137_4, hx137_5⟩ := at_T45 HR0.out x5_1 p137 q137
        obtain rfl : ad135 = ad137 := (by injection e137)
        replace hx137_0 := (HB.out.cell (World.block_lt_of_cell? w _ hx137_0)).trans hx137_0
        replace hx137_1 := (HB.out.cell (World.block_lt_of_cell? w _ hx137_1)).trans hx137_1
        replace hx137_2 := (HB.out.cell (World.block_lt_of_cell? w _ hx137_2)).trans hx137_2
        replace hx137_3 := (HB.out.cell (World.block_lt_of_cell? w _ hx137_3)).trans hx137_3
        replace hx137_4 := (HB.out.cell (World.block_lt_of_cell? w _ hx137_4)).trans hx137_4
        replace hx137_5 := (HB.out.cell (World.block_lt_of_cell? w _ hx137_5)).trans hx137_5
        replace p137 := eq_true p137
        replace q137 := eq_true q137
        try go_wp2
        have n0_ := Aside0.mk (below_drew1 HB.out)
        clear HB
        have HB := n0_
        clear n0_
        have p138 : 0 ≤ (x5_1 : Int) := of_decide_eq_true (by assumption)
        have q138 : x5_1 < (l0.length : Int) := of_decide_eq_true (by assumption)
        obtain ⟨ad138, e138, hx138_0, hx138_1, hx138_2, hx138_3, hx138_4, hx138_5⟩ := at_T45 HR0.out x5_1 p138 q138
        have hw138_5 := hx138_5
        have hw138_4 := hx138_4
        have hw138_3 := hx138_3
        have hw138_2 := hx138_2
        have hw138_1 := hx138_1
        have hw138_0 := hx138_0
        obtain rfl : ad135 = ad138 := (by injection e138)
        replace hx138_0 := (HB.out.cell (World.block_lt_of_cell? w _ hx138_0)).trans hx138_0
        replace hx138_1 := (HB.out.cell (World.block_lt_of_cell? w _ hx138_1)).trans hx138_1
        replace hx138_2 := (HB.out.cell (World.block_lt_of_cell? w _ hx138_2)).trans hx138_2
        replace hx138_3 := (HB.out.cell (World.block_lt_of_cell? w _ hx138_3)).trans hx138_3
        replace hx138_4 := (HB.out.cell (World.block_lt_of_cell? w _ hx138_4)).trans hx138_4
        replace hx138_5 := (HB.out.cell (World.block_lt_of_cell? w _ hx138_5)).trans hx138_5
        replace p138 := eq_true p138
        replace q138 := eq_true q138
        refine start_ (n := 8) (S := fun w' => w'.cell? (ad135.add ((x5_1).toNat * 6)) = some (.string ((rd_T45 l0 x5_1).f0)) ∧ w'.cell? ⟨(ad135.add ((x5_1).toNat * 6)).block, (ad135.add ((x5_1).toNat * 6)).off + 1, none⟩ = some (.int .i8 ((rd_T45 l0 x5_1).f1)) ∧ w'.cell? ⟨(ad135.add ((x5_1).toNat * 6)).block, (ad135.add ((x5_1).toNat * 6)).off + 2, none⟩ = some (.string ((rd_T45 l0 x5_1).f2)) ∧ w'.cell? ⟨(ad135.add ((x5_1).toNat * 6)).block, (ad135.add ((x5_1).toNat * 6)).off + 3, none⟩ = some (.string ((rd_T45 l0 x5_1).f3)) ∧ w'.cell? ⟨(ad135.add ((x5_1).toNat * 6)).block, (ad135.add ((x5_1).toNat * 6)).off + 4, none⟩ = some (.int .i64 ((rd_T45 l0 x5_1).f4)) ∧ w'.cell? ⟨(ad135.add ((x5_1).toNat * 6)).block, (ad135.add ((x5_1).toNat * 6)).off + 5, none⟩ = some (.int .i64 ((rd_T45 l0 x5_1).f5))) (ds := []) #[false, false, false, false, false, false, false, false] (by kernel_rfl) rfl rfl ⟨((HB.out.cell (World.block_lt_of_cell? w _ hw138_0)).trans hw138_0), ((HB.out.cell (World.block_lt_of_cell? w _ hw138_1)).trans hw138_1), ((HB.out.cell (World.block_lt_of_cell? w _ hw138_2)).trans hw138_2), ((HB.out.cell (World.block_lt_of_cell? w _ hw138_3)).trans hw138_3), ((HB.out.cell (World.block_lt_of_cell? w _ hw138_4)).trans hw138_4), ((HB.out.cell (World.block_lt_of_cell? w _ hw138_5)).trans hw138_5)⟩ (fun hHeld => ?_); refine with_tabW laws_heldLineS.tab10 laws_heldLineS.bits10 (fun HT_ HW_ => ?_)
        generalize w39.drew = w40 at HB hx138_0 hx138_1 hx138_2 hx138_3 hx138_4 hx138_5 hHeld ⊢
        refine pure_ (i := 0) (N := some 32) (v := ?_) (a' := ?_) #[true, false, false, false, false, false, false, false] rfl rfl (any_of HT_.out (by kernel_rfl)) (fun _ _ _ h => h) (Or.inl ⟨by rfl, ?_⟩) ?_ ?_
        rotate_left
        ·
         intro w'
         go_simp
         with_reducible rfl
        rotate_left
        ·
         simp only [Act.put, sA_, sB_, sC_, i64_w, i32_w]
         rfl
        refine pure_ (i := 1) (N := some 33) (v := ?_) (a' := ?_) #[true, true, false, false, false, false, false, false] rfl rfl (any_of HT_.out (by kernel_rfl)) (fun _ _ _ h => h) (Or.inl ⟨by rfl, ?_⟩) ?_ ?_
        rotate_left
        ·
         intro w'
         go_simp
         with_reducible rfl
        rotate_left
        ·
         simp only [Act.put, sA_, sB_, sC_, i64_w, i32_w]
         rfl
        refine pure_ (i := 2) (N := some 34) (v := ?_) (a' := ?_) #[true, true, true, false, false, false, false, false] rfl rfl (any_of HT_.out (by kernel_rfl)) (fun _ _ _ h => h) (Or.inl ⟨by rfl, ?_⟩) ?_ ?_
        rotate_left
        ·
         intro w'
         go_simp
         with_reducible rfl
        rotate_left
        ·
         simp only [Act.put, sA_, sB_, sC_, i64_w, i32_w]
         rfl
        refine pure_ (i := 3) (N := some 35) (v := ?_) (a' := ?_) #[true, true, true, true, false, false, false, false] rfl rfl (any_of HT_.out (by kernel_rfl)) (fun _ _ _ h => h) (Or.inl ⟨by rfl, ?_⟩) ?_ ?_
        rotate_left
        ·
         intro w'
         go_simp
         with_reducible rfl
        rotate_left
        ·
         simp only [Act.put, sA_, sB_, sC_, i64_w, i32_w]
         rfl
        refine pure_ (i := 5) (N := some 37) (v := ?_) (a' := ?_) #[true, true, true, true, false, true, false, false] rfl rfl (any_of HT_.out (by kernel_rfl)) (fun _ _ _ h => h) (Or.inl ⟨by rfl, ?_⟩) ?_ ?_
        rotate_left
        ·
         intro w'
         go_simp
         with_reducible rfl
        rotate_left
        ·
         simp only [Act.put, sA_, sB_, sC_, i64_w, i32_w]
         rfl
        refine take_ (i := 4) (N := some 36) (v := ?_) (a' := ?_) #[true, true, true, true, true, true, false, false] rfl rfl (take_ofW HT_.out HW_.out (by kernel_rfl)) (fun _ _ _ h => h) (Or.inl ⟨by rfl, ?_⟩) hHeld ?_ ?_
        rotate_left
        ·
         rintro w' ⟨s0, s1, s2, s3, s4, s5⟩
         go_simp
         with_reducible rfl
        rotate_left
        ·
         simp only [Act.put, sA_, sB_, sC_, i64_w, i32_w]
         rfl
        refine one_ (i := 6) (N := some 38) #[true, true, true, true, true, true, true, false] rfl rfl (one_of HT_.out (by kernel_rfl)) (by decide) (fun K hK => ?_)
        refine goes_ Try.func76 (by kernel_rfl) rfl #[.int .i64 (wrap64 ((wrap64 (x1_1 + 1)) + 1))] (by rfl) rfl rfl (by (try simp only [List.map_toArray, List.map_cons, List.map_nil]); first | done | rfl | (simp only [List.length_drop, List.length_take]; rfl)) ?_
        with_reducible refine (laws_markText.calls k1 (wrap64 ((wrap64 (x1_1 + 1)) + 1)) t139 _ A8.out).mono ?_
        rintro e w41 ⟨rfl, hb⟩
        refine ⟨_, rfl, ?_⟩
        have n0_ := Aside0.mk (below_step (by repeat (first | (with_reducible first | exact HB.out | apply below_alloc | apply pw_below_drewN | apply below_drew1) | exact HB.out)) hb)
        clear HB
        have HB := n0_
        clear n0_
        (try clear hb)
        (try clear hb2)
        (try clear hk)
        (try clear hi)
        refine hK.out _ _ ⟨((HB.out.cell (World.block_lt_of_cell? w _ hw138_0)).trans hw138_0), ((HB.out.cell (World.block_lt_of_cell? w _ hw138_1)).trans hw138_1), ((HB.out.cell (World.block_lt_of_cell? w _ hw138_2)).trans hw138_2), ((HB.out.cell (World.block_lt_of_cell? w _ hw138_3)).trans hw138_3), ((HB.out.cell (World.block_lt_of_cell? w _ hw138_4)).trans hw138_4), ((HB.out.cell (World.block_lt_of_cell? w _ hw138_5)).trans hw138_5)⟩ (fun hHeld => ?_)
        clear hK K
        refine norm_ (a' := ?_) ?_ ?_
        rotate_left
        ·
         show Act.put _ (some 38) _ = _
         simp only [Act.put, sA_, sB_, sC_, i64_w, i32_w]
         rfl
        refine pure_ (i := 7) (N := some 39) (v := ?_) (a' := ?_) #[true, true, true, true, true, true, true, true] rfl rfl (any_of HT_.out (by kernel_rfl)) (fun _ _ _ h => h) (Or.inl ⟨by rfl, ?_⟩) ?_ ?_
        rotate_left
        ·
         intro w'
         go_simp
         with_reducible rfl
        rotate_left
        ·
         simp only [Act.put, sA_, sB_, sC_, i64_w, i32_w]
         rfl
        refine done_ (done_of HT_.out (by kernel_rfl)) ?_
        try go_wp2
        go_ret
        exact ⟨by first | rfl | (simp [errW_none, errW_some] <;> rfl) | (simp [*, errW_none, errW_some] <;> rfl), by repeat (first | (with_reducible first | exact HB.out | apply below_alloc | apply pw_below_drewN | apply below_drew1) | exact HB.out)⟩
      ·
       rw [if_neg c7] at H
       have c7b0 : (((rd_T45 l0 x5_1).f1) == (IntKind.i8.wrap (wrap64 (x1_1 + 1)))) = false := beq_eq_false_iff_ne.mpr c7
       have c7b1 : (((rd_T45 l0 x5_1).f1) != (IntKind.i8.wrap (wrap64 (x1_1 + 1)))) = true := bne_iff_ne.mpr c7
       obtain rfl := Option.some.inj H
       try go_wp2
       have n0_ := Aside0.mk (below_drew1 HB.out)
       clear HB
       have HB := n0_
       clear n0_
       have p135 : 0 ≤ (x5_1 : Int) := of_decide_eq_true (by assumption)
       have q135 : x5_1 < (l0.length : Int) := of_decide_eq_true (by assumption)
       obtain ⟨ad135, e135, hx135_0, hx135_1, hx135_2, hx135_3, hx135_4, hx135_5⟩ := at_T45 HR0.out x5_1 p135 q135
       have hw135_5 := hx135_5
       have hw135_4 := hx135_4
       have hw135_3 := hx135_3
       have hw135_2 := hx135_2
       have hw135_1 := hx135_1
       have hw135_0 := hx135_0
       cases e135
       replace hx135_0 := (HB.out.cell (World.block_lt_of_cell? w _ hx135_0)).trans hx135_0
       replace hx135_1 := (HB.out.cell (World.block_lt_of_cell? w _ hx135_1)).trans hx135_1
       replace hx135_2 := (HB.out.cell (World.block_lt_of_cell? w _ hx135_2)).trans hx135_2
       replace hx135_3 := (HB.out.cell (World.block_lt_of_cell? w _ hx135_3)).trans hx135_3
       replace hx135_4 := (HB.out.cell (World.block_lt_of_cell? w _ hx135_4)).trans hx135_4
       replace hx135_5 := (HB.out.cell (World.block_lt_of_cell? w _ hx135_5)).trans hx135_5
       replace p135 := eq_true p135
       replace q135 := eq_true q135
       refine start_ (n := 8) (S := fun w' => w'.cell? (ad135.add ((x5_1).toNat * 6)) = some (.string ((rd_T45 l0 x5_1).f0)) ∧ w'.cell? ⟨(ad135.add ((x5_1).toNat * 6)).block, (ad135.add ((x5_1).toNat * 6)).off + 1, none⟩ = some (.int .i8 ((rd_T45 l0 x5_1).f1)) ∧ w'.cell? ⟨(ad135.add ((x5_1).toNat * 6)).block, (ad135.add ((x5_1).toNat * 6)).off + 2, none⟩ = some (.string ((rd_T45 l0 x5_1).f2)) ∧ w'.cell? ⟨(ad135.add ((x5_1).toNat * 6)).block, (ad135.add ((x5_1).toNat * 6)).off + 3, none⟩ = some (.string ((rd_T45 l0 x5_1).f3)) ∧ w'.cell? ⟨(ad135.add ((x5_1).toNat * 6)).block, (ad135.add ((x5_1).toNat * 6)).off + 4, none⟩ = some (.int .i64 ((rd_T45 l0 x5_1).f4)) ∧ w'.cell? ⟨(ad135.add ((x5_1).toNat * 6)).block, (ad135.add ((x5_1).toNat * 6)).off + 5, none⟩ = some (.int .i64 ((rd_T45 l0 x5_1).f5))) (ds := []) #[false, false, false, false, false, false, false, false] (by kernel_rfl) rfl rfl ⟨((HB.out.cell (World.block_lt_of_cell? w _ hw135_0)).trans hw135_0), ((HB.out.cell (World.block_lt_of_cell? w _ hw135_1)).trans hw135_1), ((HB.out.cell (World.block_lt_of_cell? w _ hw135_2)).trans hw135_2), ((HB.out.cell (World.block_lt_of_cell? w _ hw135_3)).trans hw135_3), ((HB.out.cell (World.block_lt_of_cell? w _ hw135_4)).trans hw135_4), ((HB.out.cell (World.block_lt_of_cell? w _ hw135_5)).trans hw135_5)⟩ (fun hHeld => ?_); refine with_tabW laws_heldLineS.tab4 laws_heldLineS.bits4 (fun HT_ HW_ => ?_)
       generalize wr.drew = w42 at HB hx135_0 hx135_1 hx135_2 hx135_3 hx135_4 hx135_5 hHeld ⊢
       refine pure_ (i := 0) (N := some 12) (v := ?_) (a' := ?_) #[true, false, false, false, false, false, false, false] rfl rfl (any_of HT_.out (by kernel_rfl)) (fun _ _ _ h => h) (Or.inl ⟨by rfl, ?_⟩) ?_ ?_
       rotate_left
       ·
        intro w'
        go_simp
        with_reducible rfl
       rotate_left
       ·
        simp only [Act.put, sA_, sB_, sC_, i64_w, i32_w]
        rfl
       refine pure_ (i := 1) (N := some 13) (v := ?_) (a' := ?_) #[true, true, false, false, false, false, false, false] rfl rfl (any_of HT_.out (by kernel_rfl)) (fun _ _ _ h => h) (Or.inl ⟨by rfl, ?_⟩) ?_ ?_
       rotate_left
       ·
        intro w'
        go_simp
        with_reducible rfl
       rotate_left
       ·
        simp only [Act.put, sA_, sB_, sC_, i64_w, i32_w]
        rfl
       refine pure_ (i := 2) (N := some 14) (v := ?_) (a' := ?_) #[true, true, true, false, false, false, false, false] rfl rfl (any_of HT_.out (by kernel_rfl)) (fun _ _ _ h => h) (Or.inl ⟨by rfl, ?_⟩) ?_ ?_
       rotate_left
       ·
        intro w'
        go_simp
        with_reducible rfl
       rotate_left
       ·
        simp only [Act.put, sA_, sB_, sC_, i64_w, i32_w]
        rfl
       refine pure_ (i := 3) (N := some 15) (v := ?_) (a' := ?_) #[true, true, true, true, false, false, false, false] rfl rfl (any_of HT_.out (by kernel_rfl)) (fun _ _ _ h => h) (Or.inl ⟨by rfl, ?_⟩) ?_ ?_
       rotate_left
       ·
        intro w'
        go_simp
        with_reducible rfl
       rotate_left
       ·
        simp only [Act.put, sA_, sB_, sC_, i64_w, i32_w]
        rfl
       refine pure_ (i := 5) (N := some 17) (v := ?_) (a' := ?_) #[true, true, true, true, false, true, false, false] rfl rfl (any_of HT_.out (by kernel_rfl)) (fun _ _ _ h => h) (Or.inl ⟨by rfl, ?_⟩) ?_ ?_
       rotate_left
       ·
        intro w'
        go_simp
        with_reducible rfl
       rotate_left
       ·
        simp only [Act.put, sA_, sB_, sC_, i64_w, i32_w]
        rfl
       refine take_ (i := 4) (N := some 16) (v := ?_) (a' := ?_) #[true, true, true, true, true, true, false, false] rfl rfl (take_ofW HT_.out HW_.out (by kernel_rfl)) (fun _ _ _ h => h) (Or.inl ⟨by rfl, ?_⟩) hHeld ?_ ?_
       rotate_left
       ·
        rintro w' ⟨s0, s1, s2, s3, s4, s5⟩
        go_simp
        with_reducible rfl
       rotate_left
       ·
        simp only [Act.put, sA_, sB_, sC_, i64_w, i32_w]
        rfl
       refine one_ (i := 6) (N := some 18) #[true, true, true, true, true, true, true, false] rfl rfl (one_of HT_.out (by kernel_rfl)) (by decide) (fun K hK => ?_)
       refine goes_ Try.func76 (by kernel_rfl) rfl #[.int .i64 x1_1] (by rfl) rfl rfl (by (try simp only [List.map_toArray, List.map_cons, List.map_nil]); first | done | rfl | (simp only [List.length_drop, List.length_take]; rfl)) ?_
       with_reducible refine (laws_markText.calls k1 x1_1 t136 _ A5.out).mono ?_
       rintro e w43 ⟨rfl, hb⟩
       refine ⟨_, rfl, ?_⟩
       have n0_ := Aside0.mk (below_step (by repeat (first | (with_reducible first | exact HB.out | apply below_alloc | apply pw_below_drewN | apply below_drew1) | exact HB.out)) hb)
       clear HB
       have HB := n0_
       clear n0_
       (try clear hb)
       (try clear hb2)
       (try clear hk)
       (try clear hi)
       refine hK.out _ _ ⟨((HB.out.cell (World.block_lt_of_cell? w _ hw135_0)).trans hw135_0), ((HB.out.cell (World.block_lt_of_cell? w _ hw135_1)).trans hw135_1), ((HB.out.cell (World.block_lt_of_cell? w _ hw135_2)).trans hw135_2), ((HB.out.cell (World.block_lt_of_cell? w _ hw135_3)).trans hw135_3), ((HB.out.cell (World.block_lt_of_cell? w _ hw135_4)).trans hw135_4), ((HB.out.cell (World.block_lt_of_cell? w _ hw135_5)).trans hw135_5)⟩ (fun hHeld => ?_)
       clear hK K
       refine norm_ (a' := ?_) ?_ ?_
       rotate_left
       ·
        show Act.put _ (some 18) _ = _
        simp only [Act.put, sA_, sB_, sC_, i64_w, i32_w]
        rfl
       refine pure_ (i := 7) (N := some 19) (v := ?_) (a' := ?_) #[true, true, true, true, true, true, true, true] rfl rfl (any_of HT_.out (by kernel_rfl)) (fun _ _ _ h => h) (Or.inl ⟨by rfl, ?_⟩) ?_ ?_
       rotate_left
       ·
        intro w'
        go_simp
        with_reducible rfl
       rotate_left
       ·
        simp only [Act.put, sA_, sB_, sC_, i64_w, i32_w]
        rfl
       refine done_ (done_of HT_.out (by kernel_rfl)) ?_
       have p137 : 0 ≤ (x5_1 : Int) := of_decide_eq_true (by assumption)
       have q137 : x5_1 < (l0.length : Int) := of_decide_eq_true (by assumption)
       obtain ⟨ad137, e137, hx137_0, hx137_1, hx137_2, hx137_3, hx137_4, hx137_5⟩ := at_T45 HR0.out x5_1 p137 q137
       obtain rfl : ad135 = ad137 := (by injection e137)
       replace hx137_0 := (HB.out.cell (World.block_lt_of_cell? w _ hx137_0)).trans hx137_0
       replace hx137_1 := (HB.out.cell (World.block_lt_of_cell? w _ hx137_1)).trans hx137_1
       replace hx137_2 := (HB.out.cell (World.block_lt_of_cell? w _ hx137_2)).trans hx137_2
       replace hx137_3 := (HB.out.cell (World.block_lt_of_cell? w _ hx137_3)).trans hx137_3
       replace hx137_4 := (HB.out.cell (World.block_lt_of_cell? w _ hx137_4)).trans hx137_4
       replace hx137_5 := (HB.out.cell (World.block_lt_of_cell? w _ hx137_5)).trans hx137_5
       replace p137 := eq_true p137
       replace q137 := eq_true q137
       try go_wp2
       go_ret
       exact ⟨by first | rfl | (simp [errW_none, errW_some] <;> rfl) | (simp [*, errW_none, errW_some] <;> rfl), by repeat (first | (with_reducible first | exact HB.out | apply below_alloc | apply pw_below_drewN | apply below_drew1) | exact HB.out)⟩
     ·
      rw [if_neg c6] at H
      have c6b0 : (((rd_T45 l0 x5_1).f0).toList == t136.toList) = false := beq_eq_false_iff_ne.mpr c6
      have c6b1 : (((rd_T45 l0 x5_1).f0).toList != t136.toList) = true := bne_iff_ne.mpr c6
      obtain rfl := Option.some.inj H
      try go_wp2
      have n0_ := Aside0.mk (below_drew1 HB.out)
      clear HB
      have HB := n0_
      clear n0_
      have p135 : 0 ≤ (x5_1 : Int) := of_decide_eq_true (by assumption)
      have q135 : x5_1 < (l0.length : Int) := of_decide_eq_true (by assumption)
      obtain ⟨ad135, e135, hx135_0, hx135_1, hx135_2, hx135_3, hx135_4, hx135_5⟩ := at_T45 HR0.out x5_1 p135 q135
      have hw135_5 := hx135_5
      have hw135_4 := hx135_4
      have hw135_3 := hx135_3
      have hw135_2 := hx135_2
      have hw135_1 := hx135_1
      have hw135_0 := hx135_0
      cases e135
      replace hx135_0 := (HB.out.cell (World.block_lt_of_cell? w _ hx135_0)).trans hx135_0
      replace hx135_1 := (HB.out.cell (World.block_lt_of_cell? w _ hx135_1)).trans hx135_1
      replace hx135_2 := (HB.out.cell (World.block_lt_of_cell? w _ hx135_2)).trans hx135_2
      replace hx135_3 := (HB.out.cell (World.block_lt_of_cell? w _ hx135_3)).trans hx135_3
      replace hx135_4 := (HB.out.cell (World.block_lt_of_cell? w _ hx135_4)).trans hx135_4
      replace hx135_5 := (HB.out.cell (World.block_lt_of_cell? w _ hx135_5)).trans hx135_5
      replace p135 := eq_true p135
      replace q135 := eq_true q135
      refine start_ (n := 8) (S := fun w' => w'.cell? (ad135.add ((x5_1).toNat * 6)) = some (.string ((rd_T45 l0 x5_1).f0)) ∧ w'.cell? ⟨(ad135.add ((x5_1).toNat * 6)).block, (ad135.add ((x5_1).toNat * 6)).off + 1, none⟩ = some (.int .i8 ((rd_T45 l0 x5_1).f1)) ∧ w'.cell? ⟨(ad135.add ((x5_1).toNat * 6)).block, (ad135.add ((x5_1).toNat * 6)).off + 2, none⟩ = some (.string ((rd_T45 l0 x5_1).f2)) ∧ w'.cell? ⟨(ad135.add ((x5_1).toNat * 6)).block, (ad135.add ((x5_1).toNat * 6)).off + 3, none⟩ = some (.string ((rd_T45 l0 x5_1).f3)) ∧ w'.cell? ⟨(ad135.add ((x5_1).toNat * 6)).block, (ad135.add ((x5_1).toNat * 6)).off + 4, none⟩ = some (.int .i64 ((rd_T45 l0 x5_1).f4)) ∧ w'.cell? ⟨(ad135.add ((x5_1).toNat * 6)).block, (ad135.add ((x5_1).toNat * 6)).off + 5, none⟩ = some (.int .i64 ((rd_T45 l0 x5_1).f5))) (ds := []) #[false, false, false, false, false, false, false, false] (by kernel_rfl) rfl rfl ⟨((HB.out.cell (World.block_lt_of_cell? w _ hw135_0)).trans hw135_0), ((HB.out.cell (World.block_lt_of_cell? w _ hw135_1)).trans hw135_1), ((HB.out.cell (World.block_lt_of_cell? w _ hw135_2)).trans hw135_2), ((HB.out.cell (World.block_lt_of_cell? w _ hw135_3)).trans hw135_3), ((HB.out.cell (World.block_lt_of_cell? w _ hw135_4)).trans hw135_4), ((HB.out.cell (World.block_lt_of_cell? w _ hw135_5)).trans hw135_5)⟩ (fun hHeld => ?_); refine with_tabW laws_heldLineS.tab4 laws_heldLineS.bits4 (fun HT_ HW_ => ?_)
      generalize wr.drew = w44 at HB hx135_0 hx135_1 hx135_2 hx135_3 hx135_4 hx135_5 hHeld ⊢
      refine pure_ (i := 0) (N := some 12) (v := ?_) (a' := ?_) #[true, false, false, false, false, false, false, false] rfl rfl (any_of HT_.out (by kernel_rfl)) (fun _ _ _ h => h) (Or.inl ⟨by rfl, ?_⟩) ?_ ?_
      rotate_left
      ·
       intro w'
       go_simp
       with_reducible rfl
      rotate_left
      ·
       simp only [Act.put, sA_, sB_, sC_, i64_w, i32_w]
       rfl
      refine pure_ (i := 1) (N := some 13) (v := ?_) (a' := ?_) #[true, true, false, false, false, false, false, false] rfl rfl (any_of HT_.out (by kernel_rfl)) (fun _ _ _ h => h) (Or.inl ⟨by rfl, ?_⟩) ?_ ?_
      rotate_left
      ·
       intro w'
       go_simp
       with_reducible rfl
      rotate_left
      ·
       simp only [Act.put, sA_, sB_, sC_, i64_w, i32_w]
       rfl
      refine pure_ (i := 2) (N := some 14) (v := ?_) (a' := ?_) #[true, true, true, false, false, false, false, false] rfl rfl (any_of HT_.out (by kernel_rfl)) (fun _ _ _ h => h) (Or.inl ⟨by rfl, ?_⟩) ?_ ?_
      rotate_left
      ·
       intro w'
       go_simp
       with_reducible rfl
      rotate_left
      ·
       simp only [Act.put, sA_, sB_, sC_, i64_w, i32_w]
       rfl
      refine pure_ (i := 3) (N := some 15) (v := ?_) (a' := ?_) #[true, true, true, true, false, false, false, false] rfl rfl (any_of HT_.out (by kernel_rfl)) (fun _ _ _ h => h) (Or.inl ⟨by rfl, ?_⟩) ?_ ?_
      rotate_left
      ·
       intro w'
       go_simp
       with_reducible rfl
      rotate_left
      ·
       simp only [Act.put, sA_, sB_, sC_, i64_w, i32_w]
       rfl
      refine pure_ (i := 5) (N := some 17) (v := ?_) (a' := ?_) #[true, true, true, true, false, true, false, false] rfl rfl (any_of HT_.out (by kernel_rfl)) (fun _ _ _ h => h) (Or.inl ⟨by rfl, ?_⟩) ?_ ?_
      rotate_left
      ·
       intro w'
       go_simp
       with_reducible rfl
      rotate_left
      ·
       simp only [Act.put, sA_, sB_, sC_, i64_w, i32_w]
       rfl
      refine take_ (i := 4) (N := some 16) (v := ?_) (a' := ?_) #[true, true, true, true, true, true, false, false] rfl rfl (take_ofW HT_.out HW_.out (by kernel_rfl)) (fun _ _ _ h => h) (Or.inl ⟨by rfl, ?_⟩) hHeld ?_ ?_
      rotate_left
      ·
       rintro w' ⟨s0, s1, s2, s3, s4, s5⟩
       go_simp
       with_reducible rfl
      rotate_left
      ·
       simp only [Act.put, sA_, sB_, sC_, i64_w, i32_w]
       rfl
      refine one_ (i := 6) (N := some 18) #[true, true, true, true, true, true, true, false] rfl rfl (one_of HT_.out (by kernel_rfl)) (by decide) (fun K hK => ?_)
      refine goes_ Try.func76 (by kernel_rfl) rfl #[.int .i64 x1_1] (by rfl) rfl rfl (by (try simp only [List.map_toArray, List.map_cons, List.map_nil]); first | done | rfl | (simp only [List.length_drop, List.length_take]; rfl)) ?_
      with_reducible refine (laws_markText.calls k1 x1_1 t136 _ A5.out).mono ?_
      rintro e w45 ⟨rfl, hb⟩
      refine ⟨_, rfl, ?_⟩
      have n0_ := Aside0.mk (below_step (by repeat (first | (with_reducible first | exact HB.out | apply below_alloc | apply pw_below_drewN | apply below_drew1) | exact HB.out)) hb)
      clear HB
      have HB := n0_
      clear n0_
      (try clear hb)
      (try clear hb2)
      (try clear hk)
      (try clear hi)
      refine hK.out _ _ ⟨((HB.out.cell (World.block_lt_of_cell? w _ hw135_0)).trans hw135_0), ((HB.out.cell (World.block_lt_of_cell? w _ hw135_1)).trans hw135_1), ((HB.out.cell (World.block_lt_of_cell? w _ hw135_2)).trans hw135_2), ((HB.out.cell (World.block_lt_of_cell? w _ hw135_3)).trans hw135_3), ((HB.out.cell (World.block_lt_of_cell? w _ hw135_4)).trans hw135_4), ((HB.out.cell (World.block_lt_of_cell? w _ hw135_5)).trans hw135_5)⟩ (fun hHeld => ?_)
      clear hK K
      refine norm_ (a' := ?_) ?_ ?_
      rotate_left
      ·
       show Act.put _ (some 18) _ = _
       simp only [Act.put, sA_, sB_, sC_, i64_w, i32_w]
       rfl
      refine pure_ (i := 7) (N := some 19) (v := ?_) (a' := ?_) #[true, true, true, true, true, true, true, true] rfl rfl (any_of HT_.out (by kernel_rfl)) (fun _ _ _ h => h) (Or.inl ⟨by rfl, ?_⟩) ?_ ?_
      rotate_left
      ·
       intro w'
       go_simp
       with_reducible rfl
      rotate_left
      ·
       simp only [Act.put, sA_, sB_, sC_, i64_w, i32_w]
       rfl
      refine done_ (done_of HT_.out (by kernel_rfl)) ?_
      try go_wp2
      go_ret
      exact ⟨by first | rfl | (simp [errW_none, errW_some] <;> rfl) | (simp [*, errW_none, errW_some] <;> rfl), by repeat (first | (with_reducible first | exact HB.out | apply below_alloc | apply pw_below_drewN | apply below_drew1) | exact HB.out)⟩
    ·
     rw [if_neg c4] at H
     exact absurd H (by simp)
   ·
    rw [if_neg c3] at H
    have c3b0 : decide (x5_1 < (l0.length : Int)) = false := decide_eq_false c3
    clear c3
    obtain rfl := Option.some.inj H
    go_wp2
    go_ret
    exact ⟨by first | rfl | (simp [errW_none, errW_some] <;> rfl) | (simp [*, errW_none, errW_some] <;> rfl), by repeat (first | (with_reducible first | exact HB.out | apply below_alloc | apply pw_below_drewN | apply below_drew1) | exact HB.out)⟩
end Go.Proofs.Ytenhgmddpkiliaa.PB

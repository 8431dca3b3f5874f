-- Written by a program (xprint.py) out of the translation's own print; Lean checks it.
import Derived.Test.YtenhgmddpkiliaaPBx0
import Derived.Test.YtenhgmddpkiliaaPBx2
import Derived.Test.YtenhgmddpkiliaaPBx3
import Derived.Test.YtenhgmddpkiliaaPBx11
import Derived.Test.YtenhgmddpkiliaaPBl02Ok
namespace Go.Proofs.Ytenhgmddpkiliaa.PB
open Go.RowKit Go.Proofs.YtenhgmddpkiliaaW.PrintWords Go.Proofs.YtenhgmddpkiliaaW.PrintLast Go.Proofs.YtenhgmddpkiliaaW.PrintMore
attribute [local go_sem] max2_int min2_int max_two min_two max_three min_three max_four min_four   -- for this text's walks alone
set_option linter.unusedVariables false
set_option linter.unusedSimpArgs false
/-! ### spec_BookOfTerm: function 22 -/
mutual
def spec_BookOfTerm.l0 : Nat → List (S83) → List (S45) → Int → Option ((List (S45)) × Int)
 | 0, _, _, _ => none
 | k + 1, x0, x4, x5 => if x5 < (x0.length : Int) then ((spec_l07Letter.f (IntKind.i16.wrap (x5))).bind fun t364 => (if 0 ≤ x5 then ((spec_l02One.f ((rd_T83 x0 x5).f0)).bind fun t369 => (if t369 = true then (spec_BookOfTerm.j1 k x0 x4 x5 true t364 ((rd_T83 x0 x5).f0) (⟨#[]⟩ : ByteArray) (⟨#[]⟩ : ByteArray) ((rd_T83 x0 x5).f3) ((rd_T83 x0 x5).f4)) else ((spec_l02Two.f ((rd_T83 x0 x5).f0)).bind fun t370 => (spec_BookOfTerm.j1 k x0 x4 x5 t370 t364 ((rd_T83 x0 x5).f0) (⟨#[]⟩ : ByteArray) (⟨#[]⟩ : ByteArray) ((rd_T83 x0 x5).f3) ((rd_T83 x0 x5).f4))))) else (none))) else (some (x4, 0))
def spec_BookOfTerm.j1 : Nat → List (S83) → List (S45) → Int → Bool → ByteArray → Int → ByteArray → ByteArray → Int → Int → Option ((List (S45)) × Int)
 | 0, _, _, _, _, _, _, _, _, _, _ => none
 | k + 1, x0, x4, x5, x48, x369000, x369001, x369002, x369003, x369004, x369005 => if x48 = true then (if 0 ≤ x5 then (if x5 < (x0.length : Int) then ((spec_l07Letter.f ((rd_T83 x0 x5).f1)).bind fun t372 => (spec_BookOfTerm.j2 k x0 x4 x5 x369000 x369001 t372 x369003 x369004 x369005)) else (none)) else (none)) else (spec_BookOfTerm.j2 k x0 x4 x5 x369000 x369001 x369002 x369003 x369004 x369005)
def spec_BookOfTerm.j2 : Nat → List (S83) → List (S45) → Int → ByteArray → Int → ByteArray → ByteArray → Int → Int → Option ((List (S45)) × Int)
 | 0, _, _, _, _, _, _, _, _, _ => none
 | k + 1, x0, x4, x5, x369000, x369001, x369002, x369003, x369004, x369005 => (spec_l02Two.f x369001).bind fun t373 => (if t373 = true then (if 0 ≤ x5 then (if x5 < (x0.length : Int) then ((spec_l07Letter.f ((rd_T83 x0 x5).f2)).bind fun t375 => (if x4.length < 1954687338268 then (spec_BookOfTerm.l0 k x0 (x4 ++ [(⟨x369000, x369001, x369002, t375, x369004, x369005⟩ : S45)]) (wrap64 (x5 + 1))) else (none))) else (none)) else (none)) else (if x4.length < 1954687338268 then (spec_BookOfTerm.l0 k x0 (x4 ++ [(⟨x369000, x369001, x369002, x369003, x369004, x369005⟩ : S45)]) (wrap64 (x5 + 1))) else (none)))
end
def spec_BookOfTerm.f (k : Nat) (l0 : List (S83)) : Option ((List (S45)) × Int) := (spec_l02Ok.f l0).bind fun t354 => (if t354 = true then (if (l0.length : Int) > 24 then (some ((([] : List (S45))), 3)) else (spec_BookOfTerm.l0 k l0 (([] : List (S45))) 0)) else (some ((([] : List (S45))), 1)))
theorem spec_BookOfTerm.mono_l : ∀ k, (∀ y0 y1 y2, LeO (spec_BookOfTerm.l0 k y0 y1 y2) (spec_BookOfTerm.l0 (k + 1) y0 y1 y2)) ∧ (∀ y0 y1 y2 y3 y4 y5 y6 y7 y8 y9, LeO (spec_BookOfTerm.j1 k y0 y1 y2 y3 y4 y5 y6 y7 y8 y9) (spec_BookOfTerm.j1 (k + 1) y0 y1 y2 y3 y4 y5 y6 y7 y8 y9)) ∧ (∀ y0 y1 y2 y3 y4 y5 y6 y7 y8, LeO (spec_BookOfTerm.j2 k y0 y1 y2 y3 y4 y5 y6 y7 y8) (spec_BookOfTerm.j2 (k + 1) y0 y1 y2 y3 y4 y5 y6 y7 y8))
 | 0 => ⟨fun _ _ _ r h => by simp [spec_BookOfTerm.l0] at h, fun _ _ _ _ _ _ _ _ _ _ r h => by simp [spec_BookOfTerm.j1] at h, fun _ _ _ _ _ _ _ _ _ r h => by simp [spec_BookOfTerm.j2] at h⟩
 | k + 1 => by
  obtain ⟨ih0, ih1, ih2⟩ := spec_BookOfTerm.mono_l k
  refine ⟨?_, ?_, ?_⟩
  ·
   intro y0 y1 y2
   unfold spec_BookOfTerm.l0
   repeat' first
   | (with_reducible exact ih0 _ _ _)
   | (with_reducible exact ih1 _ _ _ _ _ _ _ _ _ _)
   | (with_reducible exact ih2 _ _ _ _ _ _ _ _ _)
   | (with_reducible exact LeO.refl _)
   | (with_reducible exact LeO.none _)
   | (with_reducible refine LeO.ite ?_ ?_)
   | (with_reducible refine LeO.bind ?_ (fun _ => ?_))
   | exact ih0 _ _ _
   | exact ih1 _ _ _ _ _ _ _ _ _ _
   | exact ih2 _ _ _ _ _ _ _ _ _
   | exact LeO.none _
   | refine LeO.ite ?_ ?_
   | refine LeO.bind ?_ (fun _ => ?_)
  ·
   intro y0 y1 y2 y3 y4 y5 y6 y7 y8 y9
   unfold spec_BookOfTerm.j1
   repeat' first
   | (with_reducible exact ih0 _ _ _)
   | (with_reducible exact ih1 _ _ _ _ _ _ _ _ _ _)
   | (with_reducible exact ih2 _ _ _ _ _ _ _ _ _)
   | (with_reducible exact LeO.refl _)
   | (with_reducible exact LeO.none _)
   | (with_reducible refine LeO.ite ?_ ?_)
   | (with_reducible refine LeO.bind ?_ (fun _ => ?_))
   | exact ih0 _ _ _
   | exact ih1 _ _ _ _ _ _ _ _ _ _
   | exact ih2 _ _ _ _ _ _ _ _ _
   | exact LeO.none _
   | refine LeO.ite ?_ ?_
   | refine LeO.bind ?_ (fun _ => ?_)
  ·
   intro y0 y1 y2 y3 y4 y5 y6 y7 y8
   unfold spec_BookOfTerm.j2
   repeat' first
   | (with_reducible exact ih0 _ _ _)
   | (with_reducible exact ih1 _ _ _ _ _ _ _ _ _ _)
   | (with_reducible exact ih2 _ _ _ _ _ _ _ _ _)
   | (with_reducible exact LeO.refl _)
   | (with_reducible exact LeO.none _)
   | (with_reducible refine LeO.ite ?_ ?_)
   | (with_reducible refine LeO.bind ?_ (fun _ => ?_))
   | exact ih0 _ _ _
   | exact ih1 _ _ _ _ _ _ _ _ _ _
   | exact ih2 _ _ _ _ _ _ _ _ _
   | exact LeO.none _
   | refine LeO.ite ?_ ?_
   | refine LeO.bind ?_ (fun _ => ?_)
theorem spec_BookOfTerm.mono : ∀ a0 k, LeO (spec_BookOfTerm.f k a0) (spec_BookOfTerm.f (k + 1) a0) := by
 intro a0 k
 obtain ⟨ih0, ih1, ih2⟩ := spec_BookOfTerm.mono_l k
 unfold spec_BookOfTerm.f
 repeat' first
   | (with_reducible exact ih0 _ _ _)
   | (with_reducible exact ih1 _ _ _ _ _ _ _ _ _ _)
   | (with_reducible exact ih2 _ _ _ _ _ _ _ _ _)
   | (with_reducible exact LeO.refl _)
   | (with_reducible exact LeO.none _)
   | (with_reducible refine LeO.ite ?_ ?_)
   | (with_reducible refine LeO.bind ?_ (fun _ => ?_))
   | exact ih0 _ _ _
   | exact ih1 _ _ _ _ _ _ _ _ _ _
   | exact ih2 _ _ _ _ _ _ _ _ _
   | exact LeO.none _
   | refine LeO.ite ?_ ?_
   | refine LeO.bind ?_ (fun _ => ?_)
def spec_BookOfTerm.T9 : Bool × List (List Nat × List Nat) := (true, [([], []), ([0], [0]), ([1], [1]), ([], []), ([], []), ([3, 4], [3, 4]), ([5], [5]), ([6], [6]), ([], []), ([], []), ([8, 9], [8, 9]), ([10], [10]), ([11], [11]), ([], []), ([], []), ([13, 14], [13, 14]), ([15], [15]), ([16], [16]), ([2, 7, 12, 17], [2, 7, 12, 17]), ([], []), ([19, 18, 2, 0, 1, 2, 3, 4, 5, 6, 7, 8, 9, 10, 11, 12, 13, 14, 15, 16, 17, 18, 19], [18, 19])])
def spec_BookOfTerm.B9 : List Nat := [0, 1, 3, 0, 0, 24, 56, 120, 0, 0, 768, 1792, 3840, 0, 0, 24576, 57344, 122880, 262143, 0, 1048575]
theorem spec_BookOfTerm.tab9 : rtab .any (opsOf Try.f22 9) = spec_BookOfTerm.T9 := by kernel_rfl
theorem spec_BookOfTerm.bits9 : waitsOk spec_BookOfTerm.T9.2 spec_BookOfTerm.B9 = true := by kernel_rfl
set_option maxHeartbeats 8000000 in
set_option maxRecDepth 100000 in
theorem spec_BookOfTerm.calls (k : Nat) (A0 : Option Addr) (c0 : Nat) (l0 : List (S83)) (r1 : List (S45)) (r2 : Int) (w : World) (hr0 : Kd.C k83 w A0 l0.length l0) (hc0 : l0.length ≤ c0) (h : spec_BookOfTerm.f k l0 = some (r1, r2)) :
  Calls Try.prog 22 #[.slice A0 l0.length c0] w fun e w' => ∃ v0_ : Value, e = .returned (.tuple #[v0_, .int .i64 r2]) ∧ Kd.R k45 45 w' w.heap.size (fun _ => True) v0_ r1 ∧ Below w.heap.size w w' := by
 have hu45 := Try.underlying45
 have HR0 := Aside0.mk hr0
 have HC0 := Aside0.mk hc0
 clear hr0 hc0
 have HB := Aside0.mk (Below.refl w.heap.size w)
 have H : ((spec_l02Ok.f l0).bind fun t354 => (if t354 = true then (if (l0.length : Int) > 24 then (some ((([] : List (S45))), 3)) else (spec_BookOfTerm.l0 k l0 (([] : List (S45))) 0)) else (some ((([] : List (S45))), 1)))) = some (r1, r2) := h
 clear h
 replace H := Option.bind_eq_some_iff.mp H
 obtain ⟨t354, A20, H⟩ := H
 replace H : (if t354 = true then (if (l0.length : Int) > 24 then (some ((([] : List (S45))), 3)) else (spec_BookOfTerm.l0 k l0 (([] : List (S45))) 0)) else (some ((([] : List (S45))), 1))) = some (r1, r2) := H
 have A2 := Aside0.mk A20
 clear A20
 by_cases c3 : t354 = true
 ·
  subst c3
  have H1 : (if (l0.length : Int) > 24 then (some ((([] : List (S45))), 3)) else (spec_BookOfTerm.l0 k l0 (([] : List (S45))) 0)) = some (r1, r2) := by rw [if_pos rfl] at H; exact H
  clear H
  have H := H1
  clear H1
  by_cases c4 : (l0.length : Int) > 24
  ·
   rw [if_pos c4] at H
   have c4b0 : decide (24 < (l0.length : Int)) = true := decide_eq_true c4
   have c4b1 : decide (24 < l0.length) = true := decide_eq_true (by omega)
   clear c4
   obtain ⟨y358, hy358⟩ : ∃ y_ : List (S45), y_ = (([] : List (S45))) := ⟨_, rfl⟩
   replace H : (some (y358, 3)) = some (r1, r2) := by first | (rw [hy358]; with_reducible exact H) | (have H2_ := (Option.bind_some _ _).symm.trans H; rw [hy358]; with_reducible exact H2_) | (have H2_ := (Option.bind_some _ _).symm.trans H; with_reducible exact H2_) | with_reducible exact H | (rw [hy358]; exact H) | exact H
   have Ny358 := Aside0.mk hy358
   clear hy358
   simp only [Option.some.injEq, Prod.mk.injEq] at H
   obtain ⟨rfl, rfl⟩ := H
   go_enter Try.func22, Try.ntmps22
   go_wp2_with (first | ((with_reducible refine gate_callee (f := 67) rfl ?_); refine goesL_ (some 8) rfl rfl Try.func67 (by kernel_rfl) rfl #[.slice A0 l0.length c0] rfl (by (try simp only [List.map_toArray, List.map_cons, List.map_nil]); first | done | rfl | (simp only [List.length_drop, List.length_take]; rfl)) ?_; (with_reducible refine (spec_l02Ok.calls _ _ l0 true _ ?side1 ?side2 A2.out).mono ?_); (case side1 => repeat (first | exact HR0.out | (with_reducible refine Kd.C_alloc ?_ _) | (with_reducible refine Kd.C_drewN ?_ _) | (with_reducible refine Kd.C_drew ?_))); (case side2 => exact HC0.out); rintro e w' ⟨rfl, ⟨nd, rfl⟩⟩; refine ⟨_, rfl, ?_⟩) | ((with_reducible refine gate_dst (N := 14) rfl ?_); refine Kd.R_lit k45 _ 45 ?hg (N := 14) ?hd (xs := ([] : List (S45))) (inner := []) (ok := fun _ => True) (okp := fun _ => True) ?hr ?hp (fun _ hk => hk) trivial (Below.refl _ _) (Nat.le_refl _) (by simp) ?_; (case hd => rfl); (case hg => rfl); (case hr => first | (go_simp; done) | (go_simp; rfl)); (case hp => exact (Reps.none _ _)); intro v359 w5 ho6 hb hg_ hnew_; clear hg_ hnew_; (first | rw [← Ny358.out] at ho6 | (simp only [Int.reduceToNat] at ho6; rw [← Ny358.out] at ho6)); have n0_ := Aside0.mk (Kd.R_lower ho6 (below_size (by repeat (first | (with_reducible first | exact HB.out | apply below_alloc | apply pw_below_drewN | apply below_drew1) | exact HB.out)))); have n1_ := Aside0.mk (below_step (by repeat (first | (with_reducible first | exact HB.out | apply below_alloc | apply pw_below_drewN | apply below_drew1) | exact HB.out)) hb); clear HB; have HO360 := n0_; have HB := n1_; clear n0_ n1_; clear hb ho6))
   go_ret2
   exact ⟨_, by first | rfl | (simp [errW_none, errW_some] <;> rfl) | (simp [*, errW_none, errW_some] <;> rfl), by (with_reducible repeat (first | apply Kd.R_alloc | apply Kd.R_drewN | apply Kd.R_drew)); exact HO360.out, by repeat (first | (with_reducible first | exact HB.out | apply below_alloc | apply pw_below_drewN | apply below_drew1) | exact HB.out)⟩
  ·
   rw [if_neg c4] at H
   have c4b0 : decide (24 < (l0.length : Int)) = false := decide_eq_false c4
   have c4b1 : decide (24 < l0.length) = false := decide_eq_false (by omega)
   clear c4
   obtain ⟨y361, hy361⟩ : ∃ y_ : List (S45), y_ = (([] : List (S45))) := ⟨_, rfl⟩
   replace H : (spec_BookOfTerm.l0 k l0 y361 0) = some (r1, r2) := by first | (rw [hy361]; with_reducible exact H) | (have H2_ := (Option.bind_some _ _).symm.trans H; rw [hy361]; with_reducible exact H2_) | (have H2_ := (Option.bind_some _ _).symm.trans H; with_reducible exact H2_) | with_reducible exact H | (rw [hy361]; exact H) | exact H
   have Ny361 := Aside0.mk hy361
   clear hy361
   have H' := Aside0.mk H
   clear H
   go_enter Try.func22, Try.ntmps22
   go_wp2_with (first | ((with_reducible refine gate_callee (f := 67) rfl ?_); refine goesL_ (some 8) rfl rfl Try.func67 (by kernel_rfl) rfl #[.slice A0 l0.length c0] rfl (by (try simp only [List.map_toArray, List.map_cons, List.map_nil]); first | done | rfl | (simp only [List.length_drop, List.length_take]; rfl)) ?_; (with_reducible refine (spec_l02Ok.calls _ _ l0 true _ ?side1 ?side2 A2.out).mono ?_); (case side1 => repeat (first | exact HR0.out | (with_reducible refine Kd.C_alloc ?_ _) | (with_reducible refine Kd.C_drewN ?_ _) | (with_reducible refine Kd.C_drew ?_))); (case side2 => exact HC0.out); rintro e w' ⟨rfl, ⟨nd, rfl⟩⟩; refine ⟨_, rfl, ?_⟩) | ((with_reducible refine gate_dst (N := 15) rfl ?_); refine Kd.R_lit k45 _ 45 ?hg (N := 15) ?hd (xs := ([] : List (S45))) (inner := []) (ok := fun _ => True) (okp := fun _ => True) ?hr ?hp (fun _ hk => hk) trivial (Below.refl _ _) (Nat.le_refl _) (by simp) ?_; (case hd => rfl); (case hg => rfl); (case hr => first | (go_simp; done) | (go_simp; rfl)); (case hp => exact (Reps.none _ _)); intro v362 w7 ho8 hb hg_ hnew_; clear hg_ hnew_; (first | rw [← Ny361.out] at ho8 | (simp only [Int.reduceToNat] at ho8; rw [← Ny361.out] at ho8)); have n0_ := Aside0.mk (Kd.R_lower ho8 (below_size (by repeat (first | (with_reducible first | exact HB.out | apply below_alloc | apply pw_below_drewN | apply below_drew1) | exact HB.out)))); have n1_ := Aside0.mk (below_step (by repeat (first | (with_reducible first | exact HB.out | apply below_alloc | apply pw_below_drewN | apply below_drew1) | exact HB.out)) hb); clear HB; have HO363 := n0_; have HB := n1_; clear n0_ n1_; clear hb ho8))
   go_loopg [4, 5] k (fun kq v4 v5 w' => ∃ (x4_1 : List (S45)) (x5_1 : Int), v5 = .int .i64 x5_1 ∧ Aside0 (spec_BookOfTerm.l0 kq l0 x4_1 x5_1 = some (r1, r2)) ∧ Aside0 (kq ≤ k) ∧ Aside0 (Kd.R k45 45 w' w.heap.size (fun _ => True) v4 x4_1) ∧ Aside0 (Below w.heap.size w w'))
   case atStart => exact ⟨(y361), (0), (by first | rfl | (simp; done) | (simp [*]; done)), H', ⟨Nat.le_refl _⟩, ⟨by (with_reducible repeat (first | apply Kd.R_alloc | apply Kd.R_drewN | apply Kd.R_drew)); exact HO363.out⟩, ⟨by repeat (first | (with_reducible first | exact HB.out | apply below_alloc | apply pw_below_drewN | apply below_drew1) | exact HB.out)⟩⟩
   case round =>
    clear H'
    try clear c2
    try clear p2
    try clear c3
    try clear c4
    try clear c4b0
    try clear c4b1
    try clear c6
    obtain ⟨x4_1, x5_1, rfl, HA, HK1, HO_4, HB⟩ := hrel
    cases gk with
    | zero => exact absurd HA.out (by simp [spec_BookOfTerm.l0])
    | succ k1 =>
     have H := HA.out
     clear HA
     simp only [spec_BookOfTerm.l0] at H
     by_cases c9 : x5_1 < (l0.length : Int)
     ·
      rw [if_pos c9] at H
      have c9b0 : decide (x5_1 < (l0.length : Int)) = true := decide_eq_true c9
      clear c9
      replace H := Option.bind_eq_some_iff.mp H
      obtain ⟨t364, A100, H⟩ := H
      replace H : (if 0 ≤ x5_1 then ((spec_l02One.f ((rd_T83 l0 x5_1).f0)).bind fun t369 => (if t369 = true then (spec_BookOfTerm.j1 k1 l0 x4_1 x5_1 true t364 ((rd_T83 l0 x5_1).f0) (⟨#[]⟩ : ByteArray) (⟨#[]⟩ : ByteArray) ((rd_T83 l0 x5_1).f3) ((rd_T83 l0 x5_1).f4)) else ((spec_l02Two.f ((rd_T83 l0 x5_1).f0)).bind fun t370 => (spec_BookOfTerm.j1 k1 l0 x4_1 x5_1 t370 t364 ((rd_T83 l0 x5_1).f0) (⟨#[]⟩ : ByteArray) (⟨#[]⟩ : ByteArray) ((rd_T83 l0 x5_1).f3) ((rd_T83 l0 x5_1).f4))))) else (none)) = some (r1, r2) := H
      have A10 := Aside0.mk A100
      clear A100
      by_cases c11 : 0 ≤ x5_1
      ·
       rw [if_pos c11] at H
       have c11b0 : decide (0 ≤ x5_1) = true := decide_eq_true c11
       clear c11
       have HC12 := Aside0.mk H
       clear H
       try go_wp2
       have n0_ := Aside0.mk (Kd.R_drew HO_4.out)
       have n1_ := Aside0.mk (below_drew1 HB.out)
       clear HO_4
       clear HB
       have HO_4 := n0_
       have HB := n1_
       clear n0_ n1_
       have p365 : 0 ≤ (x5_1 : Int) := of_decide_eq_true (by first | (with_reducible assumption) | assumption)
       have q365 : x5_1 < (l0.length : Int) := of_decide_eq_true (by first | (with_reducible assumption) | assumption)
       obtain ⟨ad365, e365, hx365_0, hx365_1, hx365_2, hx365_3, hx365_4⟩ := at_T83 HR0.out x5_1 p365 q365
       have hw365_4 := hx365_4
       have hw365_3 := hx365_3
       have hw365_2 := hx365_2
       have hw365_1 := hx365_1
       have hw365_0 := hx365_0
       cases e365
       replace hx365_0 := (HB.out.cell (World.block_lt_of_cell? w _ hx365_0)).trans hx365_0
       replace hx365_1 := (HB.out.cell (World.block_lt_of_cell? w _ hx365_1)).trans hx365_1
       replace hx365_2 := (HB.out.cell (World.block_lt_of_cell? w _ hx365_2)).trans hx365_2
       replace hx365_3 := (HB.out.cell (World.block_lt_of_cell? w _ hx365_3)).trans hx365_3
       replace hx365_4 := (HB.out.cell (World.block_lt_of_cell? w _ hx365_4)).trans hx365_4
       replace p365 := eq_true p365
       replace q365 := eq_true q365
       have p366 : 0 ≤ (x5_1 : Int) := of_decide_eq_true (by first | (with_reducible assumption) | assumption)
       have q366 : x5_1 < (l0.length : Int) := of_decide_eq_true (by first | (with_reducible assumption) | assumption)
       obtain ⟨ad366, e366, hx366_0, hx366_1, hx366_2, hx366_3, hx366_4⟩ := at_T83 HR0.out x5_1 p366 q366
       have hw366_4 := hx366_4
       have hw366_3 := hx366_3
       have hw366_2 := hx366_2
       have hw366_1 := hx366_1
       have hw366_0 := hx366_0
       obtain rfl : ad365 = ad366 := (by injection e366)
       replace hx366_0 := (HB.out.cell (World.block_lt_of_cell? w _ hx366_0)).trans hx366_0
       replace hx366_1 := (HB.out.cell (World.block_lt_of_cell? w _ hx366_1)).trans hx366_1
       replace hx366_2 := (HB.out.cell (World.block_lt_of_cell? w _ hx366_2)).trans hx366_2
       replace hx366_3 := (HB.out.cell (World.block_lt_of_cell? w _ hx366_3)).trans hx366_3
       replace hx366_4 := (HB.out.cell (World.block_lt_of_cell? w _ hx366_4)).trans hx366_4
       replace p366 := eq_true p366
       replace q366 := eq_true q366
       have p367 : 0 ≤ (x5_1 : Int) := of_decide_eq_true (by first | (with_reducible assumption) | assumption)
       have q367 : x5_1 < (l0.length : Int) := of_decide_eq_true (by first | (with_reducible assumption) | assumption)
       obtain ⟨ad367, e367, hx367_0, hx367_1, hx367_2, hx367_3, hx367_4⟩ := at_T83 HR0.out x5_1 p367 q367
       have hw367_4 := hx367_4
       have hw367_3 := hx367_3
       have hw367_2 := hx367_2
       have hw367_1 := hx367_1
       have hw367_0 := hx367_0
       obtain rfl : ad365 = ad367 := (by injection e367)
       replace hx367_0 := (HB.out.cell (World.block_lt_of_cell? w _ hx367_0)).trans hx367_0
       replace hx367_1 := (HB.out.cell (World.block_lt_of_cell? w _ hx367_1)).trans hx367_1
       replace hx367_2 := (HB.out.cell (World.block_lt_of_cell? w _ hx367_2)).trans hx367_2
       replace hx367_3 := (HB.out.cell (World.block_lt_of_cell? w _ hx367_3)).trans hx367_3
       replace hx367_4 := (HB.out.cell (World.block_lt_of_cell? w _ hx367_4)).trans hx367_4
       replace p367 := eq_true p367
       replace q367 := eq_true q367
       refine start_ (n := 21) (S := fun w' => w'.cell? (ad365.add ((x5_1).toNat * 5)) = some (.int .i8 ((rd_T83 l0 x5_1).f0)) ∧ w'.cell? ⟨(ad365.add ((x5_1).toNat * 5)).block, (ad365.add ((x5_1).toNat * 5)).off + 1, none⟩ = some (.int .i16 ((rd_T83 l0 x5_1).f1)) ∧ w'.cell? ⟨(ad365.add ((x5_1).toNat * 5)).block, (ad365.add ((x5_1).toNat * 5)).off + 2, none⟩ = some (.int .i16 ((rd_T83 l0 x5_1).f2)) ∧ w'.cell? ⟨(ad365.add ((x5_1).toNat * 5)).block, (ad365.add ((x5_1).toNat * 5)).off + 3, none⟩ = some (.int .i64 ((rd_T83 l0 x5_1).f3)) ∧ w'.cell? ⟨(ad365.add ((x5_1).toNat * 5)).block, (ad365.add ((x5_1).toNat * 5)).off + 4, none⟩ = some (.int .i64 ((rd_T83 l0 x5_1).f4)) ∧ w'.cell? (ad365.add ((x5_1).toNat * 5)) = some (.int .i8 ((rd_T83 l0 x5_1).f0)) ∧ w'.cell? ⟨(ad365.add ((x5_1).toNat * 5)).block, (ad365.add ((x5_1).toNat * 5)).off + 1, none⟩ = some (.int .i16 ((rd_T83 l0 x5_1).f1)) ∧ w'.cell? ⟨(ad365.add ((x5_1).toNat * 5)).block, (ad365.add ((x5_1).toNat * 5)).off + 2, none⟩ = some (.int .i16 ((rd_T83 l0 x5_1).f2)) ∧ w'.cell? ⟨(ad365.add ((x5_1).toNat * 5)).block, (ad365.add ((x5_1).toNat * 5)).off + 3, none⟩ = some (.int .i64 ((rd_T83 l0 x5_1).f3)) ∧ w'.cell? ⟨(ad365.add ((x5_1).toNat * 5)).block, (ad365.add ((x5_1).toNat * 5)).off + 4, none⟩ = some (.int .i64 ((rd_T83 l0 x5_1).f4)) ∧ w'.cell? (ad365.add ((x5_1).toNat * 5)) = some (.int .i8 ((rd_T83 l0 x5_1).f0)) ∧ w'.cell? ⟨(ad365.add ((x5_1).toNat * 5)).block, (ad365.add ((x5_1).toNat * 5)).off + 1, none⟩ = some (.int .i16 ((rd_T83 l0 x5_1).f1)) ∧ w'.cell? ⟨(ad365.add ((x5_1).toNat * 5)).block, (ad365.add ((x5_1).toNat * 5)).off + 2, none⟩ = some (.int .i16 ((rd_T83 l0 x5_1).f2)) ∧ w'.cell? ⟨(ad365.add ((x5_1).toNat * 5)).block, (ad365.add ((x5_1).toNat * 5)).off + 3, none⟩ = some (.int .i64 ((rd_T83 l0 x5_1).f3)) ∧ w'.cell? ⟨(ad365.add ((x5_1).toNat * 5)).block, (ad365.add ((x5_1).toNat * 5)).off + 4, none⟩ = some (.int .i64 ((rd_T83 l0 x5_1).f4))) (ds := []) #[false, false, false, false, false, false, false, false, false, false, false, false, false, false, false, false, false, false, false, false, false] (by kernel_rfl) rfl rfl ⟨((HB.out.cell (World.block_lt_of_cell? w _ hw365_0)).trans hw365_0), ((HB.out.cell (World.block_lt_of_cell? w _ hw365_1)).trans hw365_1), ((HB.out.cell (World.block_lt_of_cell? w _ hw365_2)).trans hw365_2), ((HB.out.cell (World.block_lt_of_cell? w _ hw365_3)).trans hw365_3), ((HB.out.cell (World.block_lt_of_cell? w _ hw365_4)).trans hw365_4), ((HB.out.cell (World.block_lt_of_cell? w _ hw366_0)).trans hw366_0), ((HB.out.cell (World.block_lt_of_cell? w _ hw366_1)).trans hw366_1), ((HB.out.cell (World.block_lt_of_cell? w _ hw366_2)).trans hw366_2), ((HB.out.cell (World.block_lt_of_cell? w _ hw366_3)).trans hw366_3), ((HB.out.cell (World.block_lt_of_cell? w _ hw366_4)).trans hw366_4), ((HB.out.cell (World.block_lt_of_cell? w _ hw367_0)).trans hw367_0), ((HB.out.cell (World.block_lt_of_cell? w _ hw367_1)).trans hw367_1), ((HB.out.cell (World.block_lt_of_cell? w _ hw367_2)).trans hw367_2), ((HB.out.cell (World.block_lt_of_cell? w _ hw367_3)).trans hw367_3), ((HB.out.cell (World.block_lt_of_cell? w _ hw367_4)).trans hw367_4)⟩ (fun hHeld => ?_); refine with_tabW spec_BookOfTerm.tab9 spec_BookOfTerm.bits9 (fun HT_ HW_ => ?_)
       generalize wr.drew = w13 at HO_4 HB hx365_0 hx365_1 hx365_2 hx365_3 hx365_4 hx366_0 hx366_1 hx366_2 hx366_3 hx366_4 hx367_0 hx367_1 hx367_2 hx367_3 hx367_4 hHeld ⊢
       refine pure_ (i := 0) (N := some 22) (v := ?_) (a' := ?_) #[true, false, false, false, false, false, false, false, false, false, false, false, false, false, false, false, false, false, false, false, false] rfl rfl (any_of HT_.out (by kernel_rfl)) (fun _ _ _ h => h) (Or.inl ⟨by rfl, ?_⟩) ?_ ?_
       rotate_left
       ·
        intro w'
        go_simp
        with_reducible rfl
       rotate_left
       ·
        simp only [Act.put, List.setIfInBounds_toArray, List.set_cons_zero, List.set_cons_succ, i64_w, i32_w]
        rfl
       refine pure_ (i := 1) (N := some 23) (v := ?_) (a' := ?_) #[true, true, false, false, false, false, false, false, false, false, false, false, false, false, false, false, false, false, false, false, false] rfl rfl (any_of HT_.out (by kernel_rfl)) (fun _ _ _ h => h) (Or.inl ⟨by rfl, ?_⟩) ?_ ?_
       rotate_left
       ·
        intro w'
        go_simp
        with_reducible rfl
       rotate_left
       ·
        simp only [Act.put, List.setIfInBounds_toArray, List.set_cons_zero, List.set_cons_succ, i64_w, i32_w]
        rfl
       refine pure_ (i := 3) (N := some 25) (v := ?_) (a' := ?_) #[true, true, false, true, false, false, false, false, false, false, false, false, false, false, false, false, false, false, false, false, false] rfl rfl (any_of HT_.out (by kernel_rfl)) (fun _ _ _ h => h) (Or.inl ⟨by rfl, ?_⟩) ?_ ?_
       rotate_left
       ·
        intro w'
        go_simp
        with_reducible rfl
       rotate_left
       ·
        simp only [Act.put, List.setIfInBounds_toArray, List.set_cons_zero, List.set_cons_succ, i64_w, i32_w]
        rfl
       refine pure_ (i := 4) (N := some 26) (v := ?_) (a' := ?_) #[true, true, false, true, true, false, false, false, false, false, false, false, false, false, false, false, false, false, false, false, false] rfl rfl (any_of HT_.out (by kernel_rfl)) (fun _ _ _ h => h) (Or.inl ⟨by rfl, ?_⟩) ?_ ?_
       rotate_left
       ·
        intro w'
        go_simp
        with_reducible rfl
       rotate_left
       ·
        simp only [Act.put, List.setIfInBounds_toArray, List.set_cons_zero, List.set_cons_succ, i64_w, i32_w]
        rfl
       refine pure_ (i := 5) (N := some 27) (v := ?_) (a' := ?_) #[true, true, false, true, true, true, false, false, false, false, false, false, false, false, false, false, false, false, false, false, false] rfl rfl (any_of HT_.out (by kernel_rfl)) (fun _ _ _ h => h) (Or.inl ⟨by rfl, ?_⟩) ?_ ?_
       rotate_left
       ·
        intro w'
        go_simp
        with_reducible rfl
       rotate_left
       ·
        simp only [Act.put, List.setIfInBounds_toArray, List.set_cons_zero, List.set_cons_succ, i64_w, i32_w]
        rfl
       refine pure_ (i := 6) (N := some 28) (v := ?_) (a' := ?_) #[true, true, false, true, true, true, true, false, false, false, false, false, false, false, false, false, false, false, false, false, false] rfl rfl (any_of HT_.out (by kernel_rfl)) (fun _ _ _ h => h) (Or.inl ⟨by rfl, ?_⟩) ?_ ?_
       rotate_left
       ·
        intro w'
        go_simp
        with_reducible rfl
       rotate_left
       ·
        simp only [Act.put, List.setIfInBounds_toArray, List.set_cons_zero, List.set_cons_succ, i64_w, i32_w]
        rfl
       refine pure_ (i := 8) (N := some 30) (v := ?_) (a' := ?_) #[true, true, false, true, true, true, true, false, true, false, false, false, false, false, false, false, false, false, false, false, false] rfl rfl (any_of HT_.out (by kernel_rfl)) (fun _ _ _ h => h) (Or.inl ⟨by rfl, ?_⟩) ?_ ?_
       rotate_left
       ·
        intro w'
        go_simp
        with_reducible rfl
       rotate_left
       ·
        simp only [Act.put, List.setIfInBounds_toArray, List.set_cons_zero, List.set_cons_succ, i64_w, i32_w]
        rfl
       refine pure_ (i := 9) (N := some 31) (v := ?_) (a' := ?_) #[true, true, false, true, true, true, true, false, true, true, false, false, false, false, false, false, false, false, false, false, false] rfl rfl (any_of HT_.out (by kernel_rfl)) (fun _ _ _ h => h) (Or.inl ⟨by rfl, ?_⟩) ?_ ?_
       rotate_left
       ·
        intro w'
        go_simp
        with_reducible rfl
       rotate_left
       ·
        simp only [Act.put, List.setIfInBounds_toArray, List.set_cons_zero, List.set_cons_succ, i64_w, i32_w]
        rfl
       refine pure_ (i := 10) (N := some 32) (v := ?_) (a' := ?_) #[true, true, false, true, true, true, true, false, true, true, true, false, false, false, false, false, false, false, false, false, false] rfl rfl (any_of HT_.out (by kernel_rfl)) (fun _ _ _ h => h) (Or.inl ⟨by rfl, ?_⟩) ?_ ?_
       rotate_left
       ·
        intro w'
        go_simp
        with_reducible rfl
       rotate_left
       ·
        simp only [Act.put, List.setIfInBounds_toArray, List.set_cons_zero, List.set_cons_succ, i64_w, i32_w]
        rfl
       refine pure_ (i := 11) (N := some 33) (v := ?_) (a' := ?_) #[true, true, false, true, true, true, true, false, true, true, true, true, false, false, false, false, false, false, false, false, false] rfl rfl (any_of HT_.out (by kernel_rfl)) (fun _ _ _ h => h) (Or.inl ⟨by rfl, ?_⟩) ?_ ?_
       rotate_left
       ·
        intro w'
        go_simp
        with_reducible rfl
       rotate_left
       ·
        simp only [Act.put, List.setIfInBounds_toArray, List.set_cons_zero, List.set_cons_succ, i64_w, i32_w]
        rfl
       refine pure_ (i := 13) (N := some 35) (v := ?_) (a' := ?_) #[true, true, false, true, true, true, true, false, true, true, true, true, false, true, false, false, false, false, false, false, false] rfl rfl (any_of HT_.out (by kernel_rfl)) (fun _ _ _ h => h) (Or.inl ⟨by rfl, ?_⟩) ?_ ?_
       rotate_left
       ·
        intro w'
        go_simp
        with_reducible rfl
       rotate_left
       ·
        simp only [Act.put, List.setIfInBounds_toArray, List.set_cons_zero, List.set_cons_succ, i64_w, i32_w]
        rfl
       refine pure_ (i := 14) (N := some 36) (v := ?_) (a' := ?_) #[true, true, false, true, true, true, true, false, true, true, true, true, false, true, true, false, false, false, false, false, false] rfl rfl (any_of HT_.out (by kernel_rfl)) (fun _ _ _ h => h) (Or.inl ⟨by rfl, ?_⟩) ?_ ?_
       rotate_left
       ·
        intro w'
        go_simp
        with_reducible rfl
       rotate_left
       ·
        simp only [Act.put, List.setIfInBounds_toArray, List.set_cons_zero, List.set_cons_succ, i64_w, i32_w]
        rfl
       refine pure_ (i := 15) (N := some 37) (v := ?_) (a' := ?_) #[true, true, false, true, true, true, true, false, true, true, true, true, false, true, true, true, false, false, false, false, false] rfl rfl (any_of HT_.out (by kernel_rfl)) (fun _ _ _ h => h) (Or.inl ⟨by rfl, ?_⟩) ?_ ?_
       rotate_left
       ·
        intro w'
        go_simp
        with_reducible rfl
       rotate_left
       ·
        simp only [Act.put, List.setIfInBounds_toArray, List.set_cons_zero, List.set_cons_succ, i64_w, i32_w]
        rfl
       refine pure_ (i := 16) (N := some 38) (v := ?_) (a' := ?_) #[true, true, false, true, true, true, true, false, true, true, true, true, false, true, true, true, true, false, false, false, false] rfl rfl (any_of HT_.out (by kernel_rfl)) (fun _ _ _ h => h) (Or.inl ⟨by rfl, ?_⟩) ?_ ?_
       rotate_left
       ·
        intro w'
        go_simp
        with_reducible rfl
       rotate_left
       ·
        simp only [Act.put, List.setIfInBounds_toArray, List.set_cons_zero, List.set_cons_succ, i64_w, i32_w]
        rfl
       refine take_ (i := 7) (N := some 29) (v := ?_) (a' := ?_) #[true, true, false, true, true, true, true, true, true, true, true, true, false, true, true, true, true, false, false, false, false] rfl rfl (take_ofW HT_.out HW_.out (by kernel_rfl)) (fun _ _ _ h => h) (Or.inl ⟨by rfl, ?_⟩) hHeld ?_ ?_
       rotate_left
       ·
        rintro w' ⟨s0, s1, s2, s3, s4, s5, s6, s7, s8, s9, s10, s11, s12, s13, s14⟩
        go_simp
        with_reducible rfl
       rotate_left
       ·
        simp only [Act.put, List.setIfInBounds_toArray, List.set_cons_zero, List.set_cons_succ, i64_w, i32_w]
        rfl
       refine take_ (i := 12) (N := some 34) (v := ?_) (a' := ?_) #[true, true, false, true, true, true, true, true, true, true, true, true, true, true, true, true, true, false, false, false, false] rfl rfl (take_ofW HT_.out HW_.out (by kernel_rfl)) (fun _ _ _ h => h) (Or.inl ⟨by rfl, ?_⟩) hHeld ?_ ?_
       rotate_left
       ·
        rintro w' ⟨s0, s1, s2, s3, s4, s5, s6, s7, s8, s9, s10, s11, s12, s13, s14⟩
        go_simp
        with_reducible rfl
       rotate_left
       ·
        simp only [Act.put, List.setIfInBounds_toArray, List.set_cons_zero, List.set_cons_succ, i64_w, i32_w]
        rfl
       refine take_ (i := 17) (N := some 39) (v := ?_) (a' := ?_) #[true, true, false, true, true, true, true, true, true, true, true, true, true, true, true, true, true, true, false, false, false] rfl rfl (take_ofW HT_.out HW_.out (by kernel_rfl)) (fun _ _ _ h => h) (Or.inl ⟨by rfl, ?_⟩) hHeld ?_ ?_
       rotate_left
       ·
        rintro w' ⟨s0, s1, s2, s3, s4, s5, s6, s7, s8, s9, s10, s11, s12, s13, s14⟩
        go_simp
        with_reducible rfl
       rotate_left
       ·
        simp only [Act.put, List.setIfInBounds_toArray, List.set_cons_zero, List.set_cons_succ, i64_w, i32_w]
        rfl
       refine join_ (σ := Nat) 1 #[true, true, true, true, true, true, true, true, true, true, true, true, true, true, true, true, true, true, true, true, false] (fun s_ => [(24, .string t364), (6, .pointer (some ⟨s_, 0, none⟩)), (40, .agg #[.string t364, .int .i8 ((rd_T83 l0 x5_1).f0), .string (⟨#[]⟩ : ByteArray), .string (⟨#[]⟩ : ByteArray), .int .i64 ((rd_T83 l0 x5_1).f3), .int .i64 ((rd_T83 l0 x5_1).f4)])]) (fun s_ w' => (w'.cell? (ad365.add ((x5_1).toNat * 5)) = some (.int .i8 ((rd_T83 l0 x5_1).f0)) ∧ w'.cell? ⟨(ad365.add ((x5_1).toNat * 5)).block, (ad365.add ((x5_1).toNat * 5)).off + 1, none⟩ = some (.int .i16 ((rd_T83 l0 x5_1).f1)) ∧ w'.cell? ⟨(ad365.add ((x5_1).toNat * 5)).block, (ad365.add ((x5_1).toNat * 5)).off + 2, none⟩ = some (.int .i16 ((rd_T83 l0 x5_1).f2)) ∧ w'.cell? ⟨(ad365.add ((x5_1).toNat * 5)).block, (ad365.add ((x5_1).toNat * 5)).off + 3, none⟩ = some (.int .i64 ((rd_T83 l0 x5_1).f3)) ∧ w'.cell? ⟨(ad365.add ((x5_1).toNat * 5)).block, (ad365.add ((x5_1).toNat * 5)).off + 4, none⟩ = some (.int .i64 ((rd_T83 l0 x5_1).f4)) ∧ w'.cell? (ad365.add ((x5_1).toNat * 5)) = some (.int .i8 ((rd_T83 l0 x5_1).f0)) ∧ w'.cell? ⟨(ad365.add ((x5_1).toNat * 5)).block, (ad365.add ((x5_1).toNat * 5)).off + 1, none⟩ = some (.int .i16 ((rd_T83 l0 x5_1).f1)) ∧ w'.cell? ⟨(ad365.add ((x5_1).toNat * 5)).block, (ad365.add ((x5_1).toNat * 5)).off + 2, none⟩ = some (.int .i16 ((rd_T83 l0 x5_1).f2)) ∧ w'.cell? ⟨(ad365.add ((x5_1).toNat * 5)).block, (ad365.add ((x5_1).toNat * 5)).off + 3, none⟩ = some (.int .i64 ((rd_T83 l0 x5_1).f3)) ∧ w'.cell? ⟨(ad365.add ((x5_1).toNat * 5)).block, (ad365.add ((x5_1).toNat * 5)).off + 4, none⟩ = some (.int .i64 ((rd_T83 l0 x5_1).f4)) ∧ w'.cell? (ad365.add ((x5_1).toNat * 5)) = some (.int .i8 ((rd_T83 l0 x5_1).f0)) ∧ w'.cell? ⟨(ad365.add ((x5_1).toNat * 5)).block, (ad365.add ((x5_1).toNat * 5)).off + 1, none⟩ = some (.int .i16 ((rd_T83 l0 x5_1).f1)) ∧ w'.cell? ⟨(ad365.add ((x5_1).toNat * 5)).block, (ad365.add ((x5_1).toNat * 5)).off + 2, none⟩ = some (.int .i16 ((rd_T83 l0 x5_1).f2)) ∧ w'.cell? ⟨(ad365.add ((x5_1).toNat * 5)).block, (ad365.add ((x5_1).toNat * 5)).off + 3, none⟩ = some (.int .i64 ((rd_T83 l0 x5_1).f3)) ∧ w'.cell? ⟨(ad365.add ((x5_1).toNat * 5)).block, (ad365.add ((x5_1).toNat * 5)).off + 4, none⟩ = some (.int .i64 ((rd_T83 l0 x5_1).f4))) ∧ (Kd.R k45 45 w' w.heap.size (fun k_ => k_ ≠ s_) u4 x4_1) ∧ (w'.heap[s_]? = some (.cells #[.string (⟨#[]⟩ : ByteArray), .int .i8 0, .string (⟨#[]⟩ : ByteArray), .string (⟨#[]⟩ : ByteArray), .int .i64 0, .int .i64 0] 45 (0, 0))) ∧ (w.heap.size ≤ s_) ∧ (w.heap.size ≤ s_) ∧ (Below w.heap.size w w')) ?_ ?_
       rotate_left
       ·
        intro hCont
        refine two_ (i := 2) (j := 19) (Ni := some 24) (Nj := some 6) #[true, true, true, true, true, true, true, true, true, true, true, true, true, true, true, true, true, true, false, false, false] #[true, true, false, true, true, true, true, true, true, true, true, true, true, true, true, true, true, true, false, true, false] rfl rfl rfl rfl (two_of HT_.out (by kernel_rfl)) (by decide) (by decide) (fun K hK => ?_) (fun K hK => ?_)
        ·
         skip
         refine goes_ Try.func68 (by kernel_rfl) rfl #[.int .i16 (IntKind.i16.wrap (x5_1))] (by rfl) rfl rfl (by (try simp only [List.map_toArray, List.map_cons, List.map_nil]); first | done | rfl | (simp only [List.length_drop, List.length_take]; rfl)) ?_
         with_reducible refine (spec_l07Letter.calls (IntKind.i16.wrap (x5_1)) t364 _ A10.out).mono ?_
         rintro e w14 ⟨rfl, hb⟩
         refine ⟨_, rfl, ?_⟩
         have n0_ := Aside0.mk (Kd.R_below (by (with_reducible repeat (first | apply Kd.R_alloc | apply Kd.R_drewN | apply Kd.R_drew)); exact HO_4.out) hb)
         have n1_ := Aside0.mk (below_step (by repeat (first | (with_reducible first | exact HB.out | apply below_alloc | apply pw_below_drewN | apply below_drew1) | exact HB.out)) hb)
         clear HO_4
         clear HB
         have HO_4 := n0_
         have HB := n1_
         clear n0_ n1_
         (try clear hb)
         (try clear hb2)
         (try clear hk)
         (try clear hi)
         refine hK.out _ _ ⟨((HB.out.cell (World.block_lt_of_cell? w _ hw365_0)).trans hw365_0), ((HB.out.cell (World.block_lt_of_cell? w _ hw365_1)).trans hw365_1), ((HB.out.cell (World.block_lt_of_cell? w _ hw365_2)).trans hw365_2), ((HB.out.cell (World.block_lt_of_cell? w _ hw365_3)).trans hw365_3), ((HB.out.cell (World.block_lt_of_cell? w _ hw365_4)).trans hw365_4), ((HB.out.cell (World.block_lt_of_cell? w _ hw366_0)).trans hw366_0), ((HB.out.cell (World.block_lt_of_cell? w _ hw366_1)).trans hw366_1), ((HB.out.cell (World.block_lt_of_cell? w _ hw366_2)).trans hw366_2), ((HB.out.cell (World.block_lt_of_cell? w _ hw366_3)).trans hw366_3), ((HB.out.cell (World.block_lt_of_cell? w _ hw366_4)).trans hw366_4), ((HB.out.cell (World.block_lt_of_cell? w _ hw367_0)).trans hw367_0), ((HB.out.cell (World.block_lt_of_cell? w _ hw367_1)).trans hw367_1), ((HB.out.cell (World.block_lt_of_cell? w _ hw367_2)).trans hw367_2), ((HB.out.cell (World.block_lt_of_cell? w _ hw367_3)).trans hw367_3), ((HB.out.cell (World.block_lt_of_cell? w _ hw367_4)).trans hw367_4)⟩ (fun hHeld => ?_)
         clear hK K
         refine norm_ (a' := ?_) ?_ ?_
         rotate_left
         ·
          show Act.put _ (some 24) _ = _
          simp only [Act.put, List.setIfInBounds_toArray, List.set_cons_zero, List.set_cons_succ, i64_w, i32_w]
          rfl
         refine pure_ (i := 18) (N := some 40) (v := ?_) (a' := ?_) #[true, true, true, true, true, true, true, true, true, true, true, true, true, true, true, true, true, true, true, false, false] rfl rfl (any_of HT_.out (by kernel_rfl)) (fun _ _ _ h => h) (Or.inl ⟨by rfl, ?_⟩) ?_ ?_
         rotate_left
         ·
          intro w'
          go_simp
          with_reducible rfl
         rotate_left
         ·
          simp only [Act.put, List.setIfInBounds_toArray, List.set_cons_zero, List.set_cons_succ, i64_w, i32_w]
          rfl
         refine one_ (i := 19) (N := some 6) #[true, true, true, true, true, true, true, true, true, true, true, true, true, true, true, true, true, true, true, true, false] rfl rfl (one_of HT_.out (by kernel_rfl)) (by decide) (fun K hK => ?_)
         refine box_step ?hg (N := 6) ?hd (cs := #[.string (⟨#[]⟩ : ByteArray), .int .i8 0, .string (⟨#[]⟩ : ByteArray), .string (⟨#[]⟩ : ByteArray), .int .i64 0, .int .i64 0]) (t := 45) ?hr ?_; (case hd => rfl); (case hg => rfl); (case hr => first | (go_simp; done) | (go_simp; rfl))
         intro gb368 hg w15 hbox hb
         have n0_ := Aside0.mk (Kd.R_below (Kd.R_elderB (by (with_reducible repeat (first | apply Kd.R_alloc | apply Kd.R_drewN | apply Kd.R_drew)); exact HO_4.out) gb368 (Nat.le_of_eq hg.symm)) hb)
         have n1_ := Aside0.mk (below_step (by repeat (first | (with_reducible first | exact HB.out | apply below_alloc | apply pw_below_drewN | apply below_drew1) | exact HB.out)) hb)
         have n2_ := Aside0.mk (hbox)
         have n3_ := Aside0.mk ((by rw [hg]; exact (below_size (by repeat (first | (with_reducible first | exact HB.out | apply below_alloc | apply pw_below_drewN | apply below_drew1) | exact HB.out))) : w.heap.size ≤ gb368))
         have n4_ := Aside0.mk ((by rw [hg]; exact (below_size (by repeat (first | (with_reducible first | exact HB.out | apply below_alloc | apply pw_below_drewN | apply below_drew1) | exact HB.out))) : w.heap.size ≤ gb368))
         clear HO_4
         clear HB
         have HO_4 := n0_
         have HB := n1_
         have BK368 := n2_
         have GW368 := n3_
         have GE368 := n4_
         clear n0_ n1_ n2_ n3_ n4_
         clear hb hbox hg
         refine hK.out _ _ ⟨((HB.out.cell (World.block_lt_of_cell? w _ hw365_0)).trans hw365_0), ((HB.out.cell (World.block_lt_of_cell? w _ hw365_1)).trans hw365_1), ((HB.out.cell (World.block_lt_of_cell? w _ hw365_2)).trans hw365_2), ((HB.out.cell (World.block_lt_of_cell? w _ hw365_3)).trans hw365_3), ((HB.out.cell (World.block_lt_of_cell? w _ hw365_4)).trans hw365_4), ((HB.out.cell (World.block_lt_of_cell? w _ hw366_0)).trans hw366_0), ((HB.out.cell (World.block_lt_of_cell? w _ hw366_1)).trans hw366_1), ((HB.out.cell (World.block_lt_of_cell? w _ hw366_2)).trans hw366_2), ((HB.out.cell (World.block_lt_of_cell? w _ hw366_3)).trans hw366_3), ((HB.out.cell (World.block_lt_of_cell? w _ hw366_4)).trans hw366_4), ((HB.out.cell (World.block_lt_of_cell? w _ hw367_0)).trans hw367_0), ((HB.out.cell (World.block_lt_of_cell? w _ hw367_1)).trans hw367_1), ((HB.out.cell (World.block_lt_of_cell? w _ hw367_2)).trans hw367_2), ((HB.out.cell (World.block_lt_of_cell? w _ hw367_3)).trans hw367_3), ((HB.out.cell (World.block_lt_of_cell? w _ hw367_4)).trans hw367_4)⟩ (fun hHeld => ?_)
         clear hK K
         refine norm_ (a' := ?_) ?_ ?_
         rotate_left
         ·
          show Act.put _ (some 6) _ = _
          simp only [Act.put, List.setIfInBounds_toArray, List.set_cons_zero, List.set_cons_succ, i64_w, i32_w]
          rfl
         exact norm_ (by simp only [putAll, Act.put, List.setIfInBounds_toArray, List.set_cons_zero, List.set_cons_succ]) (hCont (gb368) _ ⟨hHeld, (by (with_reducible repeat (first | apply Kd.R_alloc | apply Kd.R_drewN | apply Kd.R_drew)); exact Kd.R_mono HO_4.out (fun _ hk => hk.2)), (by (with_reducible repeat (first | refine blk_drewN ?_ _ | refine blk_drew ?_ | refine blk_alloc ?_ _)); exact BK368.out), GW368.out, GE368.out, (by repeat (first | (with_reducible first | exact HB.out | apply below_alloc | apply pw_below_drewN | apply below_drew1 | refine below_set ?_ GE368.out) | exact HB.out))⟩)
        ·
         skip
         refine box_step ?hg (N := 6) ?hd (cs := #[.string (⟨#[]⟩ : ByteArray), .int .i8 0, .string (⟨#[]⟩ : ByteArray), .string (⟨#[]⟩ : ByteArray), .int .i64 0, .int .i64 0]) (t := 45) ?hr ?_; (case hd => rfl); (case hg => rfl); (case hr => first | (go_simp; done) | (go_simp; rfl))
         intro gb368 hg w14 hbox hb
         have n0_ := Aside0.mk (Kd.R_below (Kd.R_elderB (by (with_reducible repeat (first | apply Kd.R_alloc | apply Kd.R_drewN | apply Kd.R_drew)); exact HO_4.out) gb368 (Nat.le_of_eq hg.symm)) hb)
         have n1_ := Aside0.mk (below_step (by repeat (first | (with_reducible first | exact HB.out | apply below_alloc | apply pw_below_drewN | apply below_drew1) | exact HB.out)) hb)
         have n2_ := Aside0.mk (hbox)
         have n3_ := Aside0.mk ((by rw [hg]; exact (below_size (by repeat (first | (with_reducible first | exact HB.out | apply below_alloc | apply pw_below_drewN | apply below_drew1) | exact HB.out))) : w.heap.size ≤ gb368))
         have n4_ := Aside0.mk ((by rw [hg]; exact (below_size (by repeat (first | (with_reducible first | exact HB.out | apply below_alloc | apply pw_below_drewN | apply below_drew1) | exact HB.out))) : w.heap.size ≤ gb368))
         clear HO_4
         clear HB
         have HO_4 := n0_
         have HB := n1_
         have BK368 := n2_
         have GW368 := n3_
         have GE368 := n4_
         clear n0_ n1_ n2_ n3_ n4_
         clear hb hbox hg
         refine hK.out _ _ ⟨((HB.out.cell (World.block_lt_of_cell? w _ hw365_0)).trans hw365_0), ((HB.out.cell (World.block_lt_of_cell? w _ hw365_1)).trans hw365_1), ((HB.out.cell (World.block_lt_of_cell? w _ hw365_2)).trans hw365_2), ((HB.out.cell (World.block_lt_of_cell? w _ hw365_3)).trans hw365_3), ((HB.out.cell (World.block_lt_of_cell? w _ hw365_4)).trans hw365_4), ((HB.out.cell (World.block_lt_of_cell? w _ hw366_0)).trans hw366_0), ((HB.out.cell (World.block_lt_of_cell? w _ hw366_1)).trans hw366_1), ((HB.out.cell (World.block_lt_of_cell? w _ hw366_2)).trans hw366_2), ((HB.out.cell (World.block_lt_of_cell? w _ hw366_3)).trans hw366_3), ((HB.out.cell (World.block_lt_of_cell? w _ hw366_4)).trans hw366_4), ((HB.out.cell (World.block_lt_of_cell? w _ hw367_0)).trans hw367_0), ((HB.out.cell (World.block_lt_of_cell? w _ hw367_1)).trans hw367_1), ((HB.out.cell (World.block_lt_of_cell? w _ hw367_2)).trans hw367_2), ((HB.out.cell (World.block_lt_of_cell? w _ hw367_3)).trans hw367_3), ((HB.out.cell (World.block_lt_of_cell? w _ hw367_4)).trans hw367_4)⟩ (fun hHeld => ?_)
         clear hK K
         refine norm_ (a' := ?_) ?_ ?_
         rotate_left
         ·
          show Act.put _ (some 6) _ = _
          simp only [Act.put, List.setIfInBounds_toArray, List.set_cons_zero, List.set_cons_succ, i64_w, i32_w]
          rfl
         refine one_ (i := 2) (N := some 24) #[true, true, true, true, true, true, true, true, true, true, true, true, true, true, true, true, true, true, false, true, false] rfl rfl (one_of HT_.out (by kernel_rfl)) (by decide) (fun K hK => ?_)
         refine goes_ Try.func68 (by kernel_rfl) rfl #[.int .i16 (IntKind.i16.wrap (x5_1))] (by rfl) rfl rfl (by (try simp only [List.map_toArray, List.map_cons, List.map_nil]); first | done | rfl | (simp only [List.length_drop, List.length_take]; rfl)) ?_
         with_reducible refine (spec_l07Letter.calls (IntKind.i16.wrap (x5_1)) t364 _ A10.out).mono ?_
         rintro e w15 ⟨rfl, hb⟩
         refine ⟨_, rfl, ?_⟩
         have n0_ := Aside0.mk (Kd.R_below (by (with_reducible repeat (first | apply Kd.R_alloc | apply Kd.R_drewN | apply Kd.R_drew)); exact HO_4.out) hb)
         have n1_ := Aside0.mk (blk_below (g := gb368) (o := .cells #[.string (⟨#[]⟩ : ByteArray), .int .i8 0, .string (⟨#[]⟩ : ByteArray), .string (⟨#[]⟩ : ByteArray), .int .i64 0, .int .i64 0] 45 (0, 0)) (by (with_reducible repeat (first | refine blk_drewN ?_ _ | refine blk_drew ?_ | refine blk_alloc ?_ _)); exact BK368.out) hb)
         have n2_ := Aside0.mk (below_step (by repeat (first | (with_reducible first | exact HB.out | apply below_alloc | apply pw_below_drewN | apply below_drew1 | refine below_set ?_ GE368.out) | exact HB.out)) hb)
         clear HO_4
         clear BK368
         clear HB
         have HO_4 := n0_
         have BK368 := n1_
         have HB := n2_
         clear n0_ n1_ n2_
         (try clear hb)
         (try clear hb2)
         (try clear hk)
         (try clear hi)
         refine hK.out _ _ ⟨((HB.out.cell (World.block_lt_of_cell? w _ hw365_0)).trans hw365_0), ((HB.out.cell (World.block_lt_of_cell? w _ hw365_1)).trans hw365_1), ((HB.out.cell (World.block_lt_of_cell? w _ hw365_2)).trans hw365_2), ((HB.out.cell (World.block_lt_of_cell? w _ hw365_3)).trans hw365_3), ((HB.out.cell (World.block_lt_of_cell? w _ hw365_4)).trans hw365_4), ((HB.out.cell (World.block_lt_of_cell? w _ hw366_0)).trans hw366_0), ((HB.out.cell (World.block_lt_of_cell? w _ hw366_1)).trans hw366_1), ((HB.out.cell (World.block_lt_of_cell? w _ hw366_2)).trans hw366_2), ((HB.out.cell (World.block_lt_of_cell? w _ hw366_3)).trans hw366_3), ((HB.out.cell (World.block_lt_of_cell? w _ hw366_4)).trans hw366_4), ((HB.out.cell (World.block_lt_of_cell? w _ hw367_0)).trans hw367_0), ((HB.out.cell (World.block_lt_of_cell? w _ hw367_1)).trans hw367_1), ((HB.out.cell (World.block_lt_of_cell? w _ hw367_2)).trans hw367_2), ((HB.out.cell (World.block_lt_of_cell? w _ hw367_3)).trans hw367_3), ((HB.out.cell (World.block_lt_of_cell? w _ hw367_4)).trans hw367_4)⟩ (fun hHeld => ?_)
         clear hK K
         refine norm_ (a' := ?_) ?_ ?_
         rotate_left
         ·
          show Act.put _ (some 24) _ = _
          simp only [Act.put, List.setIfInBounds_toArray, List.set_cons_zero, List.set_cons_succ, i64_w, i32_w]
          rfl
         refine pure_ (i := 18) (N := some 40) (v := ?_) (a' := ?_) #[true, true, true, true, true, true, true, true, true, true, true, true, true, true, true, true, true, true, true, true, false] rfl rfl (any_of HT_.out (by kernel_rfl)) (fun _ _ _ h => h) (Or.inl ⟨by rfl, ?_⟩) ?_ ?_
         rotate_left
         ·
          intro w'
          go_simp
          with_reducible rfl
         rotate_left
         ·
          simp only [Act.put, List.setIfInBounds_toArray, List.set_cons_zero, List.set_cons_succ, i64_w, i32_w]
          rfl
         exact norm_ (by simp only [putAll, Act.put, List.setIfInBounds_toArray, List.set_cons_zero, List.set_cons_succ]) (hCont (gb368) _ ⟨hHeld, (by (with_reducible repeat (first | apply Kd.R_alloc | apply Kd.R_drewN | apply Kd.R_drew)); exact Kd.R_mono HO_4.out (fun _ hk => hk.2)), (by (with_reducible repeat (first | refine blk_drewN ?_ _ | refine blk_drew ?_ | refine blk_alloc ?_ _)); exact BK368.out), GW368.out, GE368.out, (by repeat (first | (with_reducible first | exact HB.out | apply below_alloc | apply pw_below_drewN | apply below_drew1 | refine below_set ?_ GE368.out) | exact HB.out))⟩)
       rintro gb368 w16 ⟨hS_, h0_, h1_, h2_, h3_, h4_⟩
       have n0_ : Aside0 (Kd.R k45 45 w16 w.heap.size (fun k_ => k_ ≠ gb368) u4 x4_1) := ⟨h0_⟩
       have n1_ : Aside0 (w16.heap[gb368]? = some (.cells #[.string (⟨#[]⟩ : ByteArray), .int .i8 0, .string (⟨#[]⟩ : ByteArray), .string (⟨#[]⟩ : ByteArray), .int .i64 0, .int .i64 0] 45 (0, 0))) := ⟨h1_⟩
       have n2_ : Aside0 (w.heap.size ≤ gb368) := ⟨h2_⟩
       have n3_ : Aside0 (w.heap.size ≤ gb368) := ⟨h3_⟩
       have n4_ : Aside0 (Below w.heap.size w w16) := ⟨h4_⟩
       clear HO_4
       clear HB
       clear h0_ h1_ h2_ h3_ h4_
       have HO_4 := n0_
       have BK368 := n1_
       have GW368 := n2_
       have GE368 := n3_
       have HB := n4_
       clear n0_ n1_ n2_ n3_ n4_
       have hHeld : w16.cell? (ad365.add ((x5_1).toNat * 5)) = some (.int .i8 ((rd_T83 l0 x5_1).f0)) ∧ w16.cell? ⟨(ad365.add ((x5_1).toNat * 5)).block, (ad365.add ((x5_1).toNat * 5)).off + 1, none⟩ = some (.int .i16 ((rd_T83 l0 x5_1).f1)) ∧ w16.cell? ⟨(ad365.add ((x5_1).toNat * 5)).block, (ad365.add ((x5_1).toNat * 5)).off + 2, none⟩ = some (.int .i16 ((rd_T83 l0 x5_1).f2)) ∧ w16.cell? ⟨(ad365.add ((x5_1).toNat * 5)).block, (ad365.add ((x5_1).toNat * 5)).off + 3, none⟩ = some (.int .i64 ((rd_T83 l0 x5_1).f3)) ∧ w16.cell? ⟨(ad365.add ((x5_1).toNat * 5)).block, (ad365.add ((x5_1).toNat * 5)).off + 4, none⟩ = some (.int .i64 ((rd_T83 l0 x5_1).f4)) ∧ w16.cell? (ad365.add ((x5_1).toNat * 5)) = some (.int .i8 ((rd_T83 l0 x5_1).f0)) ∧ w16.cell? ⟨(ad365.add ((x5_1).toNat * 5)).block, (ad365.add ((x5_1).toNat * 5)).off + 1, none⟩ = some (.int .i16 ((rd_T83 l0 x5_1).f1)) ∧ w16.cell? ⟨(ad365.add ((x5_1).toNat * 5)).block, (ad365.add ((x5_1).toNat * 5)).off + 2, none⟩ = some (.int .i16 ((rd_T83 l0 x5_1).f2)) ∧ w16.cell? ⟨(ad365.add ((x5_1).toNat * 5)).block, (ad365.add ((x5_1).toNat * 5)).off + 3, none⟩ = some (.int .i64 ((rd_T83 l0 x5_1).f3)) ∧ w16.cell? ⟨(ad365.add ((x5_1).toNat * 5)).block, (ad365.add ((x5_1).toNat * 5)).off + 4, none⟩ = some (.int .i64 ((rd_T83 l0 x5_1).f4)) ∧ w16.cell? (ad365.add ((x5_1).toNat * 5)) = some (.int .i8 ((rd_T83 l0 x5_1).f0)) ∧ w16.cell? ⟨(ad365.add ((x5_1).toNat * 5)).block, (ad365.add ((x5_1).toNat * 5)).off + 1, none⟩ = some (.int .i16 ((rd_T83 l0 x5_1).f1)) ∧ w16.cell? ⟨(ad365.add ((x5_1).toNat * 5)).block, (ad365.add ((x5_1).toNat * 5)).off + 2, none⟩ = some (.int .i16 ((rd_T83 l0 x5_1).f2)) ∧ w16.cell? ⟨(ad365.add ((x5_1).toNat * 5)).block, (ad365.add ((x5_1).toNat * 5)).off + 3, none⟩ = some (.int .i64 ((rd_T83 l0 x5_1).f3)) ∧ w16.cell? ⟨(ad365.add ((x5_1).toNat * 5)).block, (ad365.add ((x5_1).toNat * 5)).off + 4, none⟩ = some (.int .i64 ((rd_T83 l0 x5_1).f4)) := hS_
       refine norm_ (a' := ?_) ?_ ?_
       rotate_left
       ·
        simp only [putAll, Act.put, List.setIfInBounds_toArray, List.set_cons_zero, List.set_cons_succ]
        rfl
       refine one_ (i := 20) (N := none) #[true, true, true, true, true, true, true, true, true, true, true, true, true, true, true, true, true, true, true, true, true] rfl rfl (one_of HT_.out (by kernel_rfl)) (by decide) (fun K hK => ?_)
       have hs17 : w16.cell? ⟨gb368, 0, none⟩ = some (.string (⟨#[]⟩ : ByteArray)) := (blk_cell BK368.out 0).trans rfl
       have hfs17 := blk_frozen BK368.out 0
       have hs18 : w16.cell? ⟨gb368, 1, none⟩ = some (.int .i8 0) := (blk_cell BK368.out 1).trans rfl
       have hfs18 := blk_frozen BK368.out 1
       have hs19 : w16.cell? ⟨gb368, 2, none⟩ = some (.string (⟨#[]⟩ : ByteArray)) := (blk_cell BK368.out 2).trans rfl
       have hfs19 := blk_frozen BK368.out 2
       have hs20 : w16.cell? ⟨gb368, 3, none⟩ = some (.string (⟨#[]⟩ : ByteArray)) := (blk_cell BK368.out 3).trans rfl
       have hfs20 := blk_frozen BK368.out 3
       have hs21 : w16.cell? ⟨gb368, 4, none⟩ = some (.int .i64 0) := (blk_cell BK368.out 4).trans rfl
       have hfs21 := blk_frozen BK368.out 4
       have hs22 : w16.cell? ⟨gb368, 5, none⟩ = some (.int .i64 0) := (blk_cell BK368.out 5).trans rfl
       have hfs22 := blk_frozen BK368.out 5
       refine skip_ (w1 := ?_) (by rfl) rfl ?_ ?_
       rotate_left
       ·
        go_simp
        rfl
       refine hK.out _ _ ⟨((cell_far (p := ⟨gb368, _, none⟩) (by first | exact Nat.ne_of_lt (Nat.lt_of_lt_of_le (by have := World.block_lt_of_cell? _ _ hw365_0; first | rwa [add_block] at this | exact this) GW368.out) | (rw [add_block]; exact Nat.ne_of_lt (Nat.lt_of_lt_of_le (by have := World.block_lt_of_cell? _ _ hw365_0; first | rwa [add_block] at this | exact this) GW368.out)) | (show (Addr.add _ _).block ≠ _; rw [add_block]; exact Nat.ne_of_lt (Nat.lt_of_lt_of_le (by have := World.block_lt_of_cell? _ _ hw365_0; first | rwa [add_block] at this | exact this) GW368.out)) | (dsimp only; exact Nat.ne_of_lt (Nat.lt_of_lt_of_le (by have := World.block_lt_of_cell? _ _ hw365_0; first | rwa [add_block] at this | exact this) GW368.out))) _).trans (((cell_far (p := ⟨gb368, _, none⟩) (by first | exact Nat.ne_of_lt (Nat.lt_of_lt_of_le (by have := World.block_lt_of_cell? _ _ hw365_0; first | rwa [add_block] at this | exact this) GW368.out) | (rw [add_block]; exact Nat.ne_of_lt (Nat.lt_of_lt_of_le (by have := World.block_lt_of_cell? _ _ hw365_0; first | rwa [add_block] at this | exact this) GW368.out)) | (show (Addr.add _ _).block ≠ _; rw [add_block]; exact Nat.ne_of_lt (Nat.lt_of_lt_of_le (by have := World.block_lt_of_cell? _ _ hw365_0; first | rwa [add_block] at this | exact this) GW368.out)) | (dsimp only; exact Nat.ne_of_lt (Nat.lt_of_lt_of_le (by have := World.block_lt_of_cell? _ _ hw365_0; first | rwa [add_block] at this | exact this) GW368.out))) _).trans (((cell_far (p := ⟨gb368, _, none⟩) (by first | exact Nat.ne_of_lt (Nat.lt_of_lt_of_le (by have := World.block_lt_of_cell? _ _ hw365_0; first | rwa [add_block] at this | exact this) GW368.out) | (rw [add_block]; exact Nat.ne_of_lt (Nat.lt_of_lt_of_le (by have := World.block_lt_of_cell? _ _ hw365_0; first | rwa [add_block] at this | exact this) GW368.out)) | (show (Addr.add _ _).block ≠ _; rw [add_block]; exact Nat.ne_of_lt (Nat.lt_of_lt_of_le (by have := World.block_lt_of_cell? _ _ hw365_0; first | rwa [add_block] at this | exact this) GW368.out)) | (dsimp only; exact Nat.ne_of_lt (Nat.lt_of_lt_of_le (by have := World.block_lt_of_cell? _ _ hw365_0; first | rwa [add_block] at this | exact this) GW368.out))) _).trans (((cell_far (p := ⟨gb368, _, none⟩) (by first | exact Nat.ne_of_lt (Nat.lt_of_lt_of_le (by have := World.block_lt_of_cell? _ _ hw365_0; first | rwa [add_block] at this | exact this) GW368.out) | (rw [add_block]; exact Nat.ne_of_lt (Nat.lt_of_lt_of_le (by have := World.block_lt_of_cell? _ _ hw365_0; first | rwa [add_block] at this | exact this) GW368.out)) | (show (Addr.add _ _).block ≠ _; rw [add_block]; exact Nat.ne_of_lt (Nat.lt_of_lt_of_le (by have := World.block_lt_of_cell? _ _ hw365_0; first | rwa [add_block] at this | exact this) GW368.out)) | (dsimp only; exact Nat.ne_of_lt (Nat.lt_of_lt_of_le (by have := World.block_lt_of_cell? _ _ hw365_0; first | rwa [add_block] at this | exact this) GW368.out))) _).trans (((cell_far (p := ⟨gb368, _, none⟩) (by first | exact Nat.ne_of_lt (Nat.lt_of_lt_of_le (by have := World.block_lt_of_cell? _ _ hw365_0; first | rwa [add_block] at this | exact this) GW368.out) | (rw [add_block]; exact Nat.ne_of_lt (Nat.lt_of_lt_of_le (by have := World.block_lt_of_cell? _ _ hw365_0; first | rwa [add_block] at this | exact this) GW368.out)) | (show (Addr.add _ _).block ≠ _; rw [add_block]; exact Nat.ne_of_lt (Nat.lt_of_lt_of_le (by have := World.block_lt_of_cell? _ _ hw365_0; first | rwa [add_block] at this | exact this) GW368.out)) | (dsimp only; exact Nat.ne_of_lt (Nat.lt_of_lt_of_le (by have := World.block_lt_of_cell? _ _ hw365_0; first | rwa [add_block] at this | exact this) GW368.out))) _).trans (((cell_far (p := ⟨gb368, _, none⟩) (by first | exact Nat.ne_of_lt (Nat.lt_of_lt_of_le (by have := World.block_lt_of_cell? _ _ hw365_0; first | rwa [add_block] at this | exact this) GW368.out) | (rw [add_block]; exact Nat.ne_of_lt (Nat.lt_of_lt_of_le (by have := World.block_lt_of_cell? _ _ hw365_0; first | rwa [add_block] at this | exact this) GW368.out)) | (show (Addr.add _ _).block ≠ _; rw [add_block]; exact Nat.ne_of_lt (Nat.lt_of_lt_of_le (by have := World.block_lt_of_cell? _ _ hw365_0; first | rwa [add_block] at this | exact this) GW368.out)) | (dsimp only; exact Nat.ne_of_lt (Nat.lt_of_lt_of_le (by have := World.block_lt_of_cell? _ _ hw365_0; first | rwa [add_block] at this | exact this) GW368.out))) _).trans (hHeld.1)))))))))))), ((cell_far (p := ⟨gb368, _, none⟩) (by first | exact Nat.ne_of_lt (Nat.lt_of_lt_of_le (by have := World.block_lt_of_cell? _ _ hw365_1; first | rwa [add_block] at this | exact this) GW368.out) | (rw [add_block]; exact Nat.ne_of_lt (Nat.lt_of_lt_of_le (by have := World.block_lt_of_cell? _ _ hw365_1; first | rwa [add_block] at this | exact this) GW368.out)) | (show (Addr.add _ _).block ≠ _; rw [add_block]; exact Nat.ne_of_lt (Nat.lt_of_lt_of_le (by have := World.block_lt_of_cell? _ _ hw365_1; first | rwa [add_block] at this | exact this) GW368.out)) | (dsimp only; exact Nat.ne_of_lt (Nat.lt_of_lt_of_le (by have := World.block_lt_of_cell? _ _ hw365_1; first | rwa [add_block] at this | exact this) GW368.out))) _).trans (((cell_far (p := ⟨gb368, _, none⟩) (by first | exact Nat.ne_of_lt (Nat.lt_of_lt_of_le (by have := World.block_lt_of_cell? _ _ hw365_1; first | rwa [add_block] at this | exact this) GW368.out) | (rw [add_block]; exact Nat.ne_of_lt (Nat.lt_of_lt_of_le (by have := World.block_lt_of_cell? _ _ hw365_1; first | rwa [add_block] at this | exact this) GW368.out)) | (show (Addr.add _ _).block ≠ _; rw [add_block]; exact Nat.ne_of_lt (Nat.lt_of_lt_of_le (by have := World.block_lt_of_cell? _ _ hw365_1; first | rwa [add_block] at this | exact this) GW368.out)) | (dsimp only; exact Nat.ne_of_lt (Nat.lt_of_lt_of_le (by have := World.block_lt_of_cell? _ _ hw365_1; first | rwa [add_block] at this | exact this) GW368.out))) _).trans (((cell_far (p := ⟨gb368, _, none⟩) (by first | exact Nat.ne_of_lt (Nat.lt_of_lt_of_le (by have := World.block_lt_of_cell? _ _ hw365_1; first | rwa [add_block] at this | exact this) GW368.out) | (rw [add_block]; exact Nat.ne_of_lt (Nat.lt_of_lt_of_le (by have := World.block_lt_of_cell? _ _ hw365_1; first | rwa [add_block] at this | exact this) GW368.out)) | (show (Addr.add _ _).block ≠ _; rw [add_block]; exact Nat.ne_of_lt (Nat.lt_of_lt_of_le (by have := World.block_lt_of_cell? _ _ hw365_1; first | rwa [add_block] at this | exact this) GW368.out)) | (dsimp only; exact Nat.ne_of_lt (Nat.lt_of_lt_of_le (by have := World.block_lt_of_cell? _ _ hw365_1; first | rwa [add_block] at this | exact this) GW368.out))) _).trans (((cell_far (p := ⟨gb368, _, none⟩) (by first | exact Nat.ne_of_lt (Nat.lt_of_lt_of_le (by have := World.block_lt_of_cell? _ _ hw365_1; first | rwa [add_block] at this | exact this) GW368.out) | (rw [add_block]; exact Nat.ne_of_lt (Nat.lt_of_lt_of_le (by have := World.block_lt_of_cell? _ _ hw365_1; first | rwa [add_block] at this | exact this) GW368.out)) | (show (Addr.add _ _).block ≠ _; rw [add_block]; exact Nat.ne_of_lt (Nat.lt_of_lt_of_le (by have := World.block_lt_of_cell? _ _ hw365_1; first | rwa [add_block] at this | exact this) GW368.out)) | (dsimp only; exact Nat.ne_of_lt (Nat.lt_of_lt_of_le (by have := World.block_lt_of_cell? _ _ hw365_1; first | rwa [add_block] at this | exact this) GW368.out))) _).trans (((cell_far (p := ⟨gb368, _, none⟩) (by first | exact Nat.ne_of_lt (Nat.lt_of_lt_of_le (by have := World.block_lt_of_cell? _ _ hw365_1; first | rwa [add_block] at this | exact this) GW368.out) | (rw [add_block]; exact Nat.ne_of_lt (Nat.lt_of_lt_of_le (by have := World.block_lt_of_cell? _ _ hw365_1; first | rwa [add_block] at this | exact this) GW368.out)) | (show (Addr.add _ _).block ≠ _; rw [add_block]; exact Nat.ne_of_lt (Nat.lt_of_lt_of_le (by have := World.block_lt_of_cell? _ _ hw365_1; first | rwa [add_block] at this | exact this) GW368.out)) | (dsimp only; exact Nat.ne_of_lt (Nat.lt_of_lt_of_le (by have := World.block_lt_of_cell? _ _ hw365_1; first | rwa [add_block] at this | exact this) GW368.out))) _).trans (((cell_far (p := ⟨gb368, _, none⟩) (by first | exact Nat.ne_of_lt (Nat.lt_of_lt_of_le (by have := World.block_lt_of_cell? _ _ hw365_1; first | rwa [add_block] at this | exact this) GW368.out) | (rw [add_block]; exact Nat.ne_of_lt (Nat.lt_of_lt_of_le (by have := World.block_lt_of_cell? _ _ hw365_1; first | rwa [add_block] at this | exact this) GW368.out)) | (show (Addr.add _ _).block ≠ _; rw [add_block]; exact Nat.ne_of_lt (Nat.lt_of_lt_of_le (by have := World.block_lt_of_cell? _ _ hw365_1; first | rwa [add_block] at this | exact this) GW368.out)) | (dsimp only; exact Nat.ne_of_lt (Nat.lt_of_lt_of_le (by have := World.block_lt_of_cell? _ _ hw365_1; first | rwa [add_block] at this | exact this) GW368.out))) _).trans (hHeld.2.1)))))))))))), ((cell_far (p := ⟨gb368, _, none⟩) (by first | exact Nat.ne_of_lt (Nat.lt_of_lt_of_le (by have := World.block_lt_of_cell? _ _ hw365_2; first | rwa [add_block] at this | exact this) GW368.out) | (rw [add_block]; exact Nat.ne_of_lt (Nat.lt_of_lt_of_le (by have := World.block_lt_of_cell? _ _ hw365_2; first | rwa [add_block] at this | exact this) GW368.out)) | (show (Addr.add _ _).block ≠ _; rw [add_block]; exact Nat.ne_of_lt (Nat.lt_of_lt_of_le (by have := World.block_lt_of_cell? _ _ hw365_2; first | rwa [add_block] at this | exact this) GW368.out)) | (dsimp only; exact Nat.ne_of_lt (Nat.lt_of_lt_of_le (by have := World.block_lt_of_cell? _ _ hw365_2; first | rwa [add_block] at this | exact this) GW368.out))) _).trans (((cell_far (p := ⟨gb368, _, none⟩) (by first | exact Nat.ne_of_lt (Nat.lt_of_lt_of_le (by have := World.block_lt_of_cell? _ _ hw365_2; first | rwa [add_block] at this | exact this) GW368.out) | (rw [add_block]; exact Nat.ne_of_lt (Nat.lt_of_lt_of_le (by have := World.block_lt_of_cell? _ _ hw365_2; first | rwa [add_block] at this | exact this) GW368.out)) | (show (Addr.add _ _).block ≠ _; rw [add_block]; exact Nat.ne_of_lt (Nat.lt_of_lt_of_le (by have := World.block_lt_of_cell? _ _ hw365_2; first | rwa [add_block] at this | exact this) GW368.out)) | (dsimp only; exact Nat.ne_of_lt (Nat.lt_of_lt_of_le (by have := World.block_lt_of_cell? _ _ hw365_2; first | rwa [add_block] at this | exact this) GW368.out))) _).trans (((cell_far (p := ⟨gb368, _, none⟩) (by first | exact Nat.ne_of_lt (Nat.lt_of_lt_of_le (by have := World.block_lt_of_cell? _ _ hw365_2; first | rwa [add_block] at this | exact this) GW368.out) | (rw [add_block]; exact Nat.ne_of_lt (Nat.lt_of_lt_of_le (by have := World.block_lt_of_cell? _ _ hw365_2; first | rwa [add_block] at this | exact this) GW368.out)) | (show (Addr.add _ _).block ≠ _; rw [add_block]; exact Nat.ne_of_lt (Nat.lt_of_lt_of_le (by have := World.block_lt_of_cell? _ _ hw365_2; first | rwa [add_block] at this | exact this) GW368.out)) | (dsimp only; exact Nat.ne_of_lt (Nat.lt_of_lt_of_le (by have := World.block_lt_of_cell? _ _ hw365_2; first | rwa [add_block] at this | exact this) GW368.out))) _).trans (((cell_far (p := ⟨gb368, _, none⟩) (by first | exact Nat.ne_of_lt (Nat.lt_of_lt_of_le (by have := World.block_lt_of_cell? _ _ hw365_2; first | rwa [add_block] at this | exact this) GW368.out) | (rw [add_block]; exact Nat.ne_of_lt (Nat.lt_of_lt_of_le (by have := World.block_lt_of_cell? _ _ hw365_2; first | rwa [add_block] at this | exact this) GW368.out)) | (show (Addr.add _ _).block ≠ _; rw [add_block]; exact Nat.ne_of_lt (Nat.lt_of_lt_of_le (by have := World.block_lt_of_cell? _ _ hw365_2; first | rwa [add_block] at this | exact this) GW368.out)) | (dsimp only; exact Nat.ne_of_lt (Nat.lt_of_lt_of_le (by have := World.block_lt_of_cell? _ _ hw365_2; first | rwa [add_block] at this | exact this) GW368.out))) _).trans (((cell_far (p := ⟨gb368, _, none⟩) (by first | exact Nat.ne_of_lt (Nat.lt_of_lt_of_le (by have := World.block_lt_of_cell? _ _ hw365_2; first | rwa [add_block] at this | exact this) GW368.out) | (rw [add_block]; exact Nat.ne_of_lt (Nat.lt_of_lt_of_le (by have := World.block_lt_of_cell? _ _ hw365_2; first | rwa [add_block] at this | exact this) GW368.out)) | (show (Addr.add _ _).block ≠ _; rw [add_block]; exact Nat.ne_of_lt (Nat.lt_of_lt_of_le (by have := World.block_lt_of_cell? _ _ hw365_2; first | rwa [add_block] at this | exact this) GW368.out)) | (dsimp only; exact Nat.ne_of_lt (Nat.lt_of_lt_of_le (by have := World.block_lt_of_cell? _ _ hw365_2; first | rwa [add_block] at this | exact this) GW368.out))) _).trans (((cell_far (p := ⟨gb368, _, none⟩) (by first | exact Nat.ne_of_lt (Nat.lt_of_lt_of_le (by have := World.block_lt_of_cell? _ _ hw365_2; first | rwa [add_block] at this | exact this) GW368.out) | (rw [add_block]; exact Nat.ne_of_lt (Nat.lt_of_lt_of_le (by have := World.block_lt_of_cell? _ _ hw365_2; first | rwa [add_block] at this | exact this) GW368.out)) | (show (Addr.add _ _).block ≠ _; rw [add_block]; exact Nat.ne_of_lt (Nat.lt_of_lt_of_le (by have := World.block_lt_of_cell? _ _ hw365_2; first | rwa [add_block] at this | exact this) GW368.out)) | (dsimp only; exact Nat.ne_of_lt (Nat.lt_of_lt_of_le (by have := World.block_lt_of_cell? _ _ hw365_2; first | rwa [add_block] at this | exact this) GW368.out))) _).trans (hHeld.2.2.1)))))))))))), ((cell_far (p := ⟨gb368, _, none⟩) (by first | exact Nat.ne_of_lt (Nat.lt_of_lt_of_le (by have := World.block_lt_of_cell? _ _ hw365_3; first | rwa [add_block] at this | exact this) GW368.out) | (rw [add_block]; exact Nat.ne_of_lt (Nat.lt_of_lt_of_le (by have := World.block_lt_of_cell? _ _ hw365_3; first | rwa [add_block] at this | exact this) GW368.out)) | (show (Addr.add _ _).block ≠ _; rw [add_block]; exact Nat.ne_of_lt (Nat.lt_of_lt_of_le (by have := World.block_lt_of_cell? _ _ hw365_3; first | rwa [add_block] at this | exact this) GW368.out)) | (dsimp only; exact Nat.ne_of_lt (Nat.lt_of_lt_of_le (by have := World.block_lt_of_cell? _ _ hw365_3; first | rwa [add_block] at this | exact this) GW368.out))) _).trans (((cell_far (p := ⟨gb368, _, none⟩) (by first | exact Nat.ne_of_lt (Nat.lt_of_lt_of_le (by have := World.block_lt_of_cell? _ _ hw365_3; first | rwa [add_block] at this | exact this) GW368.out) | (rw [add_block]; exact Nat.ne_of_lt (Nat.lt_of_lt_of_le (by have := World.block_lt_of_cell? _ _ hw365_3; first | rwa [add_block] at this | exact this) GW368.out)) | (show (Addr.add _ _).block ≠ _; rw [add_block]; exact Nat.ne_of_lt (Nat.lt_of_lt_of_le (by have := World.block_lt_of_cell? _ _ hw365_3; first | rwa [add_block] at this | exact this) GW368.out)) | (dsimp only; exact Nat.ne_of_lt (Nat.lt_of_lt_of_le (by have := World.block_lt_of_cell? _ _ hw365_3; first | rwa [add_block] at this | exact this) GW368.out))) _).trans (((cell_far (p := ⟨gb368, _, none⟩) (by first | exact Nat.ne_of_lt (Nat.lt_of_lt_of_le (by have := World.block_lt_of_cell? _ _ hw365_3; first | rwa [add_block] at this | exact this) GW368.out) | (rw [add_block]; exact Nat.ne_of_lt (Nat.lt_of_lt_of_le (by have := World.block_lt_of_cell? _ _ hw365_3; first | rwa [add_block] at this | exact this) GW368.out)) | (show (Addr.add _ _).block ≠ _; rw [add_block]; exact Nat.ne_of_lt (Nat.lt_of_lt_of_le (by have := World.block_lt_of_cell? _ _ hw365_3; first | rwa [add_block] at this | exact this) GW368.out)) | (dsimp only; exact Nat.ne_of_lt (Nat.lt_of_lt_of_le (by have := World.block_lt_of_cell? _ _ hw365_3; first | rwa [add_block] at this | exact this) GW368.out))) _).trans (((cell_far (p := ⟨gb368, _, none⟩) (by first | exact Nat.ne_of_lt (Nat.lt_of_lt_of_le (by have := World.block_lt_of_cell? _ _ hw365_3; first | rwa [add_block] at this | exact this) GW368.out) | (rw [add_block]; exact Nat.ne_of_lt (Nat.lt_of_lt_of_le (by have := World.block_lt_of_cell? _ _ hw365_3; first | rwa [add_block] at this | exact this) GW368.out)) | (show (Addr.add _ _).block ≠ _; rw [add_block]; exact Nat.ne_of_lt (Nat.lt_of_lt_of_le (by have := World.block_lt_of_cell? _ _ hw365_3; first | rwa [add_block] at this | exact this) GW368.out)) | (dsimp only; exact Nat.ne_of_lt (Nat.lt_of_lt_of_le (by have := World.block_lt_of_cell? _ _ hw365_3; first | rwa [add_block] at this | exact this) GW368.out))) _).trans (((cell_far (p := ⟨gb368, _, none⟩) (by first | exact Nat.ne_of_lt (Nat.lt_of_lt_of_le (by have := World.block_lt_of_cell? _ _ hw365_3; first | rwa [add_block] at this | exact this) GW368.out) | (rw [add_block]; exact Nat.ne_of_lt (Nat.lt_of_lt_of_le (by have := World.block_lt_of_cell? _ _ hw365_3; first | rwa [add_block] at this | exact this) GW368.out)) | (show (Addr.add _ _).block ≠ _; rw [add_block]; exact Nat.ne_of_lt (Nat.lt_of_lt_of_le (by have := World.block_lt_of_cell? _ _ hw365_3; first | rwa [add_block] at this | exact this) GW368.out)) | (dsimp only; exact Nat.ne_of_lt (Nat.lt_of_lt_of_le (by have := World.block_lt_of_cell? _ _ hw365_3; first | rwa [add_block] at this | exact this) GW368.out))) _).trans (((cell_far (p := ⟨gb368, _, none⟩) (by first | exact Nat.ne_of_lt (Nat.lt_of_lt_of_le (by have := World.block_lt_of_cell? _ _ hw365_3; first | rwa [add_block] at this | exact this) GW368.out) | (rw [add_block]; exact Nat.ne_of_lt (Nat.lt_of_lt_of_le (by have := World.block_lt_of_cell? _ _ hw365_3; first | rwa [add_block] at this | exact this) GW368.out)) | (show (Addr.add _ _).block ≠ _; rw [add_block]; exact Nat.ne_of_lt (Nat.lt_of_lt_of_le (by have := World.block_lt_of_cell? _ _ hw365_3; first | rwa [add_block] at this | exact this) GW368.out)) | (dsimp only; exact Nat.ne_of_lt (Nat.lt_of_lt_of_le (by have := World.block_lt_of_cell? _ _ hw365_3; first | rwa [add_block] at this | exact this) GW368.out))) _).trans (hHeld.2.2.2.1)))))))))))), ((cell_far (p := ⟨gb368, _, none⟩) (by first | exact Nat.ne_of_lt (Nat.lt_of_lt_of_le (by have := World.block_lt_of_cell? _ _ hw365_4; first | rwa [add_block] at this | exact this) GW368.out) | (rw [add_block]; exact Nat.ne_of_lt (Nat.lt_of_lt_of_le (by have := World.block_lt_of_cell? _ _ hw365_4; first | rwa [add_block] at this | exact this) GW368.out)) | (show (Addr.add _ _).block ≠ _; rw [add_block]; exact Nat.ne_of_lt (Nat.lt_of_lt_of_le (by have := World.block_lt_of_cell? _ _ hw365_4; first | rwa [add_block] at this | exact this) GW368.out)) | (dsimp only; exact Nat.ne_of_lt (Nat.lt_of_lt_of_le (by have := World.block_lt_of_cell? _ _ hw365_4; first | rwa [add_block] at this | exact this) GW368.out))) _).trans (((cell_far (p := ⟨gb368, _, none⟩) (by first | exact Nat.ne_of_lt (Nat.lt_of_lt_of_le (by have := World.block_lt_of_cell? _ _ hw365_4; first | rwa [add_block] at this | exact this) GW368.out) | (rw [add_block]; exact Nat.ne_of_lt (Nat.lt_of_lt_of_le (by have := World.block_lt_of_cell? _ _ hw365_4; first | rwa [add_block] at this | exact this) GW368.out)) | (show (Addr.add _ _).block ≠ _; rw [add_block]; exact Nat.ne_of_lt (Nat.lt_of_lt_of_le (by have := World.block_lt_of_cell? _ _ hw365_4; first | rwa [add_block] at this | exact this) GW368.out)) | (dsimp only; exact Nat.ne_of_lt (Nat.lt_of_lt_of_le (by have := World.block_lt_of_cell? _ _ hw365_4; first | rwa [add_block] at this | exact this) GW368.out))) _).trans (((cell_far (p := ⟨gb368, _, none⟩) (by first | exact Nat.ne_of_lt (Nat.lt_of_lt_of_le (by have := World.block_lt_of_cell? _ _ hw365_4; first | rwa [add_block] at this | exact this) GW368.out) | (rw [add_block]; exact Nat.ne_of_lt (Nat.lt_of_lt_of_le (by have := World.block_lt_of_cell? _ _ hw365_4; first | rwa [add_block] at this | exact this) GW368.out)) | (show (Addr.add _ _).block ≠ _; rw [add_block]; exact Nat.ne_of_lt (Nat.lt_of_lt_of_le (by have := World.block_lt_of_cell? _ _ hw365_4; first | rwa [add_block] at this | exact this) GW368.out)) | (dsimp only; exact Nat.ne_of_lt (Nat.lt_of_lt_of_le (by have := World.block_lt_of_cell? _ _ hw365_4; first | rwa [add_block] at this | exact this) GW368.out))) _).trans (((cell_far (p := ⟨gb368, _, none⟩) (by first | exact Nat.ne_of_lt (Nat.lt_of_lt_of_le (by have := World.block_lt_of_cell? _ _ hw365_4; first | rwa [add_block] at this | exact this) GW368.out) | (rw [add_block]; exact Nat.ne_of_lt (Nat.lt_of_lt_of_le (by have := World.block_lt_of_cell? _ _ hw365_4; first | rwa [add_block] at this | exact this) GW368.out)) | (show (Addr.add _ _).block ≠ _; rw [add_block]; exact Nat.ne_of_lt (Nat.lt_of_lt_of_le (by have := World.block_lt_of_cell? _ _ hw365_4; first | rwa [add_block] at this | exact this) GW368.out)) | (dsimp only; exact Nat.ne_of_lt (Nat.lt_of_lt_of_le (by have := World.block_lt_of_cell? _ _ hw365_4; first | rwa [add_block] at this | exact this) GW368.out))) _).trans (((cell_far (p := ⟨gb368, _, none⟩) (by first | exact Nat.ne_of_lt (Nat.lt_of_lt_of_le (by have := World.block_lt_of_cell? _ _ hw365_4; first | rwa [add_block] at this | exact this) GW368.out) | (rw [add_block]; exact Nat.ne_of_lt (Nat.lt_of_lt_of_le (by have := World.block_lt_of_cell? _ _ hw365_4; first | rwa [add_block] at this | exact this) GW368.out)) | (show (Addr.add _ _).block ≠ _; rw [add_block]; exact Nat.ne_of_lt (Nat.lt_of_lt_of_le (by have := World.block_lt_of_cell? _ _ hw365_4; first | rwa [add_block] at this | exact this) GW368.out)) | (dsimp only; exact Nat.ne_of_lt (Nat.lt_of_lt_of_le (by have := World.block_lt_of_cell? _ _ hw365_4; first | rwa [add_block] at this | exact this) GW368.out))) _).trans (((cell_far (p := ⟨gb368, _, none⟩) (by first | exact Nat.ne_of_lt (Nat.lt_of_lt_of_le (by have := World.block_lt_of_cell? _ _ hw365_4; first | rwa [add_block] at this | exact this) GW368.out) | (rw [add_block]; exact Nat.ne_of_lt (Nat.lt_of_lt_of_le (by have := World.block_lt_of_cell? _ _ hw365_4; first | rwa [add_block] at this | exact this) GW368.out)) | (show (Addr.add _ _).block ≠ _; rw [add_block]; exact Nat.ne_of_lt (Nat.lt_of_lt_of_le (by have := World.block_lt_of_cell? _ _ hw365_4; first | rwa [add_block] at this | exact this) GW368.out)) | (dsimp only; exact Nat.ne_of_lt (Nat.lt_of_lt_of_le (by have := World.block_lt_of_cell? _ _ hw365_4; first | rwa [add_block] at this | exact this) GW368.out))) _).trans (hHeld.2.2.2.2.1)))))))))))), ((cell_far (p := ⟨gb368, _, none⟩) (by first | exact Nat.ne_of_lt (Nat.lt_of_lt_of_le (by have := World.block_lt_of_cell? _ _ hw366_0; first | rwa [add_block] at this | exact this) GW368.out) | (rw [add_block]; exact Nat.ne_of_lt (Nat.lt_of_lt_of_le (by have := World.block_lt_of_cell? _ _ hw366_0; first | rwa [add_block] at this | exact this) GW368.out)) | (show (Addr.add _ _).block ≠ _; rw [add_block]; exact Nat.ne_of_lt (Nat.lt_of_lt_of_le (by have := World.block_lt_of_cell? _ _ hw366_0; first | rwa [add_block] at this | exact this) GW368.out)) | (dsimp only; exact Nat.ne_of_lt (Nat.lt_of_lt_of_le (by have := World.block_lt_of_cell? _ _ hw366_0; first | rwa [add_block] at this | exact this) GW368.out))) _).trans (((cell_far (p := ⟨gb368, _, none⟩) (by first | exact Nat.ne_of_lt (Nat.lt_of_lt_of_le (by have := World.block_lt_of_cell? _ _ hw366_0; first | rwa [add_block] at this | exact this) GW368.out) | (rw [add_block]; exact Nat.ne_of_lt (Nat.lt_of_lt_of_le (by have := World.block_lt_of_cell? _ _ hw366_0; first | rwa [add_block] at this | exact this) GW368.out)) | (show (Addr.add _ _).block ≠ _; rw [add_block]; exact Nat.ne_of_lt (Nat.lt_of_lt_of_le (by have := World.block_lt_of_cell? _ _ hw366_0; first | rwa [add_block] at this | exact this) GW368.out)) | (dsimp only; exact Nat.ne_of_lt (Nat.lt_of_lt_of_le (by have := World.block_lt_of_cell? _ _ hw366_0; first | rwa [add_block] at this | exact this) GW368.out))) _).trans (((cell_far (p := ⟨gb368, _, none⟩) (by first | exact Nat.ne_of_lt (Nat.lt_of_lt_of_le (by have := World.block_lt_of_cell? _ _ hw366_0; first | rwa [add_block] at this | exact this) GW368.out) | (rw [add_block]; exact Nat.ne_of_lt (Nat.lt_of_lt_of_le (by have := World.block_lt_of_cell? _ _ hw366_0; first | rwa [add_block] at this | exact this) GW368.out)) | (show (Addr.add _ _).block ≠ _; rw [add_block]; exact Nat.ne_of_lt (Nat.lt_of_lt_of_le (by have := World.block_lt_of_cell? _ _ hw366_0; first | rwa [add_block] at this | exact this) GW368.out)) | (dsimp only; exact Nat.ne_of_lt (Nat.lt_of_lt_of_le (by have := World.block_lt_of_cell? _ _ hw366_0; first | rwa [add_block] at this | exact this) GW368.out))) _).trans (((cell_far (p := ⟨gb368, _, none⟩) (by first | exact Nat.ne_of_lt (Nat.lt_of_lt_of_le (by have := World.block_lt_of_cell? _ _ hw366_0; first | rwa [add_block] at this | exact this) GW368.out) | (rw [add_block]; exact Nat.ne_of_lt (Nat.lt_of_lt_of_le (by have := World.block_lt_of_cell? _ _ hw366_0; first | rwa [add_block] at this | exact this) GW368.out)) | (show (Addr.add _ _).block ≠ _; rw [add_block]; exact Nat.ne_of_lt (Nat.lt_of_lt_of_le (by have := World.block_lt_of_cell? _ _ hw366_0; first | rwa [add_block] at this | exact this) GW368.out)) | (dsimp only; exact Nat.ne_of_lt (Nat.lt_of_lt_of_le (by have := World.block_lt_of_cell? _ _ hw366_0; first | rwa [add_block] at this | exact this) GW368.out))) _).trans (((cell_far (p := ⟨gb368, _, none⟩) (by first | exact Nat.ne_of_lt (Nat.lt_of_lt_of_le (by have := World.block_lt_of_cell? _ _ hw366_0; first | rwa [add_block] at this | exact this) GW368.out) | (rw [add_block]; exact Nat.ne_of_lt (Nat.lt_of_lt_of_le (by have := World.block_lt_of_cell? _ _ hw366_0; first | rwa [add_block] at this | exact this) GW368.out)) | (show (Addr.add _ _).block ≠ _; rw [add_block]; exact Nat.ne_of_lt (Nat.lt_of_lt_of_le (by have := World.block_lt_of_cell? _ _ hw366_0; first | rwa [add_block] at this | exact this) GW368.out)) | (dsimp only; exact Nat.ne_of_lt (Nat.lt_of_lt_of_le (by have := World.block_lt_of_cell? _ _ hw366_0; first | rwa [add_block] at this | exact this) GW368.out))) _).trans (((cell_far (p := ⟨gb368, _, none⟩) (by first | exact Nat.ne_of_lt (Nat.lt_of_lt_of_le (by have := World.block_lt_of_cell? _ _ hw366_0; first | rwa [add_block] at this | exact this) GW368.out) | (rw [add_block]; exact Nat.ne_of_lt (Nat.lt_of_lt_of_le (by have := World.block_lt_of_cell? _ _ hw366_0; first | rwa [add_block] at this | exact this) GW368.out)) | (show (Addr.add _ _).block ≠ _; rw [add_block]; exact Nat.ne_of_lt (Nat.lt_of_lt_of_le (by have := World.block_lt_of_cell? _ _ hw366_0; first | rwa [add_block] at this | exact this) GW368.out)) | (dsimp only; exact Nat.ne_of_lt (Nat.lt_of_lt_of_le (by have := World.block_lt_of_cell? _ _ hw366_0; first | rwa [add_block] at this | exact this) GW368.out))) _).trans (hHeld.2.2.2.2.2.1)))))))))))), ((cell_far (p := ⟨gb368, _, none⟩) (by first | exact Nat.ne_of_lt (Nat.lt_of_lt_of_le (by have := World.block_lt_of_cell? _ _ hw366_1; first | rwa [add_block] at this | exact this) GW368.out) | (rw [add_block]; exact Nat.ne_of_lt (Nat.lt_of_lt_of_le (by have := World.block_lt_of_cell? _ _ hw366_1; first | rwa [add_block] at this | exact this) GW368.out)) | (show (Addr.add _ _).block ≠ _; rw [add_block]; exact Nat.ne_of_lt (Nat.lt_of_lt_of_le (by have := World.block_lt_of_cell? _ _ hw366_1; first | rwa [add_block] at this | exact this) GW368.out)) | (dsimp only; exact Nat.ne_of_lt (Nat.lt_of_lt_of_le (by have := World.block_lt_of_cell? _ _ hw366_1; first | rwa [add_block] at this | exact this) GW368.out))) _).trans (((cell_far (p := ⟨gb368, _, none⟩) (by first | exact Nat.ne_of_lt (Nat.lt_of_lt_of_le (by have := World.block_lt_of_cell? _ _ hw366_1; first | rwa [add_block] at this | exact this) GW368.out) | (rw [add_block]; exact Nat.ne_of_lt (Nat.lt_of_lt_of_le (by have := World.block_lt_of_cell? _ _ hw366_1; first | rwa [add_block] at this | exact this) GW368.out)) | (show (Addr.add _ _).block ≠ _; rw [add_block]; exact Nat.ne_of_lt (Nat.lt_of_lt_of_le (by have := World.block_lt_of_cell? _ _ hw366_1; first | rwa [add_block] at this | exact this) GW368.out)) | (dsimp only; exact Nat.ne_of_lt (Nat.lt_of_lt_of_le (by have := World.block_lt_of_cell? _ _ hw366_1; first | rwa [add_block] at this | exact this) GW368.out))) _).trans (((cell_far (p := ⟨gb368, _, none⟩) (by first | exact Nat.ne_of_lt (Nat.lt_of_lt_of_le (by have := World.block_lt_of_cell? _ _ hw366_1; first | rwa [add_block] at this | exact this) GW368.out) | (rw [add_block]; exact Nat.ne_of_lt (Nat.lt_of_lt_of_le (by have := World.block_lt_of_cell? _ _ hw366_1; first | rwa [add_block] at this | exact this) GW368.out)) | (show (Addr.add _ _).block ≠ _; rw [add_block]; exact Nat.ne_of_lt (Nat.lt_of_lt_of_le (by have := World.block_lt_of_cell? _ _ hw366_1; first | rwa [add_block] at this | exact this) GW368.out)) | (dsimp only; exact Nat.ne_of_lt (Nat.lt_of_lt_of_le (by have := World.block_lt_of_cell? _ _ hw366_1; first | rwa [add_block] at this | exact this) GW368.out))) _).trans (((cell_far (p := ⟨gb368, _, none⟩) (by first | exact Nat.ne_of_lt (Nat.lt_of_lt_of_le (by have := World.block_lt_of_cell? _ _ hw366_1; first | rwa [add_block] at this | exact this) GW368.out) | (rw [add_block]; exact Nat.ne_of_lt (Nat.lt_of_lt_of_le (by have := World.block_lt_of_cell? _ _ hw366_1; first | rwa [add_block] at this | exact this) GW368.out)) | (show (Addr.add _ _).block ≠ _; rw [add_block]; exact Nat.ne_of_lt (Nat.lt_of_lt_of_le (by have := World.block_lt_of_cell? _ _ hw366_1; first | rwa [add_block] at this | exact this) GW368.out)) | (dsimp only; exact Nat.ne_of_lt (Nat.lt_of_lt_of_le (by have := World.block_lt_of_cell? _ _ hw366_1; first | rwa [add_block] at this | exact this) GW368.out))) _).trans (((cell_far (p := ⟨gb368, _, none⟩) (by first | exact Nat.ne_of_lt (Nat.lt_of_lt_of_le (by have := World.block_lt_of_cell? _ _ hw366_1; first | rwa [add_block] at this | exact this) GW368.out) | (rw [add_block]; exact Nat.ne_of_lt (Nat.lt_of_lt_of_le (by have := World.block_lt_of_cell? _ _ hw366_1; first | rwa [add_block] at this | exact this) GW368.out)) | (show (Addr.add _ _).block ≠ _; rw [add_block]; exact Nat.ne_of_lt (Nat.lt_of_lt_of_le (by have := World.block_lt_of_cell? _ _ hw366_1; first | rwa [add_block] at this | exact this) GW368.out)) | (dsimp only; exact Nat.ne_of_lt (Nat.lt_of_lt_of_le (by have := World.block_lt_of_cell? _ _ hw366_1; first | rwa [add_block] at this | exact this) GW368.out))) _).trans (((cell_far (p := ⟨gb368, _, none⟩) (by first | exact Nat.ne_of_lt (Nat.lt_of_lt_of_le (by have := World.block_lt_of_cell? _ _ hw366_1; first | rwa [add_block] at this | exact this) GW368.out) | (rw [add_block]; exact Nat.ne_of_lt (Nat.lt_of_lt_of_le (by have := World.block_lt_of_cell? _ _ hw366_1; first | rwa [add_block] at this | exact this) GW368.out)) | (show (Addr.add _ _).block ≠ _; rw [add_block]; exact Nat.ne_of_lt (Nat.lt_of_lt_of_le (by have := World.block_lt_of_cell? _ _ hw366_1; first | rwa [add_block] at this | exact this) GW368.out)) | (dsimp only; exact Nat.ne_of_lt (Nat.lt_of_lt_of_le (by have := World.block_lt_of_cell? _ _ hw366_1; first | rwa [add_block] at this | exact this) GW368.out))) _).trans (hHeld.2.2.2.2.2.2.1)))))))))))), ((cell_far (p := ⟨gb368, _, none⟩) (by first | exact Nat.ne_of_lt (Nat.lt_of_lt_of_le (by have := World.block_lt_of_cell? _ _ hw366_2; first | rwa [add_block] at this | exact this) GW368.out) | (rw [add_block]; exact Nat.ne_of_lt (Nat.lt_of_lt_of_le (by have := World.block_lt_of_cell? _ _ hw366_2; first | rwa [add_block] at this | exact this) GW368.out)) | (show (Addr.add _ _).block ≠ _; rw [add_block]; exact Nat.ne_of_lt (Nat.lt_of_lt_of_le (by have := World.block_lt_of_cell? _ _ hw366_2; first | rwa [add_block] at this | exact this) GW368.out)) | (dsimp only; exact Nat.ne_of_lt (Nat.lt_of_lt_of_le (by have := World.block_lt_of_cell? _ _ hw366_2; first | rwa [add_block] at this | exact this) GW368.out))) _).trans (((cell_far (p := ⟨gb368, _, none⟩) (by first | exact Nat.ne_of_lt (Nat.lt_of_lt_of_le (by have := World.block_lt_of_cell? _ _ hw366_2; first | rwa [add_block] at this | exact this) GW368.out) | (rw [add_block]; exact Nat.ne_of_lt (Nat.lt_of_lt_of_le (by have := World.block_lt_of_cell? _ _ hw366_2; first | rwa [add_block] at this | exact this) GW368.out)) | (show (Addr.add _ _).block ≠ _; rw [add_block]; exact Nat.ne_of_lt (Nat.lt_of_lt_of_le (by have := World.block_lt_of_cell? _ _ hw366_2; first | rwa [add_block] at this | exact this) GW368.out)) | (dsimp only; exact Nat.ne_of_lt (Nat.lt_of_lt_of_le (by have := World.block_lt_of_cell? _ _ hw366_2; first | rwa [add_block] at this | exact this) GW368.out))) _).trans (((cell_far (p := ⟨gb368, _, none⟩) (by first | exact Nat.ne_of_lt (Nat.lt_of_lt_of_le (by have := World.block_lt_of_cell? _ _ hw366_2; first | rwa [add_block] at this | exact this) GW368.out) | (rw [add_block]; exact Nat.ne_of_lt (Nat.lt_of_lt_of_le (by have := World.block_lt_of_cell? _ _ hw366_2; first | rwa [add_block] at this | exact this) GW368.out)) | (show (Addr.add _ _).block ≠ _; rw [add_block]; exact Nat.ne_of_lt (Nat.lt_of_lt_of_le (by have := World.block_lt_of_cell? _ _ hw366_2; first | rwa [add_block] at this | exact this) GW368.out)) | (dsimp only; exact Nat.ne_of_lt (Nat.lt_of_lt_of_le (by have := World.block_lt_of_cell? _ _ hw366_2; first | rwa [add_block] at this | exact this) GW368.out))) _).trans (((cell_far (p := ⟨gb368, _, none⟩) (by first | exact Nat.ne_of_lt (Nat.lt_of_lt_of_le (by have := World.block_lt_of_cell? _ _ hw366_2; first | rwa [add_block] at this | exact this) GW368.out) | (rw [add_block]; exact Nat.ne_of_lt (Nat.lt_of_lt_of_le (by have := World.block_lt_of_cell? _ _ hw366_2; first | rwa [add_block] at this | exact this) GW368.out)) | (show (Addr.add _ _).block ≠ _; rw [add_block]; exact Nat.ne_of_lt (Nat.lt_of_lt_of_le (by have := World.block_lt_of_cell? _ _ hw366_2; first | rwa [add_block] at this | exact this) GW368.out)) | (dsimp only; exact Nat.ne_of_lt (Nat.lt_of_lt_of_le (by have := World.block_lt_of_cell? _ _ hw366_2; first | rwa [add_block] at this | exact this) GW368.out))) _).trans (((cell_far (p := ⟨gb368, _, none⟩) (by first | exact Nat.ne_of_lt (Nat.lt_of_lt_of_le (by have := World.block_lt_of_cell? _ _ hw366_2; first | rwa [add_block] at this | exact this) GW368.out) | (rw [add_block]; exact Nat.ne_of_lt (Nat.lt_of_lt_of_le (by have := World.block_lt_of_cell? _ _ hw366_2; first | rwa [add_block] at this | exact this) GW368.out)) | (show (Addr.add _ _).block ≠ _; rw [add_block]; exact Nat.ne_of_lt (Nat.lt_of_lt_of_le (by have := World.block_lt_of_cell? _ _ hw366_2; first | rwa [add_block] at this | exact this) GW368.out)) | (dsimp only; exact Nat.ne_of_lt (Nat.lt_of_lt_of_le (by have := World.block_lt_of_cell? _ _ hw366_2; first | rwa [add_block] at this | exact this) GW368.out))) _).trans (((cell_far (p := ⟨gb368, _, none⟩) (by first | exact Nat.ne_of_lt (Nat.lt_of_lt_of_le (by have := World.block_lt_of_cell? _ _ hw366_2; first | rwa [add_block] at this | exact this) GW368.out) | (rw [add_block]; exact Nat.ne_of_lt (Nat.lt_of_lt_of_le (by have := World.block_lt_of_cell? _ _ hw366_2; first | rwa [add_block] at this | exact this) GW368.out)) | (show (Addr.add _ _).block ≠ _; rw [add_block]; exact Nat.ne_of_lt (Nat.lt_of_lt_of_le (by have := World.block_lt_of_cell? _ _ hw366_2; first | rwa [add_block] at this | exact this) GW368.out)) | (dsimp only; exact Nat.ne_of_lt (Nat.lt_of_lt_of_le (by have := World.block_lt_of_cell? _ _ hw366_2; first | rwa [add_block] at this | exact this) GW368.out))) _).trans (hHeld.2.2.2.2.2.2.2.1)))))))))))), ((cell_far (p := ⟨gb368, _, none⟩) (by first | exact Nat.ne_of_lt (Nat.lt_of_lt_of_le (by have := World.block_lt_of_cell? _ _ hw366_3; first | rwa [add_block] at this | exact this) GW368.out) | (rw [add_block]; exact Nat.ne_of_lt (Nat.lt_of_lt_of_le (by have := World.block_lt_of_cell? _ _ hw366_3; first | rwa [add_block] at this | exact this) GW368.out)) | (show (Addr.add _ _).block ≠ _; rw [add_block]; exact Nat.ne_of_lt (Nat.lt_of_lt_of_le (by have := World.block_lt_of_cell? _ _ hw366_3; first | rwa [add_block] at this | exact this) GW368.out)) | (dsimp only; exact Nat.ne_of_lt (Nat.lt_of_lt_of_le (by have := World.block_lt_of_cell? _ _ hw366_3; first | rwa [add_block] at this | exact this) GW368.out))) _).trans (((cell_far (p := ⟨gb368, _, none⟩) (by first | exact Nat.ne_of_lt (Nat.lt_of_lt_of_le (by have := World.block_lt_of_cell? _ _ hw366_3; first | rwa [add_block] at this | exact this) GW368.out) | (rw [add_block]; exact Nat.ne_of_lt (Nat.lt_of_lt_of_le (by have := World.block_lt_of_cell? _ _ hw366_3; first | rwa [add_block] at this | exact this) GW368.out)) | (show (Addr.add _ _).block ≠ _; rw [add_block]; exact Nat.ne_of_lt (Nat.lt_of_lt_of_le (by have := World.block_lt_of_cell? _ _ hw366_3; first | rwa [add_block] at this | exact this) GW368.out)) | (dsimp only; exact Nat.ne_of_lt (Nat.lt_of_lt_of_le (by have := World.block_lt_of_cell? _ _ hw366_3; first | rwa [add_block] at this | exact this) GW368.out))) _).trans (((cell_far (p := ⟨gb368, _, none⟩) (by first | exact Nat.ne_of_lt (Nat.lt_of_lt_of_le (by have := World.block_lt_of_cell? _ _ hw366_3; first | rwa [add_block] at this | exact this) GW368.out) | (rw [add_block]; exact Nat.ne_of_lt (Nat.lt_of_lt_of_le (by have := World.block_lt_of_cell? _ _ hw366_3; first | rwa [add_block] at this | exact this) GW368.out)) | (show (Addr.add _ _).block ≠ _; rw [add_block]; exact Nat.ne_of_lt (Nat.lt_of_lt_of_le (by have := World.block_lt_of_cell? _ _ hw366_3; first | rwa [add_block] at this | exact this) GW368.out)) | (dsimp only; exact Nat.ne_of_lt (Nat.lt_of_lt_of_le (by have := World.block_lt_of_cell? _ _ hw366_3; first | rwa [add_block] at this | exact this) GW368.out))) _).trans (((cell_far (p := ⟨gb368, _, none⟩) (by first | exact Nat.ne_of_lt (Nat.lt_of_lt_of_le (by have := World.block_lt_of_cell? _ _ hw366_3; first | rwa [add_block] at this | exact this) GW368.out) | (rw [add_block]; exact Nat.ne_of_lt (Nat.lt_of_lt_of_le (by have := World.block_lt_of_cell? _ _ hw366_3; first | rwa [add_block] at this | exact this) GW368.out)) | (show (Addr.add _ _).block ≠ _; rw [add_block]; exact Nat.ne_of_lt (Nat.lt_of_lt_of_le (by have := World.block_lt_of_cell? _ _ hw366_3; first | rwa [add_block] at this | exact this) GW368.out)) | (dsimp only; exact Nat.ne_of_lt (Nat.lt_of_lt_of_le (by have := World.block_lt_of_cell? _ _ hw366_3; first | rwa [add_block] at this | exact this) GW368.out))) _).trans (((cell_far (p := ⟨gb368, _, none⟩) (by first | exact Nat.ne_of_lt (Nat.lt_of_lt_of_le (by have := World.block_lt_of_cell? _ _ hw366_3; first | rwa [add_block] at this | exact this) GW368.out) | (rw [add_block]; exact Nat.ne_of_lt (Nat.lt_of_lt_of_le (by have := World.block_lt_of_cell? _ _ hw366_3; first | rwa [add_block] at this | exact this) GW368.out)) | (show (Addr.add _ _).block ≠ _; rw [add_block]; exact Nat.ne_of_lt (Nat.lt_of_lt_of_le (by have := World.block_lt_of_cell? _ _ hw366_3; first | rwa [add_block] at this | exact this) GW368.out)) | (dsimp only; exact Nat.ne_of_lt (Nat.lt_of_lt_of_le (by have := World.block_lt_of_cell? _ _ hw366_3; first | rwa [add_block] at this | exact this) GW368.out))) _).trans (((cell_far (p := ⟨gb368, _, none⟩) (by first | exact Nat.ne_of_lt (Nat.lt_of_lt_of_le (by have := World.block_lt_of_cell? _ _ hw366_3; first | rwa [add_block] at this | exact this) GW368.out) | (rw [add_block]; exact Nat.ne_of_lt (Nat.lt_of_lt_of_le (by have := World.block_lt_of_cell? _ _ hw366_3; first | rwa [add_block] at this | exact this) GW368.out)) | (show (Addr.add _ _).block ≠ _; rw [add_block]; exact Nat.ne_of_lt (Nat.lt_of_lt_of_le (by have := World.block_lt_of_cell? _ _ hw366_3; first | rwa [add_block] at this | exact this) GW368.out)) | (dsimp only; exact Nat.ne_of_lt (Nat.lt_of_lt_of_le (by have := World.block_lt_of_cell? _ _ hw366_3; first | rwa [add_block] at this | exact this) GW368.out))) _).trans (hHeld.2.2.2.2.2.2.2.2.1)))))))))))), ((cell_far (p := ⟨gb368, _, none⟩) (by first | exact Nat.ne_of_lt (Nat.lt_of_lt_of_le (by have := World.block_lt_of_cell? _ _ hw366_4; first | rwa [add_block] at this | exact this) GW368.out) | (rw [add_block]; exact Nat.ne_of_lt (Nat.lt_of_lt_of_le (by have := World.block_lt_of_cell? _ _ hw366_4; first | rwa [add_block] at this | exact this) GW368.out)) | (show (Addr.add _ _).block ≠ _; rw [add_block]; exact Nat.ne_of_lt (Nat.lt_of_lt_of_le (by have := World.block_lt_of_cell? _ _ hw366_4; first | rwa [add_block] at this | exact this) GW368.out)) | (dsimp only; exact Nat.ne_of_lt (Nat.lt_of_lt_of_le (by have := World.block_lt_of_cell? _ _ hw366_4; first | rwa [add_block] at this | exact this) GW368.out))) _).trans (((cell_far (p := ⟨gb368, _, none⟩) (by first | exact Nat.ne_of_lt (Nat.lt_of_lt_of_le (by have := World.block_lt_of_cell? _ _ hw366_4; first | rwa [add_block] at this | exact this) GW368.out) | (rw [add_block]; exact Nat.ne_of_lt (Nat.lt_of_lt_of_le (by have := World.block_lt_of_cell? _ _ hw366_4; first | rwa [add_block] at this | exact this) GW368.out)) | (show (Addr.add _ _).block ≠ _; rw [add_block]; exact Nat.ne_of_lt (Nat.lt_of_lt_of_le (by have := World.block_lt_of_cell? _ _ hw366_4; first | rwa [add_block] at this | exact this) GW368.out)) | (dsimp only; exact Nat.ne_of_lt (Nat.lt_of_lt_of_le (by have := World.block_lt_of_cell? _ _ hw366_4; first | rwa [add_block] at this | exact this) GW368.out))) _).trans (((cell_far (p := ⟨gb368, _, none⟩) (by first | exact Nat.ne_of_lt (Nat.lt_of_lt_of_le (by have := World.block_lt_of_cell? _ _ hw366_4; first | rwa [add_block] at this | exact this) GW368.out) | (rw [add_block]; exact Nat.ne_of_lt (Nat.lt_of_lt_of_le (by have := World.block_lt_of_cell? _ _ hw366_4; first | rwa [add_block] at this | exact this) GW368.out)) | (show (Addr.add _ _).block ≠ _; rw [add_block]; exact Nat.ne_of_lt (Nat.lt_of_lt_of_le (by have := World.block_lt_of_cell? _ _ hw366_4; first | rwa [add_block] at this | exact this) GW368.out)) | (dsimp only; exact Nat.ne_of_lt (Nat.lt_of_lt_of_le (by have := World.block_lt_of_cell? _ _ hw366_4; first | rwa [add_block] at this | exact this) GW368.out))) _).trans (((cell_far (p := ⟨gb368, _, none⟩) (by first | exact Nat.ne_of_lt (Nat.lt_of_lt_of_le (by have := World.block_lt_of_cell? _ _ hw366_4; first | rwa [add_block] at this | exact this) GW368.out) | (rw [add_block]; exact Nat.ne_of_lt (Nat.lt_of_lt_of_le (by have := World.block_lt_of_cell? _ _ hw366_4; first | rwa [add_block] at this | exact this) GW368.out)) | (show (Addr.add _ _).block ≠ _; rw [add_block]; exact Nat.ne_of_lt (Nat.lt_of_lt_of_le (by have := World.block_lt_of_cell? _ _ hw366_4; first | rwa [add_block] at this | exact this) GW368.out)) | (dsimp only; exact Nat.ne_of_lt (Nat.lt_of_lt_of_le (by have := World.block_lt_of_cell? _ _ hw366_4; first | rwa [add_block] at this | exact this) GW368.out))) _).trans (((cell_far (p := ⟨gb368, _, none⟩) (by first | exact Nat.ne_of_lt (Nat.lt_of_lt_of_le (by have := World.block_lt_of_cell? _ _ hw366_4; first | rwa [add_block] at this | exact this) GW368.out) | (rw [add_block]; exact Nat.ne_of_lt (Nat.lt_of_lt_of_le (by have := World.block_lt_of_cell? _ _ hw366_4; first | rwa [add_block] at this | exact this) GW368.out)) | (show (Addr.add _ _).block ≠ _; rw [add_block]; exact Nat.ne_of_lt (Nat.lt_of_lt_of_le (by have := World.block_lt_of_cell? _ _ hw366_4; first | rwa [add_block] at this | exact this) GW368.out)) | (dsimp only; exact Nat.ne_of_lt (Nat.lt_of_lt_of_le (by have := World.block_lt_of_cell? _ _ hw366_4; first | rwa [add_block] at this | exact this) GW368.out))) _).trans (((cell_far (p := ⟨gb368, _, none⟩) (by first | exact Nat.ne_of_lt (Nat.lt_of_lt_of_le (by have := World.block_lt_of_cell? _ _ hw366_4; first | rwa [add_block] at this | exact this) GW368.out) | (rw [add_block]; exact Nat.ne_of_lt (Nat.lt_of_lt_of_le (by have := World.block_lt_of_cell? _ _ hw366_4; first | rwa [add_block] at this | exact this) GW368.out)) | (show (Addr.add _ _).block ≠ _; rw [add_block]; exact Nat.ne_of_lt (Nat.lt_of_lt_of_le (by have := World.block_lt_of_cell? _ _ hw366_4; first | rwa [add_block] at this | exact this) GW368.out)) | (dsimp only; exact Nat.ne_of_lt (Nat.lt_of_lt_of_le (by have := World.block_lt_of_cell? _ _ hw366_4; first | rwa [add_block] at this | exact this) GW368.out))) _).trans (hHeld.2.2.2.2.2.2.2.2.2.1)))))))))))), ((cell_far (p := ⟨gb368, _, none⟩) (by first | exact Nat.ne_of_lt (Nat.lt_of_lt_of_le (by have := World.block_lt_of_cell? _ _ hw367_0; first | rwa [add_block] at this | exact this) GW368.out) | (rw [add_block]; exact Nat.ne_of_lt (Nat.lt_of_lt_of_le (by have := World.block_lt_of_cell? _ _ hw367_0; first | rwa [add_block] at this | exact this) GW368.out)) | (show (Addr.add _ _).block ≠ _; rw [add_block]; exact Nat.ne_of_lt (Nat.lt_of_lt_of_le (by have := World.block_lt_of_cell? _ _ hw367_0; first | rwa [add_block] at this | exact this) GW368.out)) | (dsimp only; exact Nat.ne_of_lt (Nat.lt_of_lt_of_le (by have := World.block_lt_of_cell? _ _ hw367_0; first | rwa [add_block] at this | exact this) GW368.out))) _).trans (((cell_far (p := ⟨gb368, _, none⟩) (by first | exact Nat.ne_of_lt (Nat.lt_of_lt_of_le (by have := World.block_lt_of_cell? _ _ hw367_0; first | rwa [add_block] at this | exact this) GW368.out) | (rw [add_block]; exact Nat.ne_of_lt (Nat.lt_of_lt_of_le (by have := World.block_lt_of_cell? _ _ hw367_0; first | rwa [add_block] at this | exact this) GW368.out)) | (show (Addr.add _ _).block ≠ _; rw [add_block]; exact Nat.ne_of_lt (Nat.lt_of_lt_of_le (by have := World.block_lt_of_cell? _ _ hw367_0; first | rwa [add_block] at this | exact this) GW368.out)) | (dsimp only; exact Nat.ne_of_lt (Nat.lt_of_lt_of_le (by have := World.block_lt_of_cell? _ _ hw367_0; first | rwa [add_block] at this | exact this) GW368.out))) _).trans (((cell_far (p := ⟨gb368, _, none⟩) (by first | exact Nat.ne_of_lt (Nat.lt_of_lt_of_le (by have := World.block_lt_of_cell? _ _ hw367_0; first | rwa [add_block] at this | exact this) GW368.out) | (rw [add_block]; exact Nat.ne_of_lt (Nat.lt_of_lt_of_le (by have := World.block_lt_of_cell? _ _ hw367_0; first | rwa [add_block] at this | exact this) GW368.out)) | (show (Addr.add _ _).block ≠ _; rw [add_block]; exact Nat.ne_of_lt (Nat.lt_of_lt_of_le (by have := World.block_lt_of_cell? _ _ hw367_0; first | rwa [add_block] at this | exact this) GW368.out)) | (dsimp only; exact Nat.ne_of_lt (Nat.lt_of_lt_of_le (by have := World.block_lt_of_cell? _ _ hw367_0; first | rwa [add_block] at this | exact this) GW368.out))) _).trans (((cell_far (p := ⟨gb368, _, none⟩) (by first | exact Nat.ne_of_lt (Nat.lt_of_lt_of_le (by have := World.block_lt_of_cell? _ _ hw367_0; first | rwa [add_block] at this | exact this) GW368.out) | (rw [add_block]; exact Nat.ne_of_lt (Nat.lt_of_lt_of_le (by have := World.block_lt_of_cell? _ _ hw367_0; first | rwa [add_block] at this | exact this) GW368.out)) | (show (Addr.add _ _).block ≠ _; rw [add_block]; exact Nat.ne_of_lt (Nat.lt_of_lt_of_le (by have := World.block_lt_of_cell? _ _ hw367_0; first | rwa [add_block] at this | exact this) GW368.out)) | (dsimp only; exact Nat.ne_of_lt (Nat.lt_of_lt_of_le (by have := World.block_lt_of_cell? _ _ hw367_0; first | rwa [add_block] at this | exact this) GW368.out))) _).trans (((cell_far (p := ⟨gb368, _, none⟩) (by first | exact Nat.ne_of_lt (Nat.lt_of_lt_of_le (by have := World.block_lt_of_cell? _ _ hw367_0; first | rwa [add_block] at this | exact this) GW368.out) | (rw [add_block]; exact Nat.ne_of_lt (Nat.lt_of_lt_of_le (by have := World.block_lt_of_cell? _ _ hw367_0; first | rwa [add_block] at this | exact this) GW368.out)) | (show (Addr.add _ _).block ≠ _; rw [add_block]; exact Nat.ne_of_lt (Nat.lt_of_lt_of_le (by have := World.block_lt_of_cell? _ _ hw367_0; first | rwa [add_block] at this | exact this) GW368.out)) | (dsimp only; exact Nat.ne_of_lt (Nat.lt_of_lt_of_le (by have := World.block_lt_of_cell? _ _ hw367_0; first | rwa [add_block] at this | exact this) GW368.out))) _).trans (((cell_far (p := ⟨gb368, _, none⟩) (by first | exact Nat.ne_of_lt (Nat.lt_of_lt_of_le (by have := World.block_lt_of_cell? _ _ hw367_0; first | rwa [add_block] at this | exact this) GW368.out) | (rw [add_block]; exact Nat.ne_of_lt (Nat.lt_of_lt_of_le (by have := World.block_lt_of_cell? _ _ hw367_0; first | rwa [add_block] at this | exact this) GW368.out)) | (show (Addr.add _ _).block ≠ _; rw [add_block]; exact Nat.ne_of_lt (Nat.lt_of_lt_of_le (by have := World.block_lt_of_cell? _ _ hw367_0; first | rwa [add_block] at this | exact this) GW368.out)) | (dsimp only; exact Nat.ne_of_lt (Nat.lt_of_lt_of_le (by have := World.block_lt_of_cell? _ _ hw367_0; first | rwa [add_block] at this | exact this) GW368.out))) _).trans (hHeld.2.2.2.2.2.2.2.2.2.2.1)))))))))))), ((cell_far (p := ⟨gb368, _, none⟩) (by first | exact Nat.ne_of_lt (Nat.lt_of_lt_of_le (by have := World.block_lt_of_cell? _ _ hw367_1; first | rwa [add_block] at this | exact this) GW368.out) | (rw [add_block]; exact Nat.ne_of_lt (Nat.lt_of_lt_of_le (by have := World.block_lt_of_cell? _ _ hw367_1; first | rwa [add_block] at this | exact this) GW368.out)) | (show (Addr.add _ _).block ≠ _; rw [add_block]; exact Nat.ne_of_lt (Nat.lt_of_lt_of_le (by have := World.block_lt_of_cell? _ _ hw367_1; first | rwa [add_block] at this | exact this) GW368.out)) | (dsimp only; exact Nat.ne_of_lt (Nat.lt_of_lt_of_le (by have := World.block_lt_of_cell? _ _ hw367_1; first | rwa [add_block] at this | exact this) GW368.out))) _).trans (((cell_far (p := ⟨gb368, _, none⟩) (by first | exact Nat.ne_of_lt (Nat.lt_of_lt_of_le (by have := World.block_lt_of_cell? _ _ hw367_1; first | rwa [add_block] at this | exact this) GW368.out) | (rw [add_block]; exact Nat.ne_of_lt (Nat.lt_of_lt_of_le (by have := World.block_lt_of_cell? _ _ hw367_1; first | rwa [add_block] at this | exact this) GW368.out)) | (show (Addr.add _ _).block ≠ _; rw [add_block]; exact Nat.ne_of_lt (Nat.lt_of_lt_of_le (by have := World.block_lt_of_cell? _ _ hw367_1; first | rwa [add_block] at this | exact this) GW368.out)) | (dsimp only; exact Nat.ne_of_lt (Nat.lt_of_lt_of_le (by have := World.block_lt_of_cell? _ _ hw367_1; first | rwa [add_block] at this | exact this) GW368.out))) _).trans (((cell_far (p := ⟨gb368, _, none⟩) (by first | exact Nat.ne_of_lt (Nat.lt_of_lt_of_le (by have := World.block_lt_of_cell? _ _ hw367_1; first | rwa [add_block] at this | exact this) GW368.out) | (rw [add_block]; exact Nat.ne_of_lt (Nat.lt_of_lt_of_le (by have := World.block_lt_of_cell? _ _ hw367_1; first | rwa [add_block] at this | exact this) GW368.out)) | (show (Addr.add _ _).block ≠ _; rw [add_block]; exact Nat.ne_of_lt (Nat.lt_of_lt_of_le (by have := World.block_lt_of_cell? _ _ hw367_1; first | rwa [add_block] at this | exact this) GW368.out)) | (dsimp only; exact Nat.ne_of_lt (Nat.lt_of_lt_of_le (by have := World.block_lt_of_cell? _ _ hw367_1; first | rwa [add_block] at this | exact this) GW368.out))) _).trans (((cell_far (p := ⟨gb368, _, none⟩) (by first | exact Nat.ne_of_lt (Nat.lt_of_lt_of_le (by have := World.block_lt_of_cell? _ _ hw367_1; first | rwa [add_block] at this | exact this) GW368.out) | (rw [add_block]; exact Nat.ne_of_lt (Nat.lt_of_lt_of_le (by have := World.block_lt_of_cell? _ _ hw367_1; first | rwa [add_block] at this | exact this) GW368.out)) | (show (Addr.add _ _).block ≠ _; rw [add_block]; exact Nat.ne_of_lt (Nat.lt_of_lt_of_le (by have := World.block_lt_of_cell? _ _ hw367_1; first | rwa [add_block] at this | exact this) GW368.out)) | (dsimp only; exact Nat.ne_of_lt (Nat.lt_of_lt_of_le (by have := World.block_lt_of_cell? _ _ hw367_1; first | rwa [add_block] at this | exact this) GW368.out))) _).trans (((cell_far (p := ⟨gb368, _, none⟩) (by first | exact Nat.ne_of_lt (Nat.lt_of_lt_of_le (by have := World.block_lt_of_cell? _ _ hw367_1; first | rwa [add_block] at this | exact this) GW368.out) | (rw [add_block]; exact Nat.ne_of_lt (Nat.lt_of_lt_of_le (by have := World.block_lt_of_cell? _ _ hw367_1; first | rwa [add_block] at this | exact this) GW368.out)) | (show (Addr.add _ _).block ≠ _; rw [add_block]; exact Nat.ne_of_lt (Nat.lt_of_lt_of_le (by have := World.block_lt_of_cell? _ _ hw367_1; first | rwa [add_block] at this | exact this) GW368.out)) | (dsimp only; exact Nat.ne_of_lt (Nat.lt_of_lt_of_le (by have := World.block_lt_of_cell? _ _ hw367_1; first | rwa [add_block] at this | exact this) GW368.out))) _).trans (((cell_far (p := ⟨gb368, _, none⟩) (by first | exact Nat.ne_of_lt (Nat.lt_of_lt_of_le (by have := World.block_lt_of_cell? _ _ hw367_1; first | rwa [add_block] at this | exact this) GW368.out) | (rw [add_block]; exact Nat.ne_of_lt (Nat.lt_of_lt_of_le (by have := World.block_lt_of_cell? _ _ hw367_1; first | rwa [add_block] at this | exact this) GW368.out)) | (show (Addr.add _ _).block ≠ _; rw [add_block]; exact Nat.ne_of_lt (Nat.lt_of_lt_of_le (by have := World.block_lt_of_cell? _ _ hw367_1; first | rwa [add_block] at this | exact this) GW368.out)) | (dsimp only; exact Nat.ne_of_lt (Nat.lt_of_lt_of_le (by have := World.block_lt_of_cell? _ _ hw367_1; first | rwa [add_block] at this | exact this) GW368.out))) _).trans (hHeld.2.2.2.2.2.2.2.2.2.2.2.1)))))))))))), ((cell_far (p := ⟨gb368, _, none⟩) (by first | exact Nat.ne_of_lt (Nat.lt_of_lt_of_le (by have := World.block_lt_of_cell? _ _ hw367_2; first | rwa [add_block] at this | exact this) GW368.out) | (rw [add_block]; exact Nat.ne_of_lt (Nat.lt_of_lt_of_le (by have := World.block_lt_of_cell? _ _ hw367_2; first | rwa [add_block] at this | exact this) GW368.out)) | (show (Addr.add _ _).block ≠ _; rw [add_block]; exact Nat.ne_of_lt (Nat.lt_of_lt_of_le (by have := World.block_lt_of_cell? _ _ hw367_2; first | rwa [add_block] at this | exact this) GW368.out)) | (dsimp only; exact Nat.ne_of_lt (Nat.lt_of_lt_of_le (by have := World.block_lt_of_cell? _ _ hw367_2; first | rwa [add_block] at this | exact this) GW368.out))) _).trans (((cell_far (p := ⟨gb368, _, none⟩) (by first | exact Nat.ne_of_lt (Nat.lt_of_lt_of_le (by have := World.block_lt_of_cell? _ _ hw367_2; first | rwa [add_block] at this | exact this) GW368.out) | (rw [add_block]; exact Nat.ne_of_lt (Nat.lt_of_lt_of_le (by have := World.block_lt_of_cell? _ _ hw367_2; first | rwa [add_block] at this | exact this) GW368.out)) | (show (Addr.add _ _).block ≠ _; rw [add_block]; exact Nat.ne_of_lt (Nat.lt_of_lt_of_le (by have := World.block_lt_of_cell? _ _ hw367_2; first | rwa [add_block] at this | exact this) GW368.out)) | (dsimp only; exact Nat.ne_of_lt (Nat.lt_of_lt_of_le (by have := World.block_lt_of_cell? _ _ hw367_2; first | rwa [add_block] at this | exact this) GW368.out))) _).trans (((cell_far (p := ⟨gb368, _, none⟩) (by first | exact Nat.ne_of_lt (Nat.lt_of_lt_of_le (by have := World.block_lt_of_cell? _ _ hw367_2; first | rwa [add_block] at this | exact this) GW368.out) | (rw [add_block]; exact Nat.ne_of_lt (Nat.lt_of_lt_of_le (by have := World.block_lt_of_cell? _ _ hw367_2; first | rwa [add_block] at this | exact this) GW368.out)) | (show (Addr.add _ _).block ≠ _; rw [add_block]; exact Nat.ne_of_lt (Nat.lt_of_lt_of_le (by have := World.block_lt_of_cell? _ _ hw367_2; first | rwa [add_block] at this | exact this) GW368.out)) | (dsimp only; exact Nat.ne_of_lt (Nat.lt_of_lt_of_le (by have := World.block_lt_of_cell? _ _ hw367_2; first | rwa [add_block] at this | exact this) GW368.out))) _).trans (((cell_far (p := ⟨gb368, _, none⟩) (by first | exact Nat.ne_of_lt (Nat.lt_of_lt_of_le (by have := World.block_lt_of_cell? _ _ hw367_2; first | rwa [add_block] at this | exact this) GW368.out) | (rw [add_block]; exact Nat.ne_of_lt (Nat.lt_of_lt_of_le (by have := World.block_lt_of_cell? _ _ hw367_2; first | rwa [add_block] at this | exact this) GW368.out)) | (show (Addr.add _ _).block ≠ _; rw [add_block]; exact Nat.ne_of_lt (Nat.lt_of_lt_of_le (by have := World.block_lt_of_cell? _ _ hw367_2; first | rwa [add_block] at this | exact this) GW368.out)) | (dsimp only; exact Nat.ne_of_lt (Nat.lt_of_lt_of_le (by have := World.block_lt_of_cell? _ _ hw367_2; first | rwa [add_block] at this | exact this) GW368.out))) _).trans (((cell_far (p := ⟨gb368, _, none⟩) (by first | exact Nat.ne_of_lt (Nat.lt_of_lt_of_le (by have := World.block_lt_of_cell? _ _ hw367_2; first | rwa [add_block] at this | exact this) GW368.out) | (rw [add_block]; exact Nat.ne_of_lt (Nat.lt_of_lt_of_le (by have := World.block_lt_of_cell? _ _ hw367_2; first | rwa [add_block] at this | exact this) GW368.out)) | (show (Addr.add _ _).block ≠ _; rw [add_block]; exact Nat.ne_of_lt (Nat.lt_of_lt_of_le (by have := World.block_lt_of_cell? _ _ hw367_2; first | rwa [add_block] at this | exact this) GW368.out)) | (dsimp only; exact Nat.ne_of_lt (Nat.lt_of_lt_of_le (by have := World.block_lt_of_cell? _ _ hw367_2; first | rwa [add_block] at this | exact this) GW368.out))) _).trans (((cell_far (p := ⟨gb368, _, none⟩) (by first | exact Nat.ne_of_lt (Nat.lt_of_lt_of_le (by have := World.block_lt_of_cell? _ _ hw367_2; first | rwa [add_block] at this | exact this) GW368.out) | (rw [add_block]; exact Nat.ne_of_lt (Nat.lt_of_lt_of_le (by have := World.block_lt_of_cell? _ _ hw367_2; first | rwa [add_block] at this | exact this) GW368.out)) | (show (Addr.add _ _).block ≠ _; rw [add_block]; exact Nat.ne_of_lt (Nat.lt_of_lt_of_le (by have := World.block_lt_of_cell? _ _ hw367_2; first | rwa [add_block] at this | exact this) GW368.out)) | (dsimp only; exact Nat.ne_of_lt (Nat.lt_of_lt_of_le (by have := World.block_lt_of_cell? _ _ hw367_2; first | rwa [add_block] at this | exact this) GW368.out))) _).trans (hHeld.2.2.2.2.2.2.2.2.2.2.2.2.1)))))))))))), ((cell_far (p := ⟨gb368, _, none⟩) (by first | exact Nat.ne_of_lt (Nat.lt_of_lt_of_le (by have := World.block_lt_of_cell? _ _ hw367_3; first | rwa [add_block] at this | exact this) GW368.out) | (rw [add_block]; exact Nat.ne_of_lt (Nat.lt_of_lt_of_le (by have := World.block_lt_of_cell? _ _ hw367_3; first | rwa [add_block] at this | exact this) GW368.out)) | (show (Addr.add _ _).block ≠ _; rw [add_block]; exact Nat.ne_of_lt (Nat.lt_of_lt_of_le (by have := World.block_lt_of_cell? _ _ hw367_3; first | rwa [add_block] at this | exact this) GW368.out)) | (dsimp only; exact Nat.ne_of_lt (Nat.lt_of_lt_of_le (by have := World.block_lt_of_cell? _ _ hw367_3; first | rwa [add_block] at this | exact this) GW368.out))) _).trans (((cell_far (p := ⟨gb368, _, none⟩) (by first | exact Nat.ne_of_lt (Nat.lt_of_lt_of_le (by have := World.block_lt_of_cell? _ _ hw367_3; first | rwa [add_block] at this | exact this) GW368.out) | (rw [add_block]; exact Nat.ne_of_lt (Nat.lt_of_lt_of_le (by have := World.block_lt_of_cell? _ _ hw367_3; first | rwa [add_block] at this | exact this) GW368.out)) | (show (Addr.add _ _).block ≠ _; rw [add_block]; exact Nat.ne_of_lt (Nat.lt_of_lt_of_le (by have := World.block_lt_of_cell? _ _ hw367_3; first | rwa [add_block] at this | exact this) GW368.out)) | (dsimp only; exact Nat.ne_of_lt (Nat.lt_of_lt_of_le (by have := World.block_lt_of_cell? _ _ hw367_3; first | rwa [add_block] at this | exact this) GW368.out))) _).trans (((cell_far (p := ⟨gb368, _, none⟩) (by first | exact Nat.ne_of_lt (Nat.lt_of_lt_of_le (by have := World.block_lt_of_cell? _ _ hw367_3; first | rwa [add_block] at this | exact this) GW368.out) | (rw [add_block]; exact Nat.ne_of_lt (Nat.lt_of_lt_of_le (by have := World.block_lt_of_cell? _ _ hw367_3; first | rwa [add_block] at this | exact this) GW368.out)) | (show (Addr.add _ _).block ≠ _; rw [add_block]; exact Nat.ne_of_lt (Nat.lt_of_lt_of_le (by have := World.block_lt_of_cell? _ _ hw367_3; first | rwa [add_block] at this | exact this) GW368.out)) | (dsimp only; exact Nat.ne_of_lt (Nat.lt_of_lt_of_le (by have := World.block_lt_of_cell? _ _ hw367_3; first | rwa [add_block] at this | exact this) GW368.out))) _).trans (((cell_far (p := ⟨gb368, _, none⟩) (by first | exact Nat.ne_of_lt (Nat.lt_of_lt_of_le (by have := World.block_lt_of_cell? _ _ hw367_3; first | rwa [add_block] at this | exact this) GW368.out) | (rw [add_block]; exact Nat.ne_of_lt (Nat.lt_of_lt_of_le (by have := World.block_lt_of_cell? _ _ hw367_3; first | rwa [add_block] at this | exact this) GW368.out)) | (show (Addr.add _ _).block ≠ _; rw [add_block]; exact Nat.ne_of_lt (Nat.lt_of_lt_of_le (by have := World.block_lt_of_cell? _ _ hw367_3; first | rwa [add_block] at this | exact this) GW368.out)) | (dsimp only; exact Nat.ne_of_lt (Nat.lt_of_lt_of_le (by have := World.block_lt_of_cell? _ _ hw367_3; first | rwa [add_block] at this | exact this) GW368.out))) _).trans (((cell_far (p := ⟨gb368, _, none⟩) (by first | exact Nat.ne_of_lt (Nat.lt_of_lt_of_le (by have := World.block_lt_of_cell? _ _ hw367_3; first | rwa [add_block] at this | exact this) GW368.out) | (rw [add_block]; exact Nat.ne_of_lt (Nat.lt_of_lt_of_le (by have := World.block_lt_of_cell? _ _ hw367_3; first | rwa [add_block] at this | exact this) GW368.out)) | (show (Addr.add _ _).block ≠ _; rw [add_block]; exact Nat.ne_of_lt (Nat.lt_of_lt_of_le (by have := World.block_lt_of_cell? _ _ hw367_3; first | rwa [add_block] at this | exact this) GW368.out)) | (dsimp only; exact Nat.ne_of_lt (Nat.lt_of_lt_of_le (by have := World.block_lt_of_cell? _ _ hw367_3; first | rwa [add_block] at this | exact this) GW368.out))) _).trans (((cell_far (p := ⟨gb368, _, none⟩) (by first | exact Nat.ne_of_lt (Nat.lt_of_lt_of_le (by have := World.block_lt_of_cell? _ _ hw367_3; first | rwa [add_block] at this | exact this) GW368.out) | (rw [add_block]; exact Nat.ne_of_lt (Nat.lt_of_lt_of_le (by have := World.block_lt_of_cell? _ _ hw367_3; first | rwa [add_block] at this | exact this) GW368.out)) | (show (Addr.add _ _).block ≠ _; rw [add_block]; exact Nat.ne_of_lt (Nat.lt_of_lt_of_le (by have := World.block_lt_of_cell? _ _ hw367_3; first | rwa [add_block] at this | exact this) GW368.out)) | (dsimp only; exact Nat.ne_of_lt (Nat.lt_of_lt_of_le (by have := World.block_lt_of_cell? _ _ hw367_3; first | rwa [add_block] at this | exact this) GW368.out))) _).trans (hHeld.2.2.2.2.2.2.2.2.2.2.2.2.2.1)))))))))))), ((cell_far (p := ⟨gb368, _, none⟩) (by first | exact Nat.ne_of_lt (Nat.lt_of_lt_of_le (by have := World.block_lt_of_cell? _ _ hw367_4; first | rwa [add_block] at this | exact this) GW368.out) | (rw [add_block]; exact Nat.ne_of_lt (Nat.lt_of_lt_of_le (by have := World.block_lt_of_cell? _ _ hw367_4; first | rwa [add_block] at this | exact this) GW368.out)) | (show (Addr.add _ _).block ≠ _; rw [add_block]; exact Nat.ne_of_lt (Nat.lt_of_lt_of_le (by have := World.block_lt_of_cell? _ _ hw367_4; first | rwa [add_block] at this | exact this) GW368.out)) | (dsimp only; exact Nat.ne_of_lt (Nat.lt_of_lt_of_le (by have := World.block_lt_of_cell? _ _ hw367_4; first | rwa [add_block] at this | exact this) GW368.out))) _).trans (((cell_far (p := ⟨gb368, _, none⟩) (by first | exact Nat.ne_of_lt (Nat.lt_of_lt_of_le (by have := World.block_lt_of_cell? _ _ hw367_4; first | rwa [add_block] at this | exact this) GW368.out) | (rw [add_block]; exact Nat.ne_of_lt (Nat.lt_of_lt_of_le (by have := World.block_lt_of_cell? _ _ hw367_4; first | rwa [add_block] at this | exact this) GW368.out)) | (show (Addr.add _ _).block ≠ _; rw [add_block]; exact Nat.ne_of_lt (Nat.lt_of_lt_of_le (by have := World.block_lt_of_cell? _ _ hw367_4; first | rwa [add_block] at this | exact this) GW368.out)) | (dsimp only; exact Nat.ne_of_lt (Nat.lt_of_lt_of_le (by have := World.block_lt_of_cell? _ _ hw367_4; first | rwa [add_block] at this | exact this) GW368.out))) _).trans (((cell_far (p := ⟨gb368, _, none⟩) (by first | exact Nat.ne_of_lt (Nat.lt_of_lt_of_le (by have := World.block_lt_of_cell? _ _ hw367_4; first | rwa [add_block] at this | exact this) GW368.out) | (rw [add_block]; exact Nat.ne_of_lt (Nat.lt_of_lt_of_le (by have := World.block_lt_of_cell? _ _ hw367_4; first | rwa [add_block] at this | exact this) GW368.out)) | (show (Addr.add _ _).block ≠ _; rw [add_block]; exact Nat.ne_of_lt (Nat.lt_of_lt_of_le (by have := World.block_lt_of_cell? _ _ hw367_4; first | rwa [add_block] at this | exact this) GW368.out)) | (dsimp only; exact Nat.ne_of_lt (Nat.lt_of_lt_of_le (by have := World.block_lt_of_cell? _ _ hw367_4; first | rwa [add_block] at this | exact this) GW368.out))) _).trans (((cell_far (p := ⟨gb368, _, none⟩) (by first | exact Nat.ne_of_lt (Nat.lt_of_lt_of_le (by have := World.block_lt_of_cell? _ _ hw367_4; first | rwa [add_block] at this | exact this) GW368.out) | (rw [add_block]; exact Nat.ne_of_lt (Nat.lt_of_lt_of_le (by have := World.block_lt_of_cell? _ _ hw367_4; first | rwa [add_block] at this | exact this) GW368.out)) | (show (Addr.add _ _).block ≠ _; rw [add_block]; exact Nat.ne_of_lt (Nat.lt_of_lt_of_le (by have := World.block_lt_of_cell? _ _ hw367_4; first | rwa [add_block] at this | exact this) GW368.out)) | (dsimp only; exact Nat.ne_of_lt (Nat.lt_of_lt_of_le (by have := World.block_lt_of_cell? _ _ hw367_4; first | rwa [add_block] at this | exact this) GW368.out))) _).trans (((cell_far (p := ⟨gb368, _, none⟩) (by first | exact Nat.ne_of_lt (Nat.lt_of_lt_of_le (by have := World.block_lt_of_cell? _ _ hw367_4; first | rwa [add_block] at this | exact this) GW368.out) | (rw [add_block]; exact Nat.ne_of_lt (Nat.lt_of_lt_of_le (by have := World.block_lt_of_cell? _ _ hw367_4; first | rwa [add_block] at this | exact this) GW368.out)) | (show (Addr.add _ _).block ≠ _; rw [add_block]; exact Nat.ne_of_lt (Nat.lt_of_lt_of_le (by have := World.block_lt_of_cell? _ _ hw367_4; first | rwa [add_block] at this | exact this) GW368.out)) | (dsimp only; exact Nat.ne_of_lt (Nat.lt_of_lt_of_le (by have := World.block_lt_of_cell? _ _ hw367_4; first | rwa [add_block] at this | exact this) GW368.out))) _).trans (((cell_far (p := ⟨gb368, _, none⟩) (by first | exact Nat.ne_of_lt (Nat.lt_of_lt_of_le (by have := World.block_lt_of_cell? _ _ hw367_4; first | rwa [add_block] at this | exact this) GW368.out) | (rw [add_block]; exact Nat.ne_of_lt (Nat.lt_of_lt_of_le (by have := World.block_lt_of_cell? _ _ hw367_4; first | rwa [add_block] at this | exact this) GW368.out)) | (show (Addr.add _ _).block ≠ _; rw [add_block]; exact Nat.ne_of_lt (Nat.lt_of_lt_of_le (by have := World.block_lt_of_cell? _ _ hw367_4; first | rwa [add_block] at this | exact this) GW368.out)) | (dsimp only; exact Nat.ne_of_lt (Nat.lt_of_lt_of_le (by have := World.block_lt_of_cell? _ _ hw367_4; first | rwa [add_block] at this | exact this) GW368.out))) _).trans (hHeld.2.2.2.2.2.2.2.2.2.2.2.2.2.2))))))))))))⟩ (fun hHeld => ?_)
       clear hK K
       refine done_ (done_of HT_.out (by kernel_rfl)) ?_
       go_upto_region 10 with (fail)
       go_cut [48] (fun v48 wc => ∃ (kq : Nat) (x48_11 : Bool), v48 = .bool x48_11 ∧ Aside0 (spec_BookOfTerm.j1 kq l0 x4_1 x5_1 x48_11 t364 ((rd_T83 l0 x5_1).f0) (⟨#[]⟩ : ByteArray) (⟨#[]⟩ : ByteArray) ((rd_T83 l0 x5_1).f3) ((rd_T83 l0 x5_1).f4) = some (r1, r2)) ∧ Aside0 (kq ≤ k1) ∧ Aside0 (Kd.R k45 45 wc w.heap.size (fun k_ => k_ ≠ gb368) u4 x4_1) ∧ Aside0 (wc.heap[gb368]? = some (.cells #[.string t364, .int .i8 ((rd_T83 l0 x5_1).f0), .string (⟨#[]⟩ : ByteArray), .string (⟨#[]⟩ : ByteArray), .int .i64 ((rd_T83 l0 x5_1).f3), .int .i64 ((rd_T83 l0 x5_1).f4)] 45 (0, 0))) ∧ Aside0 (Below w.heap.size w wc))
       case first =>
        have H := HC12.out
        clear HC12
        replace H := Option.bind_eq_some_iff.mp H
        obtain ⟨t369, A230, H⟩ := H
        replace H : (if t369 = true then (spec_BookOfTerm.j1 k1 l0 x4_1 x5_1 true t364 ((rd_T83 l0 x5_1).f0) (⟨#[]⟩ : ByteArray) (⟨#[]⟩ : ByteArray) ((rd_T83 l0 x5_1).f3) ((rd_T83 l0 x5_1).f4)) else ((spec_l02Two.f ((rd_T83 l0 x5_1).f0)).bind fun t370 => (spec_BookOfTerm.j1 k1 l0 x4_1 x5_1 t370 t364 ((rd_T83 l0 x5_1).f0) (⟨#[]⟩ : ByteArray) (⟨#[]⟩ : ByteArray) ((rd_T83 l0 x5_1).f3) ((rd_T83 l0 x5_1).f4)))) = some (r1, r2) := H
        have A23 := Aside0.mk A230
        clear A230
        by_cases c24 : t369 = true
        ·
         subst c24
         have H1 : (spec_BookOfTerm.j1 k1 l0 x4_1 x5_1 true t364 ((rd_T83 l0 x5_1).f0) (⟨#[]⟩ : ByteArray) (⟨#[]⟩ : ByteArray) ((rd_T83 l0 x5_1).f3) ((rd_T83 l0 x5_1).f4)) = some (r1, r2) := by rw [if_pos rfl] at H; exact H
         clear H
         have H := H1
         clear H1
         have H' := Aside0.mk H
         clear H
         have hcz25_0 : w16.cell? ⟨gb368, 0, none⟩ = some (.string (⟨#[]⟩ : ByteArray)) := (blk_cell BK368.out 0).trans rfl
         have hcz25_1 : w16.cell? ⟨gb368, 1, none⟩ = some (.int .i8 0) := (blk_cell BK368.out 1).trans rfl
         have hcz25_2 : w16.cell? ⟨gb368, 2, none⟩ = some (.string (⟨#[]⟩ : ByteArray)) := (blk_cell BK368.out 2).trans rfl
         have hcz25_3 : w16.cell? ⟨gb368, 3, none⟩ = some (.string (⟨#[]⟩ : ByteArray)) := (blk_cell BK368.out 3).trans rfl
         have hcz25_4 : w16.cell? ⟨gb368, 4, none⟩ = some (.int .i64 0) := (blk_cell BK368.out 4).trans rfl
         have hcz25_5 : w16.cell? ⟨gb368, 5, none⟩ = some (.int .i64 0) := (blk_cell BK368.out 5).trans rfl
         have hfz25_0 := blk_frozen BK368.out 0
         have hfz25_1 := blk_frozen BK368.out 1
         have hfz25_2 := blk_frozen BK368.out 2
         have hfz25_3 := blk_frozen BK368.out 3
         have hfz25_4 := blk_frozen BK368.out 4
         have hfz25_5 := blk_frozen BK368.out 5
         go_wp2_with (first | ((with_reducible refine gate_callee (f := 69) rfl ?_); refine goesL_ (some 43) rfl rfl Try.func69 (by kernel_rfl) rfl #[.int .i8 ((rd_T83 l0 x5_1).f0)] rfl (by (try simp only [List.map_toArray, List.map_cons, List.map_nil]); first | done | rfl | (simp only [List.length_drop, List.length_take]; rfl)) ?_; (with_reducible refine (spec_l02One.calls ((rd_T83 l0 x5_1).f0) true _ A23.out).mono ?_); rintro e w' ⟨rfl, ⟨nd, rfl⟩⟩; refine ⟨_, rfl, ?_⟩))
         go_meet
         case rel => exact ⟨_, (true), (by first | rfl | (simp; done) | (simp [*]; done)), H', ⟨by have := HK1.out; first | omega | exact Nat.le_refl _⟩, ⟨by (with_reducible repeat (first | apply Kd.R_alloc | apply Kd.R_drewN | apply Kd.R_drew)); exact Kd.R_mono (Kd.R_far (p := ⟨gb368, 5, none⟩) (Kd.R_far (p := ⟨gb368, 4, none⟩) (Kd.R_far (p := ⟨gb368, 3, none⟩) (Kd.R_far (p := ⟨gb368, 2, none⟩) (Kd.R_far (p := ⟨gb368, 1, none⟩) (Kd.R_far (p := ⟨gb368, 0, none⟩) (Kd.R_mono HO_4.out (fun k_ hk => (⟨hk, hk⟩ : _ ∧ k_ ≠ gb368))) (fun _ hk => hk.2) (.string t364)) (fun _ hk => hk.2) (.int .i8 ((rd_T83 l0 x5_1).f0))) (fun _ hk => hk.2) (.string (⟨#[]⟩ : ByteArray))) (fun _ hk => hk.2) (.string (⟨#[]⟩ : ByteArray))) (fun _ hk => hk.2) (.int .i64 ((rd_T83 l0 x5_1).f3))) (fun _ hk => hk.2) (.int .i64 ((rd_T83 l0 x5_1).f4))) (fun _ hk => hk.1)⟩, ⟨by (with_reducible repeat (first | refine blk_drewN ?_ _ | refine blk_drew ?_ | refine blk_alloc ?_ _)); refine blk_put (cs := #[.string t364, .int .i8 ((rd_T83 l0 x5_1).f0), .string (⟨#[]⟩ : ByteArray), .string (⟨#[]⟩ : ByteArray), .int .i64 ((rd_T83 l0 x5_1).f3), .int .i64 0]) ?_ 5 _ rfl; (with_reducible repeat (first | refine blk_drewN ?_ _ | refine blk_drew ?_ | refine blk_alloc ?_ _)); refine blk_put (cs := #[.string t364, .int .i8 ((rd_T83 l0 x5_1).f0), .string (⟨#[]⟩ : ByteArray), .string (⟨#[]⟩ : ByteArray), .int .i64 0, .int .i64 0]) ?_ 4 _ rfl; (with_reducible repeat (first | refine blk_drewN ?_ _ | refine blk_drew ?_ | refine blk_alloc ?_ _)); refine blk_put (cs := #[.string t364, .int .i8 ((rd_T83 l0 x5_1).f0), .string (⟨#[]⟩ : ByteArray), .string (⟨#[]⟩ : ByteArray), .int .i64 0, .int .i64 0]) ?_ 3 _ rfl; (with_reducible repeat (first | refine blk_drewN ?_ _ | refine blk_drew ?_ | refine blk_alloc ?_ _)); refine blk_put (cs := #[.string t364, .int .i8 ((rd_T83 l0 x5_1).f0), .string (⟨#[]⟩ : ByteArray), .string (⟨#[]⟩ : ByteArray), .int .i64 0, .int .i64 0]) ?_ 2 _ rfl; (with_reducible repeat (first | refine blk_drewN ?_ _ | refine blk_drew ?_ | refine blk_alloc ?_ _)); refine blk_put (cs := #[.string t364, .int .i8 0, .string (⟨#[]⟩ : ByteArray), .string (⟨#[]⟩ : ByteArray), .int .i64 0, .int .i64 0]) ?_ 1 _ rfl; (with_reducible repeat (first | refine blk_drewN ?_ _ | refine blk_drew ?_ | refine blk_alloc ?_ _)); refine blk_put (cs := #[.string (⟨#[]⟩ : ByteArray), .int .i8 0, .string (⟨#[]⟩ : ByteArray), .string (⟨#[]⟩ : ByteArray), .int .i64 0, .int .i64 0]) ?_ 0 _ rfl; (with_reducible repeat (first | refine blk_drewN ?_ _ | refine blk_drew ?_ | refine blk_alloc ?_ _)); exact BK368.out⟩, ⟨by repeat (first | (with_reducible first | exact HB.out | apply below_alloc | apply pw_below_drewN | apply below_drew1 | refine below_set ?_ GE368.out) | exact HB.out)⟩⟩
        ·
         replace c24 := Bool.eq_false_iff.mpr c24
         subst c24
         have H1 : ((spec_l02Two.f ((rd_T83 l0 x5_1).f0)).bind fun t370 => (spec_BookOfTerm.j1 k1 l0 x4_1 x5_1 t370 t364 ((rd_T83 l0 x5_1).f0) (⟨#[]⟩ : ByteArray) (⟨#[]⟩ : ByteArray) ((rd_T83 l0 x5_1).f3) ((rd_T83 l0 x5_1).f4))) = some (r1, r2) := by rw [if_neg (show ¬ (false = true) by decide)] at H; exact H
         clear H
         have H := H1
         clear H1
         replace H := Option.bind_eq_some_iff.mp H
         obtain ⟨t370, A260, H⟩ := H
         replace H : (spec_BookOfTerm.j1 k1 l0 x4_1 x5_1 t370 t364 ((rd_T83 l0 x5_1).f0) (⟨#[]⟩ : ByteArray) (⟨#[]⟩ : ByteArray) ((rd_T83 l0 x5_1).f3) ((rd_T83 l0 x5_1).f4)) = some (r1, r2) := H
         have A26 := Aside0.mk A260
         clear A260
         have H' := Aside0.mk H
         clear H
         have hcz27_0 : w16.cell? ⟨gb368, 0, none⟩ = some (.string (⟨#[]⟩ : ByteArray)) := (blk_cell BK368.out 0).trans rfl
         have hcz27_1 : w16.cell? ⟨gb368, 1, none⟩ = some (.int .i8 0) := (blk_cell BK368.out 1).trans rfl
         have hcz27_2 : w16.cell? ⟨gb368, 2, none⟩ = some (.string (⟨#[]⟩ : ByteArray)) := (blk_cell BK368.out 2).trans rfl
         have hcz27_3 : w16.cell? ⟨gb368, 3, none⟩ = some (.string (⟨#[]⟩ : ByteArray)) := (blk_cell BK368.out 3).trans rfl
         have hcz27_4 : w16.cell? ⟨gb368, 4, none⟩ = some (.int .i64 0) := (blk_cell BK368.out 4).trans rfl
         have hcz27_5 : w16.cell? ⟨gb368, 5, none⟩ = some (.int .i64 0) := (blk_cell BK368.out 5).trans rfl
         have hfz27_0 := blk_frozen BK368.out 0
         have hfz27_1 := blk_frozen BK368.out 1
         have hfz27_2 := blk_frozen BK368.out 2
         have hfz27_3 := blk_frozen BK368.out 3
         have hfz27_4 := blk_frozen BK368.out 4
         have hfz27_5 := blk_frozen BK368.out 5
         go_wp2_with (first | ((with_reducible refine gate_callee (f := 69) rfl ?_); refine goesL_ (some 43) rfl rfl Try.func69 (by kernel_rfl) rfl #[.int .i8 ((rd_T83 l0 x5_1).f0)] rfl (by (try simp only [List.map_toArray, List.map_cons, List.map_nil]); first | done | rfl | (simp only [List.length_drop, List.length_take]; rfl)) ?_; (with_reducible refine (spec_l02One.calls ((rd_T83 l0 x5_1).f0) false _ A23.out).mono ?_); rintro e w' ⟨rfl, ⟨nd, rfl⟩⟩; refine ⟨_, rfl, ?_⟩) | (go_at_call 70; (with_reducible refine (spec_l02Two.calls ((rd_T83 l0 x5_1).f0) t370 _ A26.out).mono ?_); rintro e w' ⟨rfl, ⟨nd, rfl⟩⟩))
         go_meet
         case rel => exact ⟨_, (t370), (by first | rfl | (simp; done) | (simp [*]; done)), H', ⟨by have := HK1.out; first | omega | exact Nat.le_refl _⟩, ⟨by (with_reducible repeat (first | apply Kd.R_alloc | apply Kd.R_drewN | apply Kd.R_drew)); exact Kd.R_mono (Kd.R_far (p := ⟨gb368, 5, none⟩) (Kd.R_far (p := ⟨gb368, 4, none⟩) (Kd.R_far (p := ⟨gb368, 3, none⟩) (Kd.R_far (p := ⟨gb368, 2, none⟩) (Kd.R_far (p := ⟨gb368, 1, none⟩) (Kd.R_far (p := ⟨gb368, 0, none⟩) (Kd.R_mono HO_4.out (fun k_ hk => (⟨hk, hk⟩ : _ ∧ k_ ≠ gb368))) (fun _ hk => hk.2) (.string t364)) (fun _ hk => hk.2) (.int .i8 ((rd_T83 l0 x5_1).f0))) (fun _ hk => hk.2) (.string (⟨#[]⟩ : ByteArray))) (fun _ hk => hk.2) (.string (⟨#[]⟩ : ByteArray))) (fun _ hk => hk.2) (.int .i64 ((rd_T83 l0 x5_1).f3))) (fun _ hk => hk.2) (.int .i64 ((rd_T83 l0 x5_1).f4))) (fun _ hk => hk.1)⟩, ⟨by (with_reducible repeat (first | refine blk_drewN ?_ _ | refine blk_drew ?_ | refine blk_alloc ?_ _)); refine blk_put (cs := #[.string t364, .int .i8 ((rd_T83 l0 x5_1).f0), .string (⟨#[]⟩ : ByteArray), .string (⟨#[]⟩ : ByteArray), .int .i64 ((rd_T83 l0 x5_1).f3), .int .i64 0]) ?_ 5 _ rfl; (with_reducible repeat (first | refine blk_drewN ?_ _ | refine blk_drew ?_ | refine blk_alloc ?_ _)); refine blk_put (cs := #[.string t364, .int .i8 ((rd_T83 l0 x5_1).f0), .string (⟨#[]⟩ : ByteArray), .string (⟨#[]⟩ : ByteArray), .int .i64 0, .int .i64 0]) ?_ 4 _ rfl; (with_reducible repeat (first | refine blk_drewN ?_ _ | refine blk_drew ?_ | refine blk_alloc ?_ _)); refine blk_put (cs := #[.string t364, .int .i8 ((rd_T83 l0 x5_1).f0), .string (⟨#[]⟩ : ByteArray), .string (⟨#[]⟩ : ByteArray), .int .i64 0, .int .i64 0]) ?_ 3 _ rfl; (with_reducible repeat (first | refine blk_drewN ?_ _ | refine blk_drew ?_ | refine blk_alloc ?_ _)); refine blk_put (cs := #[.string t364, .int .i8 ((rd_T83 l0 x5_1).f0), .string (⟨#[]⟩ : ByteArray), .string (⟨#[]⟩ : ByteArray), .int .i64 0, .int .i64 0]) ?_ 2 _ rfl; (with_reducible repeat (first | refine blk_drewN ?_ _ | refine blk_drew ?_ | refine blk_alloc ?_ _)); refine blk_put (cs := #[.string t364, .int .i8 0, .string (⟨#[]⟩ : ByteArray), .string (⟨#[]⟩ : ByteArray), .int .i64 0, .int .i64 0]) ?_ 1 _ rfl; (with_reducible repeat (first | refine blk_drewN ?_ _ | refine blk_drew ?_ | refine blk_alloc ?_ _)); refine blk_put (cs := #[.string (⟨#[]⟩ : ByteArray), .int .i8 0, .string (⟨#[]⟩ : ByteArray), .string (⟨#[]⟩ : ByteArray), .int .i64 0, .int .i64 0]) ?_ 0 _ rfl; (with_reducible repeat (first | refine blk_drewN ?_ _ | refine blk_drew ?_ | refine blk_alloc ?_ _)); exact BK368.out⟩, ⟨by repeat (first | (with_reducible first | exact HB.out | apply below_alloc | apply pw_below_drewN | apply below_drew1 | refine below_set ?_ GE368.out) | exact HB.out)⟩⟩
       case rest =>
        clear HC12
        try clear c1
        try clear c2
        try clear p2
        try clear c3
        try clear p3
        try clear q3
        try clear hx3
        try clear c4
        try clear c4b0
        try clear c4b1
        try clear c6
        try clear c9
        try clear c9b0
        try clear c11
        try clear c11b0
        try clear c22
        try clear c24
        try clear hcz25_0
        try clear hcz25_1
        try clear hcz25_2
        try clear hcz25_3
        try clear hcz25_4
        try clear hcz25_5
        try clear hcz27_0
        try clear hcz27_1
        try clear hcz27_2
        try clear hcz27_3
        try clear hcz27_4
        try clear hcz27_5
        try clear hfz25_0
        try clear hfz25_1
        try clear hfz25_2
        try clear hfz25_3
        try clear hfz25_4
        try clear hfz25_5
        try clear hfz27_0
        try clear hfz27_1
        try clear hfz27_2
        try clear hfz27_3
        try clear hfz27_4
        try clear hfz27_5
        try clear hx365_0
        try clear hx365_1
        try clear hx365_2
        try clear hx365_3
        try clear hx365_4
        try clear hx366_0
        try clear hx366_1
        try clear hx366_2
        try clear hx366_3
        try clear hx366_4
        try clear hx367_0
        try clear hx367_1
        try clear hx367_2
        try clear hx367_3
        try clear hx367_4
        try clear p2
        try clear p365
        try clear p366
        try clear p367
        try clear q365
        try clear q366
        try clear q367
        obtain ⟨kq, x48_11, rfl, HA, HJ11, HO_4, BK368, HB⟩ := hcut
        cases kq with
        | zero => exact absurd HA.out (by simp [spec_BookOfTerm.j1])
        | succ kj11 =>
         have H := HA.out
         clear HA
         simp only [spec_BookOfTerm.j1] at H
         have HC28 := Aside0.mk H
         clear H
         go_upto_if 48 with (fail)
         go_cut [] (fun wc => ∃ (kq : Nat) (x369002_27 : ByteArray), Aside0 (spec_BookOfTerm.j2 kq l0 x4_1 x5_1 t364 ((rd_T83 l0 x5_1).f0) x369002_27 (⟨#[]⟩ : ByteArray) ((rd_T83 l0 x5_1).f3) ((rd_T83 l0 x5_1).f4) = some (r1, r2)) ∧ Aside0 (kq ≤ kj11) ∧ Aside0 (Kd.R k45 45 wc w.heap.size (fun k_ => k_ ≠ gb368) u4 x4_1) ∧ Aside0 (wc.heap[gb368]? = some (.cells #[.string t364, .int .i8 ((rd_T83 l0 x5_1).f0), .string x369002_27, .string (⟨#[]⟩ : ByteArray), .int .i64 ((rd_T83 l0 x5_1).f3), .int .i64 ((rd_T83 l0 x5_1).f4)] 45 (0, 0))) ∧ Aside0 (Below w.heap.size w wc))
         case first =>
          have H := HC28.out
          clear HC28
          by_cases c29 : x48_11 = true
          ·
           subst c29
           have H1 : (if 0 ≤ x5_1 then (if x5_1 < (l0.length : Int) then ((spec_l07Letter.f ((rd_T83 l0 x5_1).f1)).bind fun t372 => (spec_BookOfTerm.j2 kj11 l0 x4_1 x5_1 t364 ((rd_T83 l0 x5_1).f0) t372 (⟨#[]⟩ : ByteArray) ((rd_T83 l0 x5_1).f3) ((rd_T83 l0 x5_1).f4))) else (none)) else (none)) = some (r1, r2) := by rw [if_pos rfl] at H; exact H
           clear H
           have H := H1
           clear H1
           by_cases c30 : 0 ≤ x5_1
           ·
            rw [if_pos c30] at H
            have c30b0 : decide (0 ≤ x5_1) = true := decide_eq_true c30
            clear c30
            (first | rw [c30b0] | (simp only [i64_w, i32_w]; rw [c30b0]) | skip)
            by_cases c31 : x5_1 < (l0.length : Int)
            ·
             rw [if_pos c31] at H
             have c31b0 : decide (x5_1 < (l0.length : Int)) = true := decide_eq_true c31
             clear c31
             replace H := Option.bind_eq_some_iff.mp H
             obtain ⟨t372, A320, H⟩ := H
             replace H : (spec_BookOfTerm.j2 kj11 l0 x4_1 x5_1 t364 ((rd_T83 l0 x5_1).f0) t372 (⟨#[]⟩ : ByteArray) ((rd_T83 l0 x5_1).f3) ((rd_T83 l0 x5_1).f4)) = some (r1, r2) := H
             have A32 := Aside0.mk A320
             clear A320
             have H' := Aside0.mk H
             clear H
             have p371 : 0 ≤ (x5_1 : Int) := of_decide_eq_true (by first | (with_reducible assumption) | assumption)
             have q371 : x5_1 < (l0.length : Int) := of_decide_eq_true (by first | (with_reducible assumption) | assumption)
             obtain ⟨ad371, e371, hx371_0, hx371_1, hx371_2, hx371_3, hx371_4⟩ := at_T83 HR0.out x5_1 p371 q371
             obtain rfl : ad365 = ad371 := (by injection e371)
             replace hx371_0 := (HB.out.cell (World.block_lt_of_cell? w _ hx371_0)).trans hx371_0
             replace hx371_1 := (HB.out.cell (World.block_lt_of_cell? w _ hx371_1)).trans hx371_1
             replace hx371_2 := (HB.out.cell (World.block_lt_of_cell? w _ hx371_2)).trans hx371_2
             replace hx371_3 := (HB.out.cell (World.block_lt_of_cell? w _ hx371_3)).trans hx371_3
             replace hx371_4 := (HB.out.cell (World.block_lt_of_cell? w _ hx371_4)).trans hx371_4
             replace p371 := eq_true p371
             replace q371 := eq_true q371
             go_wp2_with (first | ((with_reducible refine gate_callee (f := 68) rfl ?_); refine goesL_ (some 54) rfl rfl Try.func68 (by kernel_rfl) rfl #[.int .i16 ((rd_T83 l0 x5_1).f1)] rfl (by (try simp only [List.map_toArray, List.map_cons, List.map_nil]); first | done | rfl | (simp only [List.length_drop, List.length_take]; rfl)) ?_; (with_reducible refine (spec_l07Letter.calls ((rd_T83 l0 x5_1).f1) t372 _ A32.out).mono ?_); rintro e w33 ⟨rfl, hb⟩; refine ⟨_, rfl, ?_⟩; have n0_ := Aside0.mk (Kd.R_below (by (with_reducible repeat (first | apply Kd.R_alloc | apply Kd.R_drewN | apply Kd.R_drew)); exact HO_4.out) hb); have n1_ := Aside0.mk (blk_below (g := gb368) (o := .cells #[.string t364, .int .i8 ((rd_T83 l0 x5_1).f0), .string (⟨#[]⟩ : ByteArray), .string (⟨#[]⟩ : ByteArray), .int .i64 ((rd_T83 l0 x5_1).f3), .int .i64 ((rd_T83 l0 x5_1).f4)] 45 (0, 0)) (by (with_reducible repeat (first | refine blk_drewN ?_ _ | refine blk_drew ?_ | refine blk_alloc ?_ _)); exact BK368.out) hb); have n2_ := Aside0.mk (below_step (by repeat (first | (with_reducible first | exact HB.out | apply below_alloc | apply pw_below_drewN | apply below_drew1 | refine below_set ?_ GE368.out) | exact HB.out)) hb); clear HO_4; clear BK368; clear HB; have HO_4 := n0_; have BK368 := n1_; have HB := n2_; clear n0_ n1_ n2_; (try clear hb); (try clear hb2); (try clear hk); (try clear hi); have hcz34_0 : w33.cell? ⟨gb368, 0, none⟩ = some (.string t364) := (blk_cell BK368.out 0).trans rfl; have hcz34_1 : w33.cell? ⟨gb368, 1, none⟩ = some (.int .i8 ((rd_T83 l0 x5_1).f0)) := (blk_cell BK368.out 1).trans rfl; have hcz34_2 : w33.cell? ⟨gb368, 2, none⟩ = some (.string (⟨#[]⟩ : ByteArray)) := (blk_cell BK368.out 2).trans rfl; have hcz34_3 : w33.cell? ⟨gb368, 3, none⟩ = some (.string (⟨#[]⟩ : ByteArray)) := (blk_cell BK368.out 3).trans rfl; have hcz34_4 : w33.cell? ⟨gb368, 4, none⟩ = some (.int .i64 ((rd_T83 l0 x5_1).f3)) := (blk_cell BK368.out 4).trans rfl; have hcz34_5 : w33.cell? ⟨gb368, 5, none⟩ = some (.int .i64 ((rd_T83 l0 x5_1).f4)) := (blk_cell BK368.out 5).trans rfl; have hfz34_0 := blk_frozen BK368.out 0; have hfz34_1 := blk_frozen BK368.out 1; have hfz34_2 := blk_frozen BK368.out 2; have hfz34_3 := blk_frozen BK368.out 3; have hfz34_4 := blk_frozen BK368.out 4; have hfz34_5 := blk_frozen BK368.out 5))
             go_meet
             case rel => exact ⟨_, (t372), H', ⟨by have := HK1.out; have := HJ11.out; first | omega | exact Nat.le_refl _⟩, ⟨by (with_reducible repeat (first | apply Kd.R_alloc | apply Kd.R_drewN | apply Kd.R_drew)); exact Kd.R_mono (Kd.R_far (p := ⟨gb368, 2, none⟩) (Kd.R_mono HO_4.out (fun k_ hk => (⟨hk, hk⟩ : _ ∧ k_ ≠ gb368))) (fun _ hk => hk.2) (.string t372)) (fun _ hk => hk.1)⟩, ⟨by (with_reducible repeat (first | refine blk_drewN ?_ _ | refine blk_drew ?_ | refine blk_alloc ?_ _)); refine blk_put (cs := #[.string t364, .int .i8 ((rd_T83 l0 x5_1).f0), .string (⟨#[]⟩ : ByteArray), .string (⟨#[]⟩ : ByteArray), .int .i64 ((rd_T83 l0 x5_1).f3), .int .i64 ((rd_T83 l0 x5_1).f4)]) ?_ 2 _ rfl; (with_reducible repeat (first | refine blk_drewN ?_ _ | refine blk_drew ?_ | refine blk_alloc ?_ _)); exact BK368.out⟩, ⟨by repeat (first | (with_reducible first | exact HB.out | apply below_alloc | apply pw_below_drewN | apply below_drew1 | refine below_set ?_ GE368.out) | exact HB.out)⟩⟩
            ·
             rw [if_neg c31] at H
             exact absurd H (by simp)
           ·
            rw [if_neg c30] at H
            exact absurd H (by simp)
          ·
           replace c29 := Bool.eq_false_iff.mpr c29
           subst c29
           have H1 : (spec_BookOfTerm.j2 kj11 l0 x4_1 x5_1 t364 ((rd_T83 l0 x5_1).f0) (⟨#[]⟩ : ByteArray) (⟨#[]⟩ : ByteArray) ((rd_T83 l0 x5_1).f3) ((rd_T83 l0 x5_1).f4)) = some (r1, r2) := by rw [if_neg (show ¬ (false = true) by decide)] at H; exact H
           clear H
           have H := H1
           clear H1
           have H' := Aside0.mk H
           clear H
           go_wp2
           go_meet
           case rel => exact ⟨_, ((⟨#[]⟩ : ByteArray)), H', ⟨by have := HK1.out; have := HJ11.out; first | omega | exact Nat.le_refl _⟩, ⟨by (with_reducible repeat (first | apply Kd.R_alloc | apply Kd.R_drewN | apply Kd.R_drew)); exact HO_4.out⟩, ⟨by (with_reducible repeat (first | refine blk_drewN ?_ _ | refine blk_drew ?_ | refine blk_alloc ?_ _)); exact BK368.out⟩, ⟨by repeat (first | (with_reducible first | exact HB.out | apply below_alloc | apply pw_below_drewN | apply below_drew1 | refine below_set ?_ GE368.out) | exact HB.out)⟩⟩
         case rest =>
          clear HC28
          try clear c1
          try clear c2
          try clear p2
          try clear c3
          try clear p3
          try clear q3
          try clear hx3
          try clear c4
          try clear c4b0
          try clear c4b1
          try clear c6
          try clear c9
          try clear c9b0
          try clear c11
          try clear c11b0
          try clear c22
          try clear c24
          try clear c29
          try clear c30
          try clear c30b0
          try clear c31
          try clear c31b0
          try clear hcz25_0
          try clear hcz25_1
          try clear hcz25_2
          try clear hcz25_3
          try clear hcz25_4
          try clear hcz25_5
          try clear hcz27_0
          try clear hcz27_1
          try clear hcz27_2
          try clear hcz27_3
          try clear hcz27_4
          try clear hcz27_5
          try clear hcz34_0
          try clear hcz34_1
          try clear hcz34_2
          try clear hcz34_3
          try clear hcz34_4
          try clear hcz34_5
          try clear hfz25_0
          try clear hfz25_1
          try clear hfz25_2
          try clear hfz25_3
          try clear hfz25_4
          try clear hfz25_5
          try clear hfz27_0
          try clear hfz27_1
          try clear hfz27_2
          try clear hfz27_3
          try clear hfz27_4
          try clear hfz27_5
          try clear hfz34_0
          try clear hfz34_1
          try clear hfz34_2
          try clear hfz34_3
          try clear hfz34_4
          try clear hfz34_5
          try clear hx365_0
          try clear hx365_1
          try clear hx365_2
          try clear hx365_3
          try clear hx365_4
          try clear hx366_0
          try clear hx366_1
          try clear hx366_2
          try clear hx366_3
          try clear hx366_4
          try clear hx367_0
          try clear hx367_1
          try clear hx367_2
          try clear hx367_3
          try clear hx367_4
          try clear hx371_0
          try clear hx371_1
          try clear hx371_2
          try clear hx371_3
          try clear hx371_4
          try clear p2
          try clear p3
          try clear p365
          try clear p366
          try clear p367
          try clear p371
          try clear q3
          try clear q365
          try clear q366
          try clear q367
          try clear q371
          obtain ⟨kq, x369002_27, HA, HJ27, HO_4, BK368, HB⟩ := hcut
          cases kq with
          | zero => exact absurd HA.out (by simp [spec_BookOfTerm.j2])
          | succ kj27 =>
           have H := HA.out
           clear HA
           simp only [spec_BookOfTerm.j2] at H
           replace H := Option.bind_eq_some_iff.mp H
           obtain ⟨t373, A350, H⟩ := H
           replace H : (if t373 = true then (if 0 ≤ x5_1 then (if x5_1 < (l0.length : Int) then ((spec_l07Letter.f ((rd_T83 l0 x5_1).f2)).bind fun t375 => (if x4_1.length < 1954687338268 then (spec_BookOfTerm.l0 kj27 l0 (x4_1 ++ [(⟨t364, ((rd_T83 l0 x5_1).f0), x369002_27, t375, ((rd_T83 l0 x5_1).f3), ((rd_T83 l0 x5_1).f4)⟩ : S45)]) (wrap64 (x5_1 + 1))) else (none))) else (none)) else (none)) else (if x4_1.length < 1954687338268 then (spec_BookOfTerm.l0 kj27 l0 (x4_1 ++ [(⟨t364, ((rd_T83 l0 x5_1).f0), x369002_27, (⟨#[]⟩ : ByteArray), ((rd_T83 l0 x5_1).f3), ((rd_T83 l0 x5_1).f4)⟩ : S45)]) (wrap64 (x5_1 + 1))) else (none))) = some (r1, r2) := H
           have A35 := Aside0.mk A350
           clear A350
           by_cases c36 : t373 = true
           ·
            subst c36
            have H1 : (if 0 ≤ x5_1 then (if x5_1 < (l0.length : Int) then ((spec_l07Letter.f ((rd_T83 l0 x5_1).f2)).bind fun t375 => (if x4_1.length < 1954687338268 then (spec_BookOfTerm.l0 kj27 l0 (x4_1 ++ [(⟨t364, ((rd_T83 l0 x5_1).f0), x369002_27, t375, ((rd_T83 l0 x5_1).f3), ((rd_T83 l0 x5_1).f4)⟩ : S45)]) (wrap64 (x5_1 + 1))) else (none))) else (none)) else (none)) = some (r1, r2) := by rw [if_pos rfl] at H; exact H
            clear H
            have H := H1
            clear H1
            by_cases c37 : 0 ≤ x5_1
            ·
             rw [if_pos c37] at H
             have c37b0 : decide (0 ≤ x5_1) = true := decide_eq_true c37
             clear c37
             by_cases c38 : x5_1 < (l0.length : Int)
             ·
              rw [if_pos c38] at H
              have c38b0 : decide (x5_1 < (l0.length : Int)) = true := decide_eq_true c38
              clear c38
              replace H := Option.bind_eq_some_iff.mp H
              obtain ⟨t375, A390, H⟩ := H
              replace H : (if x4_1.length < 1954687338268 then (spec_BookOfTerm.l0 kj27 l0 (x4_1 ++ [(⟨t364, ((rd_T83 l0 x5_1).f0), x369002_27, t375, ((rd_T83 l0 x5_1).f3), ((rd_T83 l0 x5_1).f4)⟩ : S45)]) (wrap64 (x5_1 + 1))) else (none)) = some (r1, r2) := H
              have A39 := Aside0.mk A390
              clear A390
              by_cases c40 : x4_1.length < 1954687338268
              ·
               rw [if_pos c40] at H
               have LMc40 := Aside0.mk c40
               clear c40
               obtain ⟨y376, hy376⟩ : ∃ y_ : List (S45), y_ = (x4_1 ++ [(⟨t364, ((rd_T83 l0 x5_1).f0), x369002_27, t375, ((rd_T83 l0 x5_1).f3), ((rd_T83 l0 x5_1).f4)⟩ : S45)]) := ⟨_, rfl⟩
               replace H : (spec_BookOfTerm.l0 kj27 l0 y376 (wrap64 (x5_1 + 1))) = some (r1, r2) := by first | (rw [hy376]; with_reducible exact H) | (have H2_ := (Option.bind_some _ _).symm.trans H; rw [hy376]; with_reducible exact H2_) | (have H2_ := (Option.bind_some _ _).symm.trans H; with_reducible exact H2_) | with_reducible exact H | (rw [hy376]; exact H) | exact H
               have Ny376 := Aside0.mk hy376
               clear hy376
               have H' := Aside0.mk H
               clear H
               have hcz41_0 : wc.cell? ⟨gb368, 0, none⟩ = some (.string t364) := (blk_cell BK368.out 0).trans rfl
               have hcz41_1 : wc.cell? ⟨gb368, 1, none⟩ = some (.int .i8 ((rd_T83 l0 x5_1).f0)) := (blk_cell BK368.out 1).trans rfl
               have hcz41_2 : wc.cell? ⟨gb368, 2, none⟩ = some (.string x369002_27) := (blk_cell BK368.out 2).trans rfl
               have hcz41_3 : wc.cell? ⟨gb368, 3, none⟩ = some (.string (⟨#[]⟩ : ByteArray)) := (blk_cell BK368.out 3).trans rfl
               have hcz41_4 : wc.cell? ⟨gb368, 4, none⟩ = some (.int .i64 ((rd_T83 l0 x5_1).f3)) := (blk_cell BK368.out 4).trans rfl
               have hcz41_5 : wc.cell? ⟨gb368, 5, none⟩ = some (.int .i64 ((rd_T83 l0 x5_1).f4)) := (blk_cell BK368.out 5).trans rfl
               have hfz41_0 := blk_frozen BK368.out 0
               have hfz41_1 := blk_frozen BK368.out 1
               have hfz41_2 := blk_frozen BK368.out 2
               have hfz41_3 := blk_frozen BK368.out 3
               have hfz41_4 := blk_frozen BK368.out 4
               have hfz41_5 := blk_frozen BK368.out 5
               go_wp2_with (first | ((with_reducible refine gate_callee (f := 70) rfl ?_); refine goesL_ (some 58) rfl rfl Try.func70 (by kernel_rfl) rfl #[.int .i8 ((rd_T83 l0 x5_1).f0)] rfl (by (try simp only [List.map_toArray, List.map_cons, List.map_nil]); first | done | rfl | (simp only [List.length_drop, List.length_take]; rfl)) ?_; (with_reducible refine (spec_l02Two.calls ((rd_T83 l0 x5_1).f0) true _ A35.out).mono ?_); rintro e w' ⟨rfl, ⟨nd, rfl⟩⟩; refine ⟨_, rfl, ?_⟩; (try (rw [drewN_self wc]; generalize hq_ : World.drewN wc _ = wc; have n0_ : Aside0 (Kd.R k45 45 wc w.heap.size (fun k_ => k_ ≠ gb368) u4 x4_1) := ⟨by rw [← hq_]; exact (by (with_reducible repeat (first | apply Kd.R_alloc | apply Kd.R_drewN | apply Kd.R_drew)); exact HO_4.out)⟩; have n1_ : Aside0 (wc.heap[gb368]? = some (.cells #[.string t364, .int .i8 ((rd_T83 l0 x5_1).f0), .string x369002_27, .string (⟨#[]⟩ : ByteArray), .int .i64 ((rd_T83 l0 x5_1).f3), .int .i64 ((rd_T83 l0 x5_1).f4)] 45 (0, 0))) := ⟨by rw [← hq_]; exact (by (with_reducible repeat (first | refine blk_drewN ?_ _ | refine blk_drew ?_ | refine blk_alloc ?_ _)); exact BK368.out)⟩; have n2_ : Aside0 (Below w.heap.size w wc) := ⟨by rw [← hq_]; exact (by repeat (first | (with_reducible first | exact HB.out | apply below_alloc | apply pw_below_drewN | apply below_drew1 | refine below_set ?_ GE368.out) | exact HB.out))⟩; clear HO_4 BK368 HB hq_; have HO_4 := n0_; have BK368 := n1_; have HB := n2_; clear n0_ n1_ n2_)); have p374 : 0 ≤ (x5_1 : Int) := of_decide_eq_true (by first | (with_reducible assumption) | assumption); have q374 : x5_1 < (l0.length : Int) := of_decide_eq_true (by first | (with_reducible assumption) | assumption); obtain ⟨ad374, e374, hx374_0, hx374_1, hx374_2, hx374_3, hx374_4⟩ := at_T83 HR0.out x5_1 p374 q374; obtain rfl : ad365 = ad374 := (by injection e374); replace hx374_0 := (HB.out.cell (World.block_lt_of_cell? w _ hx374_0)).trans hx374_0; replace hx374_1 := (HB.out.cell (World.block_lt_of_cell? w _ hx374_1)).trans hx374_1; replace hx374_2 := (HB.out.cell (World.block_lt_of_cell? w _ hx374_2)).trans hx374_2; replace hx374_3 := (HB.out.cell (World.block_lt_of_cell? w _ hx374_3)).trans hx374_3; replace hx374_4 := (HB.out.cell (World.block_lt_of_cell? w _ hx374_4)).trans hx374_4; replace p374 := eq_true p374; replace q374 := eq_true q374) | ((with_reducible refine gate_callee (f := 68) rfl ?_); refine goesL_ (some 64) rfl rfl Try.func68 (by kernel_rfl) rfl #[.int .i16 ((rd_T83 l0 x5_1).f2)] rfl (by (try simp only [List.map_toArray, List.map_cons, List.map_nil]); first | done | rfl | (simp only [List.length_drop, List.length_take]; rfl)) ?_; (with_reducible refine (spec_l07Letter.calls ((rd_T83 l0 x5_1).f2) t375 _ A39.out).mono ?_); rintro e w42 ⟨rfl, hb⟩; refine ⟨_, rfl, ?_⟩; have n0_ := Aside0.mk (Kd.R_below (by (with_reducible repeat (first | apply Kd.R_alloc | apply Kd.R_drewN | apply Kd.R_drew)); exact HO_4.out) hb); have n1_ := Aside0.mk (blk_below (g := gb368) (o := .cells #[.string t364, .int .i8 ((rd_T83 l0 x5_1).f0), .string x369002_27, .string (⟨#[]⟩ : ByteArray), .int .i64 ((rd_T83 l0 x5_1).f3), .int .i64 ((rd_T83 l0 x5_1).f4)] 45 (0, 0)) (by (with_reducible repeat (first | refine blk_drewN ?_ _ | refine blk_drew ?_ | refine blk_alloc ?_ _)); exact BK368.out) hb); have n2_ := Aside0.mk (below_step (by repeat (first | (with_reducible first | exact HB.out | apply below_alloc | apply pw_below_drewN | apply below_drew1 | refine below_set ?_ GE368.out) | exact HB.out)) hb); clear HO_4; clear BK368; clear HB; have HO_4 := n0_; have BK368 := n1_; have HB := n2_; clear n0_ n1_ n2_; (try clear hb); (try clear hb2); (try clear hk); (try clear hi); have hcz43_0 : w42.cell? ⟨gb368, 0, none⟩ = some (.string t364) := (blk_cell BK368.out 0).trans rfl; have hcz43_1 : w42.cell? ⟨gb368, 1, none⟩ = some (.int .i8 ((rd_T83 l0 x5_1).f0)) := (blk_cell BK368.out 1).trans rfl; have hcz43_2 : w42.cell? ⟨gb368, 2, none⟩ = some (.string x369002_27) := (blk_cell BK368.out 2).trans rfl; have hcz43_3 : w42.cell? ⟨gb368, 3, none⟩ = some (.string (⟨#[]⟩ : ByteArray)) := (blk_cell BK368.out 3).trans rfl; have hcz43_4 : w42.cell? ⟨gb368, 4, none⟩ = some (.int .i64 ((rd_T83 l0 x5_1).f3)) := (blk_cell BK368.out 4).trans rfl; have hcz43_5 : w42.cell? ⟨gb368, 5, none⟩ = some (.int .i64 ((rd_T83 l0 x5_1).f4)) := (blk_cell BK368.out 5).trans rfl; have hfz43_0 := blk_frozen BK368.out 0; have hfz43_1 := blk_frozen BK368.out 1; have hfz43_2 := blk_frozen BK368.out 2; have hfz43_3 := blk_frozen BK368.out 3; have hfz43_4 := blk_frozen BK368.out 4; have hfz43_5 := blk_frozen BK368.out 5) | ((with_reducible refine gate_builtin (b := .append) (xs := #[.tmp 66, .tmp 68]) rfl ?_); at_builtin; refine Kd.R_append k45 (w0 := w) w.heap.size rfl (.tmp 66) (.tmp 68) 25 45 (.agg #[(.string ⟨#[]⟩), (.int .i8 0), (.string ⟨#[]⟩), (.string ⟨#[]⟩), (.int .i64 0), (.int .i64 0)]) 72 rfl Try.underlying25 info45 rfl (by decide) (by omega) u4 x4_1 (⟨t364, ((rd_T83 l0 x5_1).f0), x369002_27, t375, ((rd_T83 l0 x5_1).f3), ((rd_T83 l0 x5_1).f4)⟩ : S45) [.string t364, .int .i8 ((rd_T83 l0 x5_1).f0), .string x369002_27, .string t375, .int .i64 ((rd_T83 l0 x5_1).f3), .int .i64 ((rd_T83 l0 x5_1).f4)] (fun k_ => k_ ≠ gb368) (fun _ => False) rfl (by first | (go_simp; done) | (go_simp; rfl)) ?aP (fun _ hk => hk.elim) ?aF ?aO ?aB ?aS ?aL ?_; (case aP => exact k45_mkM _ _ _ (⟨t364, ((rd_T83 l0 x5_1).f0), x369002_27, t375, ((rd_T83 l0 x5_1).f3), ((rd_T83 l0 x5_1).f4)⟩ : S45)); (case aB => exact (by repeat (first | (with_reducible first | exact HB.out | apply below_alloc | apply pw_below_drewN | apply below_drew1 | refine below_set ?_ GE368.out) | exact HB.out))); (case aF => exact (fun k_ hk => Kd.freshB (g := gb368) (o := .cells #[.string t364, .int .i8 ((rd_T83 l0 x5_1).f0), .string x369002_27, .string t375, .int .i64 ((rd_T83 l0 x5_1).f3), .int .i64 ((rd_T83 l0 x5_1).f4)] 45 (0, 0)) (by (with_reducible repeat (first | refine blk_drewN ?_ _ | refine blk_drew ?_ | refine blk_alloc ?_ _)); refine blk_put (cs := #[.string t364, .int .i8 ((rd_T83 l0 x5_1).f0), .string x369002_27, .string (⟨#[]⟩ : ByteArray), .int .i64 ((rd_T83 l0 x5_1).f3), .int .i64 ((rd_T83 l0 x5_1).f4)]) ?_ 3 _ rfl; (with_reducible repeat (first | refine blk_drewN ?_ _ | refine blk_drew ?_ | refine blk_alloc ?_ _)); exact BK368.out) k_ hk)); (case aO => exact (by (with_reducible repeat (first | apply Kd.R_alloc | apply Kd.R_drewN | apply Kd.R_drew)); exact Kd.R_mono (Kd.R_far (p := ⟨gb368, 3, none⟩) (Kd.R_mono HO_4.out (fun k_ hk => (⟨hk, hk⟩ : _ ∧ k_ ≠ gb368))) (fun _ hk => hk.2) (.string t375)) (fun _ hk => hk.1))); (case aS => exact (below_size (by repeat (first | (with_reducible first | exact HB.out | apply below_alloc | apply pw_below_drewN | apply below_drew1 | refine below_set ?_ GE368.out) | exact HB.out)))); (case aL => have := LMc40.out; omega); intro v377 w44 ho hb hg hat; rw [← Ny376.out] at ho; have n0_ := Aside0.mk (blk_grown (g := gb368) (o := .cells #[.string t364, .int .i8 ((rd_T83 l0 x5_1).f0), .string x369002_27, .string t375, .int .i64 ((rd_T83 l0 x5_1).f3), .int .i64 ((rd_T83 l0 x5_1).f4)] 45 (0, 0)) (by (with_reducible repeat (first | refine blk_drewN ?_ _ | refine blk_drew ?_ | refine blk_alloc ?_ _)); refine blk_put (cs := #[.string t364, .int .i8 ((rd_T83 l0 x5_1).f0), .string x369002_27, .string (⟨#[]⟩ : ByteArray), .int .i64 ((rd_T83 l0 x5_1).f3), .int .i64 ((rd_T83 l0 x5_1).f4)]) ?_ 3 _ rfl; (with_reducible repeat (first | refine blk_drewN ?_ _ | refine blk_drew ?_ | refine blk_alloc ?_ _)); exact BK368.out) hg (Kd.R_away HO_4.out (fun _ hk => hk))); have n1_ := Aside0.mk (hb); have n2_ := Aside0.mk (ho); clear BK368; clear HB; clear HO_4; have BK368 := n0_; have HB := n1_; have HO378 := n2_; clear n0_ n1_ n2_; clear ho hb hg hat))
               go_roundg kj27
               case measure => have := HK1.out; have := HJ11.out; have := HJ27.out; omega
               case rel => exact ⟨(y376), (wrap64 (x5_1 + 1)), (by first | rfl | (simp; done) | (simp [*]; done)), H', ⟨by have := HK1.out; have := HJ11.out; have := HJ27.out; omega⟩, ⟨by (with_reducible repeat (first | apply Kd.R_alloc | apply Kd.R_drewN | apply Kd.R_drew)); exact Kd.R_mono HO378.out (fun _ hk => trivial)⟩, ⟨by repeat (first | (with_reducible first | exact HB.out | apply below_alloc | apply pw_below_drewN | apply below_drew1 | refine below_set ?_ GE368.out) | exact HB.out)⟩⟩
              ·
               rw [if_neg c40] at H
               exact absurd H (by simp)
             ·
              rw [if_neg c38] at H
              exact absurd H (by simp)
            ·
             rw [if_neg c37] at H
             exact absurd H (by simp)
           ·
            replace c36 := Bool.eq_false_iff.mpr c36
            subst c36
            have H1 : (if x4_1.length < 1954687338268 then (spec_BookOfTerm.l0 kj27 l0 (x4_1 ++ [(⟨t364, ((rd_T83 l0 x5_1).f0), x369002_27, (⟨#[]⟩ : ByteArray), ((rd_T83 l0 x5_1).f3), ((rd_T83 l0 x5_1).f4)⟩ : S45)]) (wrap64 (x5_1 + 1))) else (none)) = some (r1, r2) := by rw [if_neg (show ¬ (false = true) by decide)] at H; exact H
            clear H
            have H := H1
            clear H1
            by_cases c45 : x4_1.length < 1954687338268
            ·
             rw [if_pos c45] at H
             have LMc45 := Aside0.mk c45
             clear c45
             obtain ⟨y379, hy379⟩ : ∃ y_ : List (S45), y_ = (x4_1 ++ [(⟨t364, ((rd_T83 l0 x5_1).f0), x369002_27, (⟨#[]⟩ : ByteArray), ((rd_T83 l0 x5_1).f3), ((rd_T83 l0 x5_1).f4)⟩ : S45)]) := ⟨_, rfl⟩
             replace H : (spec_BookOfTerm.l0 kj27 l0 y379 (wrap64 (x5_1 + 1))) = some (r1, r2) := by first | (rw [hy379]; with_reducible exact H) | (have H2_ := (Option.bind_some _ _).symm.trans H; rw [hy379]; with_reducible exact H2_) | (have H2_ := (Option.bind_some _ _).symm.trans H; with_reducible exact H2_) | with_reducible exact H | (rw [hy379]; exact H) | exact H
             have Ny379 := Aside0.mk hy379
             clear hy379
             have H' := Aside0.mk H
             clear H
             have hcz46_0 : wc.cell? ⟨gb368, 0, none⟩ = some (.string t364) := (blk_cell BK368.out 0).trans rfl
             have hcz46_1 : wc.cell? ⟨gb368, 1, none⟩ = some (.int .i8 ((rd_T83 l0 x5_1).f0)) := (blk_cell BK368.out 1).trans rfl
             have hcz46_2 : wc.cell? ⟨gb368, 2, none⟩ = some (.string x369002_27) := (blk_cell BK368.out 2).trans rfl
             have hcz46_3 : wc.cell? ⟨gb368, 3, none⟩ = some (.string (⟨#[]⟩ : ByteArray)) := (blk_cell BK368.out 3).trans rfl
             have hcz46_4 : wc.cell? ⟨gb368, 4, none⟩ = some (.int .i64 ((rd_T83 l0 x5_1).f3)) := (blk_cell BK368.out 4).trans rfl
             have hcz46_5 : wc.cell? ⟨gb368, 5, none⟩ = some (.int .i64 ((rd_T83 l0 x5_1).f4)) := (blk_cell BK368.out 5).trans rfl
             have hfz46_0 := blk_frozen BK368.out 0
             have hfz46_1 := blk_frozen BK368.out 1
             have hfz46_2 := blk_frozen BK368.out 2
             have hfz46_3 := blk_frozen BK368.out 3
             have hfz46_4 := blk_frozen BK368.out 4
             have hfz46_5 := blk_frozen BK368.out 5
             go_wp2_with (first | ((with_reducible refine gate_callee (f := 70) rfl ?_); refine goesL_ (some 58) rfl rfl Try.func70 (by kernel_rfl) rfl #[.int .i8 ((rd_T83 l0 x5_1).f0)] rfl (by (try simp only [List.map_toArray, List.map_cons, List.map_nil]); first | done | rfl | (simp only [List.length_drop, List.length_take]; rfl)) ?_; (with_reducible refine (spec_l02Two.calls ((rd_T83 l0 x5_1).f0) false _ A35.out).mono ?_); rintro e w' ⟨rfl, ⟨nd, rfl⟩⟩; refine ⟨_, rfl, ?_⟩) | ((with_reducible refine gate_builtin (b := .append) (xs := #[.tmp 66, .tmp 68]) rfl ?_); at_builtin; refine Kd.R_append k45 (w0 := w) w.heap.size rfl (.tmp 66) (.tmp 68) 25 45 (.agg #[(.string ⟨#[]⟩), (.int .i8 0), (.string ⟨#[]⟩), (.string ⟨#[]⟩), (.int .i64 0), (.int .i64 0)]) 72 rfl Try.underlying25 info45 rfl (by decide) (by omega) u4 x4_1 (⟨t364, ((rd_T83 l0 x5_1).f0), x369002_27, (⟨#[]⟩ : ByteArray), ((rd_T83 l0 x5_1).f3), ((rd_T83 l0 x5_1).f4)⟩ : S45) [.string t364, .int .i8 ((rd_T83 l0 x5_1).f0), .string x369002_27, .string (⟨#[]⟩ : ByteArray), .int .i64 ((rd_T83 l0 x5_1).f3), .int .i64 ((rd_T83 l0 x5_1).f4)] (fun k_ => k_ ≠ gb368) (fun _ => False) rfl rfl ?aP (fun _ hk => hk.elim) ?aF ?aO ?aB ?aS ?aL ?_; (case aP => exact k45_mkM _ _ _ (⟨t364, ((rd_T83 l0 x5_1).f0), x369002_27, (⟨#[]⟩ : ByteArray), ((rd_T83 l0 x5_1).f3), ((rd_T83 l0 x5_1).f4)⟩ : S45)); (case aB => exact (by repeat (first | (with_reducible first | exact HB.out | apply below_alloc | apply pw_below_drewN | apply below_drew1 | refine below_set ?_ GE368.out) | exact HB.out))); (case aF => exact (fun k_ hk => Kd.freshB (g := gb368) (o := .cells #[.string t364, .int .i8 ((rd_T83 l0 x5_1).f0), .string x369002_27, .string (⟨#[]⟩ : ByteArray), .int .i64 ((rd_T83 l0 x5_1).f3), .int .i64 ((rd_T83 l0 x5_1).f4)] 45 (0, 0)) (by (with_reducible repeat (first | refine blk_drewN ?_ _ | refine blk_drew ?_ | refine blk_alloc ?_ _)); exact BK368.out) k_ hk)); (case aO => exact (by (with_reducible repeat (first | apply Kd.R_alloc | apply Kd.R_drewN | apply Kd.R_drew)); exact HO_4.out)); (case aS => exact (below_size (by repeat (first | (with_reducible first | exact HB.out | apply below_alloc | apply pw_below_drewN | apply below_drew1 | refine below_set ?_ GE368.out) | exact HB.out)))); (case aL => have := LMc45.out; omega); intro v380 w47 ho hb hg hat; rw [← Ny379.out] at ho; have n0_ := Aside0.mk (blk_grown (g := gb368) (o := .cells #[.string t364, .int .i8 ((rd_T83 l0 x5_1).f0), .string x369002_27, .string (⟨#[]⟩ : ByteArray), .int .i64 ((rd_T83 l0 x5_1).f3), .int .i64 ((rd_T83 l0 x5_1).f4)] 45 (0, 0)) (by (with_reducible repeat (first | refine blk_drewN ?_ _ | refine blk_drew ?_ | refine blk_alloc ?_ _)); exact BK368.out) hg (Kd.R_away HO_4.out (fun _ hk => hk))); have n1_ := Aside0.mk (hb); have n2_ := Aside0.mk (ho); clear BK368; clear HB; clear HO_4; have BK368 := n0_; have HB := n1_; have HO381 := n2_; clear n0_ n1_ n2_; clear ho hb hg hat))
             go_roundg kj27
             case measure => have := HK1.out; have := HJ11.out; have := HJ27.out; omega
             case rel => exact ⟨(y379), (wrap64 (x5_1 + 1)), (by first | rfl | (simp; done) | (simp [*]; done)), H', ⟨by have := HK1.out; have := HJ11.out; have := HJ27.out; omega⟩, ⟨by (with_reducible repeat (first | apply Kd.R_alloc | apply Kd.R_drewN | apply Kd.R_drew)); exact Kd.R_mono HO381.out (fun _ hk => trivial)⟩, ⟨by repeat (first | (with_reducible first | exact HB.out | apply below_alloc | apply pw_below_drewN | apply below_drew1 | refine below_set ?_ GE368.out) | exact HB.out)⟩⟩
            ·
             rw [if_neg c45] at H
             exact absurd H (by simp)
      ·
       rw [if_neg c11] at H
       exact absurd H (by simp)
     ·
      rw [if_neg c9] at H
      have c9b0 : decide (x5_1 < (l0.length : Int)) = false := decide_eq_false c9
      clear c9
      simp only [Option.some.injEq, Prod.mk.injEq] at H
      obtain ⟨rfl, rfl⟩ := H
      go_wp2
      go_ret2
      exact ⟨_, by first | rfl | (simp [errW_none, errW_some] <;> rfl) | (simp [*, errW_none, errW_some] <;> rfl), by (with_reducible repeat (first | apply Kd.R_alloc | apply Kd.R_drewN | apply Kd.R_drew)); exact HO_4.out, by repeat (first | (with_reducible first | exact HB.out | apply below_alloc | apply pw_below_drewN | apply below_drew1) | exact HB.out)⟩
 ·
  replace c3 := Bool.eq_false_iff.mpr c3
  subst c3
  have H1 : (some ((([] : List (S45))), 1)) = some (r1, r2) := by rw [if_neg (show ¬ (false = true) by decide)] at H; exact H
  clear H
  have H := H1
  clear H1
  obtain ⟨y355, hy355⟩ : ∃ y_ : List (S45), y_ = (([] : List (S45))) := ⟨_, rfl⟩
  replace H : (some (y355, 1)) = some (r1, r2) := by first | (rw [hy355]; with_reducible exact H) | (have H2_ := (Option.bind_some _ _).symm.trans H; rw [hy355]; with_reducible exact H2_) | (have H2_ := (Option.bind_some _ _).symm.trans H; with_reducible exact H2_) | with_reducible exact H | (rw [hy355]; exact H) | exact H
  have Ny355 := Aside0.mk hy355
  clear hy355
  simp only [Option.some.injEq, Prod.mk.injEq] at H
  obtain ⟨rfl, rfl⟩ := H
  go_enter Try.func22, Try.ntmps22
  go_wp2_with (first | ((with_reducible refine gate_callee (f := 67) rfl ?_); refine goesL_ (some 8) rfl rfl Try.func67 (by kernel_rfl) rfl #[.slice A0 l0.length c0] rfl (by (try simp only [List.map_toArray, List.map_cons, List.map_nil]); first | done | rfl | (simp only [List.length_drop, List.length_take]; rfl)) ?_; (with_reducible refine (spec_l02Ok.calls _ _ l0 false _ ?side1 ?side2 A2.out).mono ?_); (case side1 => repeat (first | exact HR0.out | (with_reducible refine Kd.C_alloc ?_ _) | (with_reducible refine Kd.C_drewN ?_ _) | (with_reducible refine Kd.C_drew ?_))); (case side2 => exact HC0.out); rintro e w' ⟨rfl, ⟨nd, rfl⟩⟩; refine ⟨_, rfl, ?_⟩) | ((with_reducible refine gate_dst (N := 10) rfl ?_); refine Kd.R_lit k45 _ 45 ?hg (N := 10) ?hd (xs := ([] : List (S45))) (inner := []) (ok := fun _ => True) (okp := fun _ => True) ?hr ?hp (fun _ hk => hk) trivial (Below.refl _ _) (Nat.le_refl _) (by simp) ?_; (case hd => rfl); (case hg => rfl); (case hr => first | (go_simp; done) | (go_simp; rfl)); (case hp => exact (Reps.none _ _)); intro v356 w48 ho49 hb hg_ hnew_; clear hg_ hnew_; (first | rw [← Ny355.out] at ho49 | (simp only [Int.reduceToNat] at ho49; rw [← Ny355.out] at ho49)); have n0_ := Aside0.mk (Kd.R_lower ho49 (below_size (by repeat (first | (with_reducible first | exact HB.out | apply below_alloc | apply pw_below_drewN | apply below_drew1) | exact HB.out)))); have n1_ := Aside0.mk (below_step (by repeat (first | (with_reducible first | exact HB.out | apply below_alloc | apply pw_below_drewN | apply below_drew1) | exact HB.out)) hb); clear HB; have HO357 := n0_; have HB := n1_; clear n0_ n1_; clear hb ho49))
  go_ret2
  exact ⟨_, by first | rfl | (simp [errW_none, errW_some] <;> rfl) | (simp [*, errW_none, errW_some] <;> rfl), by (with_reducible repeat (first | apply Kd.R_alloc | apply Kd.R_drewN | apply Kd.R_drew)); exact HO357.out, by repeat (first | (with_reducible first | exact HB.out | apply below_alloc | apply pw_below_drewN | apply below_drew1) | exact HB.out)⟩
end Go.Proofs.Ytenhgmddpkiliaa.PB

-- Written by a program (xprint.py) out of the translation's own print; Lean checks it.
import Derived.Test.YtififhihgkbafaaPMx0
import Derived.Test.YtififhihgkbafaaPMx1
import Derived.Test.YtififhihgkbafaaPMx7
import Derived.Test.YtififhihgkbafaaPMx9
import Derived.Test.YtififhihgkbafaaPMx10
namespace Go.Proofs.Ytififhihgkbafaa.PM
open Go.RowKit Go.Proofs.YtififhihgkbafaaW.PrintWords Go.Proofs.YtififhihgkbafaaW.PrintLast Go.Proofs.YtififhihgkbafaaW.PrintMore Go.Proofs.YtififhihgkbafaaRP
attribute [local go_sem] max2_int min2_int max_two min_two max_three min_three max_four min_four Go.Proofs.YtififhihgkbafaaRP.max_eight   -- for this text's walks alone
set_option linter.unusedVariables false
set_option linter.unusedSimpArgs false
/-! ### laws_FnExactMoebiusDigits: function 4 -/
mutual
def laws_FnExactMoebiusDigits.j0 : Nat → Int → List Int → Int → Int → List Int → Int → Int → Bool → Int → Int → Int → Int → List Int → List Int → List Int → List Int → Option (Bool)
 | 0, _, _, _, _, _, _, _, _, _, _, _, _, _, _, _, _ => none
 | k + 1, x2, x8, x9, x10, x12, x13, x14, x60, x350000, x350001, x350002, x350003, x351000, x351001, x374000, x374001 => if x60 = true then (some false) else ((laws_toStream.f k x351000 x351001).bind fun bt384 => ((laws_eqStream.f k x374000 x374001 bt384.1 bt384.2).bind fun t390 => (if t390 = true then ((laws_markStream.f k x374000 x374001 1).bind fun bt391 => (if bt391.1 < 0 then (laws_FnExactMoebiusDigits.j1 k x2 x8 x9 x10 x12 true x350000 x350001 x350002 x350003 x351000 x351001) else ((laws_eqInt8S.f k x12 x8).bind fun t394 => (if t394 = true then (if x13 = x9 then (laws_FnExactMoebiusDigits.j1 k x2 x8 x9 x10 x12 (x14 != x10) x350000 x350001 x350002 x350003 x351000 x351001) else (laws_FnExactMoebiusDigits.j1 k x2 x8 x9 x10 x12 true x350000 x350001 x350002 x350003 x351000 x351001)) else (laws_FnExactMoebiusDigits.j1 k x2 x8 x9 x10 x12 true x350000 x350001 x350002 x350003 x351000 x351001))))) else (some false))))
def laws_FnExactMoebiusDigits.j1 : Nat → Int → List Int → Int → Int → List Int → Bool → Int → Int → Int → Int → List Int → List Int → Option (Bool)
 | 0, _, _, _, _, _, _, _, _, _, _, _, _ => none
 | k + 1, x2, x8, x9, x10, x12, x86, x350000, x350001, x350002, x350003, x351000, x351001 => if x86 = true then (some false) else ((laws_markInt8S.f k x12 1).bind fun bt395 => ((laws_heldInt8S.f k bt395.2 1).bind fun t397 => (if t397 < 0 then (some false) else (if t397 = bt395.1 then ((laws_toMoebius.f x350000 x350001 x350002 x350003).bind fun bt398 => ((laws_toStream.f k x351000 x351001).bind fun bt402 => ((impl_MoebiusDigits.f k bt398.1 bt398.2.1 bt398.2.2.1 bt398.2.2.2 bt402.1 bt402.2 x2).bind fun bt408 => ((laws_eqInt8S.f k bt408.1 x8).bind fun t413 => (if t413 = true then (if bt408.2.1 = x9 then (laws_FnExactMoebiusDigits.j2 k bt395.2 bt395.1 (bt408.2.2 != x10)) else (laws_FnExactMoebiusDigits.j2 k bt395.2 bt395.1 true)) else (laws_FnExactMoebiusDigits.j2 k bt395.2 bt395.1 true)))))) else (some false)))))
def laws_FnExactMoebiusDigits.j2 : Nat → List Int → Int → Bool → Option (Bool)
 | 0, _, _, _ => none
 | k + 1, x12, x16, x121 => if x121 = true then (some false) else ((laws_heldInt8S.f k x12 1).bind fun t414 => (if t414 < 0 then (some false) else (if t414 = x16 then (some true) else (some false))))
end
def laws_FnExactMoebiusDigits.f (k : Nat) (a0_0 : Int) (a0_1 : Int) (a0_2 : Int) (a0_3 : Int) (l1_0 : List Int) (l1_1 : List Int) (a2 : Int) : Option (Bool) := (laws_szStream.f l1_0 l1_1 1048576).bind fun t351 => (if t351 < 0 then (some true) else ((laws_toMoebius.f a0_0 a0_1 a0_2 a0_3).bind fun bt352 => ((laws_toStream.f k l1_0 l1_1).bind fun bt356 => ((spec_MoebiusDigits.f k bt352.1 bt352.2.1 bt352.2.2.1 bt352.2.2.2 bt356.1 bt356.2 a2).bind fun bt362 => ((laws_toStream.f k l1_0 l1_1).bind fun bt367 => ((laws_toMoebius.f a0_0 a0_1 a0_2 a0_3).bind fun bt374 => ((impl_MoebiusDigits.f k bt374.1 bt374.2.1 bt374.2.2.1 bt374.2.2.2 bt367.1 bt367.2 a2).bind fun bt378 => ((laws_eqInt8S.f k bt378.1 bt362.1).bind fun t383 => (if t383 = true then (if bt378.2.1 = bt362.2.1 then (laws_FnExactMoebiusDigits.j0 k a2 bt362.1 bt362.2.1 bt362.2.2 bt378.1 bt378.2.1 bt378.2.2 (bt378.2.2 != bt362.2.2) a0_0 a0_1 a0_2 a0_3 l1_0 l1_1 bt367.1 bt367.2) else (laws_FnExactMoebiusDigits.j0 k a2 bt362.1 bt362.2.1 bt362.2.2 bt378.1 bt378.2.1 bt378.2.2 true a0_0 a0_1 a0_2 a0_3 l1_0 l1_1 bt367.1 bt367.2)) else (laws_FnExactMoebiusDigits.j0 k a2 bt362.1 bt362.2.1 bt362.2.2 bt378.1 bt378.2.1 bt378.2.2 true a0_0 a0_1 a0_2 a0_3 l1_0 l1_1 bt367.1 bt367.2))))))))))
theorem laws_FnExactMoebiusDigits.mono_l : ∀ k, (∀ y0 y1 y2 y3 y4 y5 y6 y7 y8 y9 y10 y11 y12 y13 y14 y15, LeO (laws_FnExactMoebiusDigits.j0 k y0 y1 y2 y3 y4 y5 y6 y7 y8 y9 y10 y11 y12 y13 y14 y15) (laws_FnExactMoebiusDigits.j0 (k + 1) y0 y1 y2 y3 y4 y5 y6 y7 y8 y9 y10 y11 y12 y13 y14 y15)) ∧ (∀ y0 y1 y2 y3 y4 y5 y6 y7 y8 y9 y10 y11, LeO (laws_FnExactMoebiusDigits.j1 k y0 y1 y2 y3 y4 y5 y6 y7 y8 y9 y10 y11) (laws_FnExactMoebiusDigits.j1 (k + 1) y0 y1 y2 y3 y4 y5 y6 y7 y8 y9 y10 y11)) ∧ (∀ y0 y1 y2, LeO (laws_FnExactMoebiusDigits.j2 k y0 y1 y2) (laws_FnExactMoebiusDigits.j2 (k + 1) y0 y1 y2))
 | 0 => ⟨fun _ _ _ _ _ _ _ _ _ _ _ _ _ _ _ _ r h => by simp [laws_FnExactMoebiusDigits.j0] at h, fun _ _ _ _ _ _ _ _ _ _ _ _ r h => by simp [laws_FnExactMoebiusDigits.j1] at h, fun _ _ _ r h => by simp [laws_FnExactMoebiusDigits.j2] at h⟩
 | k + 1 => by
  obtain ⟨ih0, ih1, ih2⟩ := laws_FnExactMoebiusDigits.mono_l k
  refine ⟨?_, ?_, ?_⟩
  ·
   intro y0 y1 y2 y3 y4 y5 y6 y7 y8 y9 y10 y11 y12 y13 y14 y15
   unfold laws_FnExactMoebiusDigits.j0
   repeat' first
   | (with_reducible exact ih0 _ _ _ _ _ _ _ _ _ _ _ _ _ _ _ _)
   | (with_reducible exact ih1 _ _ _ _ _ _ _ _ _ _ _ _)
   | (with_reducible exact ih2 _ _ _)
   | (with_reducible exact impl_MoebiusDigits.mono _ _ _ _ _ _ _ _)
   | (with_reducible exact laws_eqInt8S.mono _ _ _)
   | (with_reducible exact laws_eqStream.mono _ _ _ _ _)
   | (with_reducible exact laws_heldInt8S.mono _ _ _)
   | (with_reducible exact laws_markInt8S.mono _ _ _)
   | (with_reducible exact laws_markStream.mono _ _ _ _)
   | (with_reducible exact laws_toStream.mono _ _ _)
   | (with_reducible exact spec_MoebiusDigits.mono _ _ _ _ _ _ _ _)
   | (with_reducible exact LeO.refl _)
   | (with_reducible exact LeO.none _)
   | (with_reducible refine LeO.ite ?_ ?_)
   | (with_reducible refine LeO.bind ?_ (fun _ => ?_))
   | exact ih0 _ _ _ _ _ _ _ _ _ _ _ _ _ _ _ _
   | exact ih1 _ _ _ _ _ _ _ _ _ _ _ _
   | exact ih2 _ _ _
   | exact LeO.none _
   | refine LeO.ite ?_ ?_
   | refine LeO.bind ?_ (fun _ => ?_)
  ·
   intro y0 y1 y2 y3 y4 y5 y6 y7 y8 y9 y10 y11
   unfold laws_FnExactMoebiusDigits.j1
   repeat' first
   | (with_reducible exact ih0 _ _ _ _ _ _ _ _ _ _ _ _ _ _ _ _)
   | (with_reducible exact ih1 _ _ _ _ _ _ _ _ _ _ _ _)
   | (with_reducible exact ih2 _ _ _)
   | (with_reducible exact impl_MoebiusDigits.mono _ _ _ _ _ _ _ _)
   | (with_reducible exact laws_eqInt8S.mono _ _ _)
   | (with_reducible exact laws_eqStream.mono _ _ _ _ _)
   | (with_reducible exact laws_heldInt8S.mono _ _ _)
   | (with_reducible exact laws_markInt8S.mono _ _ _)
   | (with_reducible exact laws_markStream.mono _ _ _ _)
   | (with_reducible exact laws_toStream.mono _ _ _)
   | (with_reducible exact spec_MoebiusDigits.mono _ _ _ _ _ _ _ _)
   | (with_reducible exact LeO.refl _)
   | (with_reducible exact LeO.none _)
   | (with_reducible refine LeO.ite ?_ ?_)
   | (with_reducible refine LeO.bind ?_ (fun _ => ?_))
   | exact ih0 _ _ _ _ _ _ _ _ _ _ _ _ _ _ _ _
   | exact ih1 _ _ _ _ _ _ _ _ _ _ _ _
   | exact ih2 _ _ _
   | exact LeO.none _
   | refine LeO.ite ?_ ?_
   | refine LeO.bind ?_ (fun _ => ?_)
  ·
   intro y0 y1 y2
   unfold laws_FnExactMoebiusDigits.j2
   repeat' first
   | (with_reducible exact ih0 _ _ _ _ _ _ _ _ _ _ _ _ _ _ _ _)
   | (with_reducible exact ih1 _ _ _ _ _ _ _ _ _ _ _ _)
   | (with_reducible exact ih2 _ _ _)
   | (with_reducible exact impl_MoebiusDigits.mono _ _ _ _ _ _ _ _)
   | (with_reducible exact laws_eqInt8S.mono _ _ _)
   | (with_reducible exact laws_eqStream.mono _ _ _ _ _)
   | (with_reducible exact laws_heldInt8S.mono _ _ _)
   | (with_reducible exact laws_markInt8S.mono _ _ _)
   | (with_reducible exact laws_markStream.mono _ _ _ _)
   | (with_reducible exact laws_toStream.mono _ _ _)
   | (with_reducible exact spec_MoebiusDigits.mono _ _ _ _ _ _ _ _)
   | (with_reducible exact LeO.refl _)
   | (with_reducible exact LeO.none _)
   | (with_reducible refine LeO.ite ?_ ?_)
   | (with_reducible refine LeO.bind ?_ (fun _ => ?_))
   | exact ih0 _ _ _ _ _ _ _ _ _ _ _ _ _ _ _ _
   | exact ih1 _ _ _ _ _ _ _ _ _ _ _ _
   | exact ih2 _ _ _
   | exact LeO.none _
   | refine LeO.ite ?_ ?_
   | refine LeO.bind ?_ (fun _ => ?_)
theorem laws_FnExactMoebiusDigits.mono : ∀ a0 a1 a2 a3 a4 a5 a6 k, LeO (laws_FnExactMoebiusDigits.f k a0 a1 a2 a3 a4 a5 a6) (laws_FnExactMoebiusDigits.f (k + 1) a0 a1 a2 a3 a4 a5 a6) := by
 intro a0 a1 a2 a3 a4 a5 a6 k
 obtain ⟨ih0, ih1, ih2⟩ := laws_FnExactMoebiusDigits.mono_l k
 unfold laws_FnExactMoebiusDigits.f
 repeat' first
   | (with_reducible exact ih0 _ _ _ _ _ _ _ _ _ _ _ _ _ _ _ _)
   | (with_reducible exact ih1 _ _ _ _ _ _ _ _ _ _ _ _)
   | (with_reducible exact ih2 _ _ _)
   | (with_reducible exact impl_MoebiusDigits.mono _ _ _ _ _ _ _ _)
   | (with_reducible exact laws_eqInt8S.mono _ _ _)
   | (with_reducible exact laws_eqStream.mono _ _ _ _ _)
   | (with_reducible exact laws_heldInt8S.mono _ _ _)
   | (with_reducible exact laws_markInt8S.mono _ _ _)
   | (with_reducible exact laws_markStream.mono _ _ _ _)
   | (with_reducible exact laws_toStream.mono _ _ _)
   | (with_reducible exact spec_MoebiusDigits.mono _ _ _ _ _ _ _ _)
   | (with_reducible exact LeO.refl _)
   | (with_reducible exact LeO.none _)
   | (with_reducible refine LeO.ite ?_ ?_)
   | (with_reducible refine LeO.bind ?_ (fun _ => ?_))
   | exact ih0 _ _ _ _ _ _ _ _ _ _ _ _ _ _ _ _
   | exact ih1 _ _ _ _ _ _ _ _ _ _ _ _
   | exact ih2 _ _ _
   | exact LeO.none _
   | refine LeO.ite ?_ ?_
   | refine LeO.bind ?_ (fun _ => ?_)
def laws_FnExactMoebiusDigits.T5 : Bool × List (List Nat × List Nat) := (true, [([], []), ([0], [0]), ([], []), ([2, 1], [2]), ([], []), ([1, 3, 4, 3], [1, 3, 4]), ([5], [5]), ([6], [6]), ([6], [6]), ([6], [6]), ([7, 5, 0, 1, 2, 3, 4, 5, 6, 7], [7]), ([8, 10, 0, 1, 2, 3, 4, 5, 6, 7, 8, 10], [8]), ([9, 11, 0, 1, 2, 3, 4, 5, 6, 7, 8, 9, 10, 11], [9])])
def laws_FnExactMoebiusDigits.B5 : List Nat := [0, 1, 0, 7, 0, 31, 63, 127, 127, 127, 255, 1535, 4095]
theorem laws_FnExactMoebiusDigits.tab5 : rtab .any (opsOf Try.f4 5) = laws_FnExactMoebiusDigits.T5 := by kernel_rfl
theorem laws_FnExactMoebiusDigits.bits5 : waitsOk laws_FnExactMoebiusDigits.T5.2 laws_FnExactMoebiusDigits.B5 = true := by kernel_rfl
def laws_FnExactMoebiusDigits.T7 : Bool × List (List Nat × List Nat) := (true, [([], []), ([0], [0]), ([], []), ([], []), ([1, 2, 3, 1], [1, 2, 3]), ([4], [4]), ([5], [5]), ([5], [5]), ([5], [5]), ([6, 4, 0, 1, 2, 3, 4, 5, 6], [6]), ([7, 9, 0, 1, 2, 3, 4, 5, 6, 7, 9], [7]), ([8, 10, 0, 1, 2, 3, 4, 5, 6, 7, 8, 9, 10], [8])])
def laws_FnExactMoebiusDigits.B7 : List Nat := [0, 1, 0, 0, 15, 31, 63, 63, 63, 127, 767, 2047]
theorem laws_FnExactMoebiusDigits.tab7 : rtab .any (opsOf Try.f4 7) = laws_FnExactMoebiusDigits.T7 := by kernel_rfl
theorem laws_FnExactMoebiusDigits.bits7 : waitsOk laws_FnExactMoebiusDigits.T7.2 laws_FnExactMoebiusDigits.B7 = true := by kernel_rfl
def laws_FnExactMoebiusDigits.T24 : Bool × List (List Nat × List Nat) := (true, [([], []), ([0], [0]), ([], []), ([2, 1], [2]), ([], []), ([1, 3, 4, 3], [1, 3, 4]), ([5], [5]), ([6], [6]), ([6], [6]), ([6], [6]), ([7, 5, 0, 1, 2, 3, 4, 5, 6, 7], [7]), ([8, 10, 0, 1, 2, 3, 4, 5, 6, 7, 8, 10], [8]), ([9, 11, 0, 1, 2, 3, 4, 5, 6, 7, 8, 9, 10, 11], [9])])
def laws_FnExactMoebiusDigits.B24 : List Nat := [0, 1, 0, 7, 0, 31, 63, 127, 127, 127, 255, 1535, 4095]
theorem laws_FnExactMoebiusDigits.tab24 : rtab .any (opsOf Try.f4 24) = laws_FnExactMoebiusDigits.T24 := by kernel_rfl
theorem laws_FnExactMoebiusDigits.bits24 : waitsOk laws_FnExactMoebiusDigits.T24.2 laws_FnExactMoebiusDigits.B24 = true := by kernel_rfl
set_option maxHeartbeats 8000000 in
set_option maxRecDepth 100000 in
theorem laws_FnExactMoebiusDigits.calls (k : Nat) (a0_0 : Int) (a0_1 : Int) (a0_2 : Int) (a0_3 : Int) (A1_0 : Option Addr) (c1_0 : Nat) (l1_0 : List Int) (A1_1 : Option Addr) (c1_1 : Nat) (l1_1 : List Int) (a2 : Int) (w : World) (hr1_0 : Kd.C (Kd.int .i8) w A1_0 l1_0.length l1_0) (hc1_0 : l1_0.length ≤ c1_0) (hr1_1 : Kd.C (Kd.int .i8) w A1_1 l1_1.length l1_1) (hc1_1 : l1_1.length ≤ c1_1) (h : laws_FnExactMoebiusDigits.f k a0_0 a0_1 a0_2 a0_3 l1_0 l1_1 a2 = some true) :
  Calls Try.prog 4 #[.agg #[.int .i64 a0_0, .int .i64 a0_1, .int .i64 a0_2, .int .i64 a0_3], .agg #[.slice A1_0 l1_0.length c1_0, .slice A1_1 l1_1.length c1_1], .int .i64 a2] w fun e w' => e = .returned (.bool true) ∧ Below w.heap.size w w' := by
 have hu23 := Try.underlying23
 have hu26 := Try.underlying26
 have hu33 := Try.underlying33
 have HR1_0 := Aside0.mk hr1_0
 have HC1_0 := Aside0.mk hc1_0
 clear hr1_0 hc1_0
 have HR1_1 := Aside0.mk hr1_1
 have HC1_1 := Aside0.mk hc1_1
 clear hr1_1 hc1_1
 have HB := Aside0.mk (Below.refl w.heap.size w)
 have H : ((laws_szStream.f l1_0 l1_1 1048576).bind fun t351 => (if t351 < 0 then (some true) else ((laws_toMoebius.f a0_0 a0_1 a0_2 a0_3).bind fun bt352 => ((laws_toStream.f k l1_0 l1_1).bind fun bt356 => ((spec_MoebiusDigits.f k bt352.1 bt352.2.1 bt352.2.2.1 bt352.2.2.2 bt356.1 bt356.2 a2).bind fun bt362 => ((laws_toStream.f k l1_0 l1_1).bind fun bt367 => ((laws_toMoebius.f a0_0 a0_1 a0_2 a0_3).bind fun bt374 => ((impl_MoebiusDigits.f k bt374.1 bt374.2.1 bt374.2.2.1 bt374.2.2.2 bt367.1 bt367.2 a2).bind fun bt378 => ((laws_eqInt8S.f k bt378.1 bt362.1).bind fun t383 => (if t383 = true then (if bt378.2.1 = bt362.2.1 then (laws_FnExactMoebiusDigits.j0 k a2 bt362.1 bt362.2.1 bt362.2.2 bt378.1 bt378.2.1 bt378.2.2 (bt378.2.2 != bt362.2.2) a0_0 a0_1 a0_2 a0_3 l1_0 l1_1 bt367.1 bt367.2) else (laws_FnExactMoebiusDigits.j0 k a2 bt362.1 bt362.2.1 bt362.2.2 bt378.1 bt378.2.1 bt378.2.2 true a0_0 a0_1 a0_2 a0_3 l1_0 l1_1 bt367.1 bt367.2)) else (laws_FnExactMoebiusDigits.j0 k a2 bt362.1 bt362.2.1 bt362.2.2 bt378.1 bt378.2.1 bt378.2.2 true a0_0 a0_1 a0_2 a0_3 l1_0 l1_1 bt367.1 bt367.2))))))))))) = some true := h
 clear h
 replace H := Option.bind_eq_some_iff.mp H
 obtain ⟨t351, A40, H⟩ := H
 replace H : (if t351 < 0 then (some true) else ((laws_toMoebius.f a0_0 a0_1 a0_2 a0_3).bind fun bt352 => ((laws_toStream.f k l1_0 l1_1).bind fun bt356 => ((spec_MoebiusDigits.f k bt352.1 bt352.2.1 bt352.2.2.1 bt352.2.2.2 bt356.1 bt356.2 a2).bind fun bt362 => ((laws_toStream.f k l1_0 l1_1).bind fun bt367 => ((laws_toMoebius.f a0_0 a0_1 a0_2 a0_3).bind fun bt374 => ((impl_MoebiusDigits.f k bt374.1 bt374.2.1 bt374.2.2.1 bt374.2.2.2 bt367.1 bt367.2 a2).bind fun bt378 => ((laws_eqInt8S.f k bt378.1 bt362.1).bind fun t383 => (if t383 = true then (if bt378.2.1 = bt362.2.1 then (laws_FnExactMoebiusDigits.j0 k a2 bt362.1 bt362.2.1 bt362.2.2 bt378.1 bt378.2.1 bt378.2.2 (bt378.2.2 != bt362.2.2) a0_0 a0_1 a0_2 a0_3 l1_0 l1_1 bt367.1 bt367.2) else (laws_FnExactMoebiusDigits.j0 k a2 bt362.1 bt362.2.1 bt362.2.2 bt378.1 bt378.2.1 bt378.2.2 true a0_0 a0_1 a0_2 a0_3 l1_0 l1_1 bt367.1 bt367.2)) else (laws_FnExactMoebiusDigits.j0 k a2 bt362.1 bt362.2.1 bt362.2.2 bt378.1 bt378.2.1 bt378.2.2 true a0_0 a0_1 a0_2 a0_3 l1_0 l1_1 bt367.1 bt367.2)))))))))) = some true := H
 have A4 := Aside0.mk A40
 clear A40
 by_cases c5 : t351 < 0
 ·
  rw [if_pos c5] at H
  have c5b0 : decide (t351 < 0) = true := decide_eq_true c5
  clear c5
  clear H
  go_enter Try.func4, Try.ntmps4
  go_wp2_with (first | ((with_reducible refine gate_dst (N := 3) rfl ?_); refine box_event ?hg (N := 3) ?hd (cs := #[.int .i64 a0_0, .int .i64 a0_1, .int .i64 a0_2, .int .i64 a0_3]) (t := 23) ?hr ?_; (case hd => rfl); (case hg => rfl); (case hr => first | (go_simp; done) | (go_simp; rfl)); intro gb349 hg w6 hbox hb; have n0_ := Aside0.mk (below_step (by repeat (first | (with_reducible first | exact HB.out | apply below_alloc | apply pw_below_drewN | apply below_drew1) | exact HB.out)) hb); have n1_ := Aside0.mk (hbox); have n2_ := Aside0.mk ((by rw [hg]; exact (below_size (by repeat (first | (with_reducible first | exact HB.out | apply below_alloc | apply pw_below_drewN | apply below_drew1) | exact HB.out))) : w.heap.size ≤ gb349)); have n3_ := Aside0.mk ((by rw [hg]; exact (below_size (by repeat (first | (with_reducible first | exact HB.out | apply below_alloc | apply pw_below_drewN | apply below_drew1) | exact HB.out))) : w.heap.size ≤ gb349)); clear HB; have HB := n0_; have BK349 := n1_; have GW349 := n2_; have GE349 := n3_; clear n0_ n1_ n2_ n3_; clear hb hbox hg) | ((with_reducible refine gate_dst (N := 4) rfl ?_); refine box_event ?hg (N := 4) ?hd (cs := #[.slice A1_0 l1_0.length c1_0, .slice A1_1 l1_1.length c1_1]) (t := 26) ?hr ?_; (case hd => rfl); (case hg => rfl); (case hr => first | (go_simp; done) | (go_simp; rfl)); intro gb350 hg w7 hbox hb; have n0_ := Aside0.mk (blk_below (g := gb349) (o := .cells #[.int .i64 a0_0, .int .i64 a0_1, .int .i64 a0_2, .int .i64 a0_3] 23 (0, 0)) (by (with_reducible repeat (first | refine blk_drewN ?_ _ | refine blk_drew ?_ | refine blk_alloc ?_ _)); exact BK349.out) hb); have n1_ := Aside0.mk (below_step (by repeat (first | (with_reducible first | exact HB.out | apply below_alloc | apply pw_below_drewN | apply below_drew1 | refine below_set ?_ GE349.out) | exact HB.out)) hb); have n2_ := Aside0.mk (hbox); have n3_ := Aside0.mk ((by rw [hg]; exact (below_size (by repeat (first | (with_reducible first | exact HB.out | apply below_alloc | apply pw_below_drewN | apply below_drew1 | refine below_set ?_ GE349.out) | exact HB.out))) : w.heap.size ≤ gb350)); have n4_ := Aside0.mk ((by rw [hg]; exact (below_size (by repeat (first | (with_reducible first | exact HB.out | apply below_alloc | apply pw_below_drewN | apply below_drew1 | refine below_set ?_ GE349.out) | exact HB.out))) : w.heap.size ≤ gb350)); have n5_ := Aside0.mk ((by rw [hg]; exact Nat.ne_of_lt (blk_lt (g := gb349) (o := .cells #[.int .i64 a0_0, .int .i64 a0_1, .int .i64 a0_2, .int .i64 a0_3] 23 (0, 0)) (by (with_reducible repeat (first | refine blk_drewN ?_ _ | refine blk_drew ?_ | refine blk_alloc ?_ _)); exact BK349.out)) : gb349 ≠ gb350)); have n6_ := Aside0.mk ((by rw [hg]; exact Nat.ne_of_gt (blk_lt (g := gb349) (o := .cells #[.int .i64 a0_0, .int .i64 a0_1, .int .i64 a0_2, .int .i64 a0_3] 23 (0, 0)) (by (with_reducible repeat (first | refine blk_drewN ?_ _ | refine blk_drew ?_ | refine blk_alloc ?_ _)); exact BK349.out)) : gb350 ≠ gb349)); clear BK349; clear HB; have BK349 := n0_; have HB := n1_; have BK350 := n2_; have GW350 := n3_; have GE350 := n4_; have NB349_350 := n5_; have NB350_349 := n6_; clear n0_ n1_ n2_ n3_ n4_ n5_ n6_; clear hb hbox hg; have hnb8 := NB350_349.out; have hnc8 := NB349_350.out; have hcz9_0 : w7.cell? ⟨gb350, 0, none⟩ = some (.slice A1_0 l1_0.length c1_0) := (blk_cell BK350.out 0).trans rfl; have hcz9_1 : w7.cell? ⟨gb350, 1, none⟩ = some (.slice A1_1 l1_1.length c1_1) := (blk_cell BK350.out 1).trans rfl; have hfz9_0 := blk_frozen BK350.out 0; have hfz9_1 := blk_frozen BK350.out 1) | ((with_reducible refine gate_callee (f := 7) rfl ?_); refine goesL_ (some 23) rfl rfl Try.func7 (by kernel_rfl) rfl #[.agg #[.slice A1_0 l1_0.length c1_0, .slice A1_1 l1_1.length c1_1], .int .i64 1048576] rfl (by (try simp only [List.map_toArray, List.map_cons, List.map_nil]); first | done | rfl | (simp only [List.length_drop, List.length_take]; rfl)) ?_; (with_reducible refine (laws_szStream.calls _ _ l1_0 _ _ l1_1 1048576 t351 _ ?side1 ?side2 ?side3 ?side4 A4.out).mono ?_); (case side1 => repeat (first | exact (Kd.C_below HR1_0.out HB.out) | (with_reducible refine Kd.C_alloc ?_ _) | (with_reducible refine Kd.C_drewN ?_ _) | (with_reducible refine Kd.C_drew ?_))); (case side2 => exact HC1_0.out); (case side3 => repeat (first | exact (Kd.C_below HR1_1.out HB.out) | (with_reducible refine Kd.C_alloc ?_ _) | (with_reducible refine Kd.C_drewN ?_ _) | (with_reducible refine Kd.C_drew ?_))); (case side4 => exact HC1_1.out); rintro e w10 ⟨rfl, hb⟩; refine ⟨_, rfl, ?_⟩; have n0_ := Aside0.mk (blk_below (g := gb349) (o := .cells #[.int .i64 a0_0, .int .i64 a0_1, .int .i64 a0_2, .int .i64 a0_3] 23 (0, 0)) (by (with_reducible repeat (first | refine blk_drewN ?_ _ | refine blk_drew ?_ | refine blk_alloc ?_ _)); exact BK349.out) hb); have n1_ := Aside0.mk (blk_below (g := gb350) (o := .cells #[.slice A1_0 l1_0.length c1_0, .slice A1_1 l1_1.length c1_1] 26 (0, 0)) (by (with_reducible repeat (first | refine blk_drewN ?_ _ | refine blk_drew ?_ | refine blk_alloc ?_ _)); exact BK350.out) hb); have n2_ := Aside0.mk (below_step (by repeat (first | (with_reducible first | exact HB.out | apply below_alloc | apply pw_below_drewN | apply below_drew1 | refine below_set ?_ GE349.out | refine below_set ?_ GE350.out) | exact HB.out)) hb); clear BK349; clear BK350; clear HB; have BK349 := n0_; have BK350 := n1_; have HB := n2_; clear n0_ n1_ n2_; (try clear hb); (try clear hb2); (try clear hk); (try clear hi)))
  go_ret
  exact ⟨by first | rfl | (simp [errW_none, errW_some] <;> rfl) | (simp [*, errW_none, errW_some] <;> rfl), by repeat (first | (with_reducible first | exact HB.out | apply below_alloc | apply pw_below_drewN | apply below_drew1 | refine below_set ?_ GE349.out | refine below_set ?_ GE350.out) | exact HB.out)⟩
 ·
  rw [if_neg c5] at H
  have c5b0 : decide (t351 < 0) = false := decide_eq_false c5
  clear c5
  replace H := Option.bind_eq_some_iff.mp H
  obtain ⟨⟨t352, t353, t354, t355⟩, A110, H⟩ := H
  replace H : ((laws_toStream.f k l1_0 l1_1).bind fun bt356 => ((spec_MoebiusDigits.f k t352 t353 t354 t355 bt356.1 bt356.2 a2).bind fun bt362 => ((laws_toStream.f k l1_0 l1_1).bind fun bt367 => ((laws_toMoebius.f a0_0 a0_1 a0_2 a0_3).bind fun bt374 => ((impl_MoebiusDigits.f k bt374.1 bt374.2.1 bt374.2.2.1 bt374.2.2.2 bt367.1 bt367.2 a2).bind fun bt378 => ((laws_eqInt8S.f k bt378.1 bt362.1).bind fun t383 => (if t383 = true then (if bt378.2.1 = bt362.2.1 then (laws_FnExactMoebiusDigits.j0 k a2 bt362.1 bt362.2.1 bt362.2.2 bt378.1 bt378.2.1 bt378.2.2 (bt378.2.2 != bt362.2.2) a0_0 a0_1 a0_2 a0_3 l1_0 l1_1 bt367.1 bt367.2) else (laws_FnExactMoebiusDigits.j0 k a2 bt362.1 bt362.2.1 bt362.2.2 bt378.1 bt378.2.1 bt378.2.2 true a0_0 a0_1 a0_2 a0_3 l1_0 l1_1 bt367.1 bt367.2)) else (laws_FnExactMoebiusDigits.j0 k a2 bt362.1 bt362.2.1 bt362.2.2 bt378.1 bt378.2.1 bt378.2.2 true a0_0 a0_1 a0_2 a0_3 l1_0 l1_1 bt367.1 bt367.2)))))))) = some true := H
  have A11 := Aside0.mk A110
  clear A110
  replace H := Option.bind_eq_some_iff.mp H
  obtain ⟨⟨t356, t359⟩, A120, H⟩ := H
  replace H : ((spec_MoebiusDigits.f k t352 t353 t354 t355 t356 t359 a2).bind fun bt362 => ((laws_toStream.f k l1_0 l1_1).bind fun bt367 => ((laws_toMoebius.f a0_0 a0_1 a0_2 a0_3).bind fun bt374 => ((impl_MoebiusDigits.f k bt374.1 bt374.2.1 bt374.2.2.1 bt374.2.2.2 bt367.1 bt367.2 a2).bind fun bt378 => ((laws_eqInt8S.f k bt378.1 bt362.1).bind fun t383 => (if t383 = true then (if bt378.2.1 = bt362.2.1 then (laws_FnExactMoebiusDigits.j0 k a2 bt362.1 bt362.2.1 bt362.2.2 bt378.1 bt378.2.1 bt378.2.2 (bt378.2.2 != bt362.2.2) a0_0 a0_1 a0_2 a0_3 l1_0 l1_1 bt367.1 bt367.2) else (laws_FnExactMoebiusDigits.j0 k a2 bt362.1 bt362.2.1 bt362.2.2 bt378.1 bt378.2.1 bt378.2.2 true a0_0 a0_1 a0_2 a0_3 l1_0 l1_1 bt367.1 bt367.2)) else (laws_FnExactMoebiusDigits.j0 k a2 bt362.1 bt362.2.1 bt362.2.2 bt378.1 bt378.2.1 bt378.2.2 true a0_0 a0_1 a0_2 a0_3 l1_0 l1_1 bt367.1 bt367.2))))))) = some true := H
  have A12 := Aside0.mk A120
  clear A120
  replace H := Option.bind_eq_some_iff.mp H
  obtain ⟨⟨t362, t365, t366⟩, A130, H⟩ := H
  replace H : ((laws_toStream.f k l1_0 l1_1).bind fun bt367 => ((laws_toMoebius.f a0_0 a0_1 a0_2 a0_3).bind fun bt374 => ((impl_MoebiusDigits.f k bt374.1 bt374.2.1 bt374.2.2.1 bt374.2.2.2 bt367.1 bt367.2 a2).bind fun bt378 => ((laws_eqInt8S.f k bt378.1 t362).bind fun t383 => (if t383 = true then (if bt378.2.1 = t365 then (laws_FnExactMoebiusDigits.j0 k a2 t362 t365 t366 bt378.1 bt378.2.1 bt378.2.2 (bt378.2.2 != t366) a0_0 a0_1 a0_2 a0_3 l1_0 l1_1 bt367.1 bt367.2) else (laws_FnExactMoebiusDigits.j0 k a2 t362 t365 t366 bt378.1 bt378.2.1 bt378.2.2 true a0_0 a0_1 a0_2 a0_3 l1_0 l1_1 bt367.1 bt367.2)) else (laws_FnExactMoebiusDigits.j0 k a2 t362 t365 t366 bt378.1 bt378.2.1 bt378.2.2 true a0_0 a0_1 a0_2 a0_3 l1_0 l1_1 bt367.1 bt367.2)))))) = some true := H
  have A13 := Aside0.mk A130
  clear A130
  replace H := Option.bind_eq_some_iff.mp H
  obtain ⟨⟨t367, t370⟩, A140, H⟩ := H
  replace H : ((laws_toMoebius.f a0_0 a0_1 a0_2 a0_3).bind fun bt374 => ((impl_MoebiusDigits.f k bt374.1 bt374.2.1 bt374.2.2.1 bt374.2.2.2 t367 t370 a2).bind fun bt378 => ((laws_eqInt8S.f k bt378.1 t362).bind fun t383 => (if t383 = true then (if bt378.2.1 = t365 then (laws_FnExactMoebiusDigits.j0 k a2 t362 t365 t366 bt378.1 bt378.2.1 bt378.2.2 (bt378.2.2 != t366) a0_0 a0_1 a0_2 a0_3 l1_0 l1_1 t367 t370) else (laws_FnExactMoebiusDigits.j0 k a2 t362 t365 t366 bt378.1 bt378.2.1 bt378.2.2 true a0_0 a0_1 a0_2 a0_3 l1_0 l1_1 t367 t370)) else (laws_FnExactMoebiusDigits.j0 k a2 t362 t365 t366 bt378.1 bt378.2.1 bt378.2.2 true a0_0 a0_1 a0_2 a0_3 l1_0 l1_1 t367 t370))))) = some true := H
  have A14 := Aside0.mk A140
  clear A140
  replace H := Option.bind_eq_some_iff.mp H
  obtain ⟨⟨t374, t375, t376, t377⟩, A150, H⟩ := H
  replace H : ((impl_MoebiusDigits.f k t374 t375 t376 t377 t367 t370 a2).bind fun bt378 => ((laws_eqInt8S.f k bt378.1 t362).bind fun t383 => (if t383 = true then (if bt378.2.1 = t365 then (laws_FnExactMoebiusDigits.j0 k a2 t362 t365 t366 bt378.1 bt378.2.1 bt378.2.2 (bt378.2.2 != t366) a0_0 a0_1 a0_2 a0_3 l1_0 l1_1 t367 t370) else (laws_FnExactMoebiusDigits.j0 k a2 t362 t365 t366 bt378.1 bt378.2.1 bt378.2.2 true a0_0 a0_1 a0_2 a0_3 l1_0 l1_1 t367 t370)) else (laws_FnExactMoebiusDigits.j0 k a2 t362 t365 t366 bt378.1 bt378.2.1 bt378.2.2 true a0_0 a0_1 a0_2 a0_3 l1_0 l1_1 t367 t370)))) = some true := H
  have A15 := Aside0.mk A150
  clear A150
  replace H := Option.bind_eq_some_iff.mp H
  obtain ⟨⟨t378, t381, t382⟩, A160, H⟩ := H
  replace H : ((laws_eqInt8S.f k t378 t362).bind fun t383 => (if t383 = true then (if t381 = t365 then (laws_FnExactMoebiusDigits.j0 k a2 t362 t365 t366 t378 t381 t382 (t382 != t366) a0_0 a0_1 a0_2 a0_3 l1_0 l1_1 t367 t370) else (laws_FnExactMoebiusDigits.j0 k a2 t362 t365 t366 t378 t381 t382 true a0_0 a0_1 a0_2 a0_3 l1_0 l1_1 t367 t370)) else (laws_FnExactMoebiusDigits.j0 k a2 t362 t365 t366 t378 t381 t382 true a0_0 a0_1 a0_2 a0_3 l1_0 l1_1 t367 t370))) = some true := H
  have A16 := Aside0.mk A160
  clear A160
  have HC17 := Aside0.mk H
  clear H
  go_enter Try.func4, Try.ntmps4
  try go_wp2_with (first | ((with_reducible refine gate_dst (N := 3) rfl ?_); refine box_event ?hg (N := 3) ?hd (cs := #[.int .i64 a0_0, .int .i64 a0_1, .int .i64 a0_2, .int .i64 a0_3]) (t := 23) ?hr ?_; (case hd => rfl); (case hg => rfl); (case hr => first | (go_simp; done) | (go_simp; rfl)); intro gb349 hg w18 hbox hb; have n0_ := Aside0.mk (below_step (by repeat (first | (with_reducible first | exact HB.out | apply below_alloc | apply pw_below_drewN | apply below_drew1) | exact HB.out)) hb); have n1_ := Aside0.mk (hbox); have n2_ := Aside0.mk ((by rw [hg]; exact (below_size (by repeat (first | (with_reducible first | exact HB.out | apply below_alloc | apply pw_below_drewN | apply below_drew1) | exact HB.out))) : w.heap.size ≤ gb349)); have n3_ := Aside0.mk ((by rw [hg]; exact (below_size (by repeat (first | (with_reducible first | exact HB.out | apply below_alloc | apply pw_below_drewN | apply below_drew1) | exact HB.out))) : w.heap.size ≤ gb349)); clear HB; have HB := n0_; have BK349 := n1_; have GW349 := n2_; have GE349 := n3_; clear n0_ n1_ n2_ n3_; clear hb hbox hg) | ((with_reducible refine gate_dst (N := 4) rfl ?_); refine box_event ?hg (N := 4) ?hd (cs := #[.slice A1_0 l1_0.length c1_0, .slice A1_1 l1_1.length c1_1]) (t := 26) ?hr ?_; (case hd => rfl); (case hg => rfl); (case hr => first | (go_simp; done) | (go_simp; rfl)); intro gb350 hg w19 hbox hb; have n0_ := Aside0.mk (blk_below (g := gb349) (o := .cells #[.int .i64 a0_0, .int .i64 a0_1, .int .i64 a0_2, .int .i64 a0_3] 23 (0, 0)) (by (with_reducible repeat (first | refine blk_drewN ?_ _ | refine blk_drew ?_ | refine blk_alloc ?_ _)); exact BK349.out) hb); have n1_ := Aside0.mk (below_step (by repeat (first | (with_reducible first | exact HB.out | apply below_alloc | apply pw_below_drewN | apply below_drew1 | refine below_set ?_ GE349.out) | exact HB.out)) hb); have n2_ := Aside0.mk (hbox); have n3_ := Aside0.mk ((by rw [hg]; exact (below_size (by repeat (first | (with_reducible first | exact HB.out | apply below_alloc | apply pw_below_drewN | apply below_drew1 | refine below_set ?_ GE349.out) | exact HB.out))) : w.heap.size ≤ gb350)); have n4_ := Aside0.mk ((by rw [hg]; exact (below_size (by repeat (first | (with_reducible first | exact HB.out | apply below_alloc | apply pw_below_drewN | apply below_drew1 | refine below_set ?_ GE349.out) | exact HB.out))) : w.heap.size ≤ gb350)); have n5_ := Aside0.mk ((by rw [hg]; exact Nat.ne_of_lt (blk_lt (g := gb349) (o := .cells #[.int .i64 a0_0, .int .i64 a0_1, .int .i64 a0_2, .int .i64 a0_3] 23 (0, 0)) (by (with_reducible repeat (first | refine blk_drewN ?_ _ | refine blk_drew ?_ | refine blk_alloc ?_ _)); exact BK349.out)) : gb349 ≠ gb350)); have n6_ := Aside0.mk ((by rw [hg]; exact Nat.ne_of_gt (blk_lt (g := gb349) (o := .cells #[.int .i64 a0_0, .int .i64 a0_1, .int .i64 a0_2, .int .i64 a0_3] 23 (0, 0)) (by (with_reducible repeat (first | refine blk_drewN ?_ _ | refine blk_drew ?_ | refine blk_alloc ?_ _)); exact BK349.out)) : gb350 ≠ gb349)); clear BK349; clear HB; have BK349 := n0_; have HB := n1_; have BK350 := n2_; have GW350 := n3_; have GE350 := n4_; have NB349_350 := n5_; have NB350_349 := n6_; clear n0_ n1_ n2_ n3_ n4_ n5_ n6_; clear hb hbox hg; have hnb20 := NB350_349.out; have hnc20 := NB349_350.out; have hcz21_0 : w19.cell? ⟨gb350, 0, none⟩ = some (.slice A1_0 l1_0.length c1_0) := (blk_cell BK350.out 0).trans rfl; have hcz21_1 : w19.cell? ⟨gb350, 1, none⟩ = some (.slice A1_1 l1_1.length c1_1) := (blk_cell BK350.out 1).trans rfl; have hfz21_0 := blk_frozen BK350.out 0; have hfz21_1 := blk_frozen BK350.out 1) | ((with_reducible refine gate_callee (f := 7) rfl ?_); refine goesL_ (some 23) rfl rfl Try.func7 (by kernel_rfl) rfl #[.agg #[.slice A1_0 l1_0.length c1_0, .slice A1_1 l1_1.length c1_1], .int .i64 1048576] rfl (by (try simp only [List.map_toArray, List.map_cons, List.map_nil]); first | done | rfl | (simp only [List.length_drop, List.length_take]; rfl)) ?_; (with_reducible refine (laws_szStream.calls _ _ l1_0 _ _ l1_1 1048576 t351 _ ?side1 ?side2 ?side3 ?side4 A4.out).mono ?_); (case side1 => repeat (first | exact (Kd.C_below HR1_0.out HB.out) | (with_reducible refine Kd.C_alloc ?_ _) | (with_reducible refine Kd.C_drewN ?_ _) | (with_reducible refine Kd.C_drew ?_))); (case side2 => exact HC1_0.out); (case side3 => repeat (first | exact (Kd.C_below HR1_1.out HB.out) | (with_reducible refine Kd.C_alloc ?_ _) | (with_reducible refine Kd.C_drewN ?_ _) | (with_reducible refine Kd.C_drew ?_))); (case side4 => exact HC1_1.out); rintro e w22 ⟨rfl, hb⟩; refine ⟨_, rfl, ?_⟩; have n0_ := Aside0.mk (blk_below (g := gb349) (o := .cells #[.int .i64 a0_0, .int .i64 a0_1, .int .i64 a0_2, .int .i64 a0_3] 23 (0, 0)) (by (with_reducible repeat (first | refine blk_drewN ?_ _ | refine blk_drew ?_ | refine blk_alloc ?_ _)); exact BK349.out) hb); have n1_ := Aside0.mk (blk_below (g := gb350) (o := .cells #[.slice A1_0 l1_0.length c1_0, .slice A1_1 l1_1.length c1_1] 26 (0, 0)) (by (with_reducible repeat (first | refine blk_drewN ?_ _ | refine blk_drew ?_ | refine blk_alloc ?_ _)); exact BK350.out) hb); have n2_ := Aside0.mk (below_step (by repeat (first | (with_reducible first | exact HB.out | apply below_alloc | apply pw_below_drewN | apply below_drew1 | refine below_set ?_ GE349.out | refine below_set ?_ GE350.out) | exact HB.out)) hb); clear BK349; clear BK350; clear HB; have BK349 := n0_; have BK350 := n1_; have HB := n2_; clear n0_ n1_ n2_; (try clear hb); (try clear hb2); (try clear hk); (try clear hi)))
  have n0_ := Aside0.mk (blk_drew BK349.out)
  have n1_ := Aside0.mk (blk_drew BK350.out)
  have n2_ := Aside0.mk (below_drew1 HB.out)
  clear BK349
  clear BK350
  clear HB
  have BK349 := n0_
  have BK350 := n1_
  have HB := n2_
  clear n0_ n1_ n2_
  refine start_ (n := 13) (S := fun w' => w'.cell? ⟨gb349, 0, none⟩ = some (.int .i64 a0_0) ∧ w'.cell? ⟨gb349, 1, none⟩ = some (.int .i64 a0_1) ∧ w'.cell? ⟨gb349, 2, none⟩ = some (.int .i64 a0_2) ∧ w'.cell? ⟨gb349, 3, none⟩ = some (.int .i64 a0_3) ∧ w'.cell? ⟨gb350, 0, none⟩ = some (.slice A1_0 l1_0.length c1_0) ∧ w'.cell? ⟨gb350, 1, none⟩ = some (.slice A1_1 l1_1.length c1_1)) (ds := []) #[false, false, false, false, false, false, false, false, false, false, false, false, false] (by kernel_rfl) rfl rfl ⟨(blk_cell BK349.out 0).trans rfl, (blk_cell BK349.out 1).trans rfl, (blk_cell BK349.out 2).trans rfl, (blk_cell BK349.out 3).trans rfl, (blk_cell BK350.out 0).trans rfl, (blk_cell BK350.out 1).trans rfl⟩ (fun hHeld => ?_); refine with_tabW laws_FnExactMoebiusDigits.tab5 laws_FnExactMoebiusDigits.bits5 (fun HT_ HW_ => ?_)
  generalize w22.drew = w23 at BK349 BK350 HB hHeld ⊢
  refine pure_ (i := 4) (N := some 31) (v := ?_) (a' := ?_) #[false, false, false, false, true, false, false, false, false, false, false, false, false] rfl rfl (any_of HT_.out (by kernel_rfl)) (fun _ _ _ h => h) (Or.inl ⟨by rfl, ?_⟩) ?_ ?_
  rotate_left
  ·
   intro w'
   go_simp
   with_reducible rfl
  rotate_left
  ·
   simp only [Act.put, sA_, sB_, sC_, i64_w, i32_w]
   rfl
  refine take_ (i := 0) (N := some 27) (v := ?_) (a' := ?_) #[true, false, false, false, true, false, false, false, false, false, false, false, false] rfl rfl (take_ofW HT_.out HW_.out (by kernel_rfl)) (fun _ _ _ h => h) (Or.inl ⟨by rfl, ?_⟩) hHeld ?_ ?_
  rotate_left
  ·
   rintro w' ⟨s0, s1, s2, s3, s4, s5⟩
   go_simp
   with_reducible rfl
  rotate_left
  ·
   simp only [Act.put, sA_, sB_, sC_, i64_w, i32_w]
   rfl
  refine take_ (i := 2) (N := some 29) (v := ?_) (a' := ?_) #[true, false, true, false, true, false, false, false, false, false, false, false, false] rfl rfl (take_ofW HT_.out HW_.out (by kernel_rfl)) (fun _ _ _ h => h) (Or.inl ⟨by rfl, ?_⟩) hHeld ?_ ?_
  rotate_left
  ·
   rintro w' ⟨s0, s1, s2, s3, s4, s5⟩
   go_simp
   with_reducible rfl
  rotate_left
  ·
   simp only [Act.put, sA_, sB_, sC_, i64_w, i32_w]
   rfl
  refine one_ (i := 1) (N := some 28) #[true, true, true, false, true, false, false, false, false, false, false, false, false] rfl rfl (one_of HT_.out (by kernel_rfl)) (by decide) (fun K hK => ?_)
  refine goes_ Try.func9 (by kernel_rfl) rfl #[.agg #[.int .i64 a0_0, .int .i64 a0_1, .int .i64 a0_2, .int .i64 a0_3]] (by rfl) rfl rfl (by (try simp only [List.map_toArray, List.map_cons, List.map_nil]); first | done | rfl | (simp only [List.length_drop, List.length_take]; rfl)) ?_
  with_reducible refine (laws_toMoebius.calls a0_0 a0_1 a0_2 a0_3 t352 t353 t354 t355 _ A11.out).mono ?_
  rintro e w24 ⟨rfl, hb⟩
  refine ⟨_, rfl, ?_⟩
  have n0_ := Aside0.mk (blk_below (g := gb349) (o := .cells #[.int .i64 a0_0, .int .i64 a0_1, .int .i64 a0_2, .int .i64 a0_3] 23 (0, 0)) (by (with_reducible repeat (first | refine blk_drewN ?_ _ | refine blk_drew ?_ | refine blk_alloc ?_ _)); exact BK349.out) hb)
  have n1_ := Aside0.mk (blk_below (g := gb350) (o := .cells #[.slice A1_0 l1_0.length c1_0, .slice A1_1 l1_1.length c1_1] 26 (0, 0)) (by (with_reducible repeat (first | refine blk_drewN ?_ _ | refine blk_drew ?_ | refine blk_alloc ?_ _)); exact BK350.out) hb)
  have n2_ := Aside0.mk (below_step (by repeat (first | (with_reducible first | exact HB.out | apply below_alloc | apply pw_below_drewN | apply below_drew1 | refine below_set ?_ GE349.out | refine below_set ?_ GE350.out) | exact HB.out)) hb)
  clear BK349
  clear BK350
  clear HB
  have BK349 := n0_
  have BK350 := n1_
  have HB := n2_
  clear n0_ n1_ n2_
  (try clear hb)
  (try clear hb2)
  (try clear hk)
  (try clear hi)
  refine hK.out _ _ ⟨(blk_cell BK349.out 0).trans rfl, (blk_cell BK349.out 1).trans rfl, (blk_cell BK349.out 2).trans rfl, (blk_cell BK349.out 3).trans rfl, (blk_cell BK350.out 0).trans rfl, (blk_cell BK350.out 1).trans rfl⟩ (fun hHeld => ?_)
  clear hK K
  refine norm_ (a' := ?_) ?_ ?_
  rotate_left
  ·
   show Act.put _ (some 28) _ = _
   simp only [Act.put, sA_, sB_, sC_, i64_w, i32_w]
   rfl
  refine one_ (i := 3) (N := some 30) #[true, true, true, true, true, false, false, false, false, false, false, false, false] rfl rfl (one_of HT_.out (by kernel_rfl)) (by decide) (fun K hK => ?_)
  refine goes_ Try.func10 (by kernel_rfl) rfl #[.agg #[.slice A1_0 l1_0.length c1_0, .slice A1_1 l1_1.length c1_1]] (by rfl) rfl rfl (by (try simp only [List.map_toArray, List.map_cons, List.map_nil]); first | done | rfl | (simp only [List.length_drop, List.length_take]; rfl)) ?_
  with_reducible refine (laws_toStream.calls k _ _ l1_0 _ _ l1_1 t356 t359 _ ?side1 ?side2 ?side3 ?side4 A12.out).mono ?_
  (case side1 => repeat (first | exact (Kd.C_below HR1_0.out HB.out) | (with_reducible refine Kd.C_alloc ?_ _) | (with_reducible refine Kd.C_drewN ?_ _) | (with_reducible refine Kd.C_drew ?_)))
  (case side2 => exact HC1_0.out)
  (case side3 => repeat (first | exact (Kd.C_below HR1_1.out HB.out) | (with_reducible refine Kd.C_alloc ?_ _) | (with_reducible refine Kd.C_drewN ?_ _) | (with_reducible refine Kd.C_drew ?_)))
  (case side4 => exact HC1_1.out)
  rintro e w25 ⟨v357, v360, rfl, ho0, ho1, hb⟩
  refine ⟨_, rfl, ?_⟩
  have n0_ := Aside0.mk (Kd.R_lower ho0 (below_size (by repeat (first | (with_reducible first | exact HB.out | apply below_alloc | apply pw_below_drewN | apply below_drew1 | refine below_set ?_ GE349.out | refine below_set ?_ GE350.out) | exact HB.out))))
  have n1_ := Aside0.mk (Kd.R_lower ho1 (below_size (by repeat (first | (with_reducible first | exact HB.out | apply below_alloc | apply pw_below_drewN | apply below_drew1 | refine below_set ?_ GE349.out | refine below_set ?_ GE350.out) | exact HB.out))))
  have n2_ := Aside0.mk (blk_below (g := gb349) (o := .cells #[.int .i64 a0_0, .int .i64 a0_1, .int .i64 a0_2, .int .i64 a0_3] 23 (0, 0)) (by (with_reducible repeat (first | refine blk_drewN ?_ _ | refine blk_drew ?_ | refine blk_alloc ?_ _)); exact BK349.out) hb)
  have n3_ := Aside0.mk (blk_below (g := gb350) (o := .cells #[.slice A1_0 l1_0.length c1_0, .slice A1_1 l1_1.length c1_1] 26 (0, 0)) (by (with_reducible repeat (first | refine blk_drewN ?_ _ | refine blk_drew ?_ | refine blk_alloc ?_ _)); exact BK350.out) hb)
  have n4_ := Aside0.mk (below_step (by repeat (first | (with_reducible first | exact HB.out | apply below_alloc | apply pw_below_drewN | apply below_drew1 | refine below_set ?_ GE349.out | refine below_set ?_ GE350.out) | exact HB.out)) hb)
  clear BK349
  clear BK350
  clear HB
  have HO358 := n0_
  have HO361 := n1_
  have BK349 := n2_
  have BK350 := n3_
  have HB := n4_
  clear n0_ n1_ n2_ n3_ n4_
  (try clear hb)
  (try clear hb2)
  (try clear hk)
  (try clear hi)
  (try clear ho0)
  (try clear ho1)
  obtain ⟨Ao26, co26, eo26⟩ := Kd.R_slice HO358.out
  (first | subst eo26 | (injection eo26 with f1_ f2_ f3_; have f4_ := f1_.symm; have f5_ := f3_.symm; clear f1_ f2_ f3_; subst f4_; subst f5_))
  obtain ⟨Ao27, co27, eo27⟩ := Kd.R_slice HO361.out
  (first | subst eo27 | (injection eo27 with f1_ f2_ f3_; have f4_ := f1_.symm; have f5_ := f3_.symm; clear f1_ f2_ f3_; subst f4_; subst f5_))
  refine hK.out _ _ ⟨(blk_cell BK349.out 0).trans rfl, (blk_cell BK349.out 1).trans rfl, (blk_cell BK349.out 2).trans rfl, (blk_cell BK349.out 3).trans rfl, (blk_cell BK350.out 0).trans rfl, (blk_cell BK350.out 1).trans rfl⟩ (fun hHeld => ?_)
  clear hK K
  refine norm_ (a' := ?_) ?_ ?_
  rotate_left
  ·
   show Act.put _ (some 30) _ = _
   simp only [Act.put, sA_, sB_, sC_, i64_w, i32_w]
   rfl
  refine one_ (i := 5) (N := some 32) #[true, true, true, true, true, true, false, false, false, false, false, false, false] rfl rfl (one_of HT_.out (by kernel_rfl)) (by decide) (fun K hK => ?_)
  refine goes_ Try.func17 (by kernel_rfl) rfl #[.agg #[.int .i64 t352, .int .i64 t353, .int .i64 t354, .int .i64 t355], .agg #[.slice Ao26 t356.length co26, .slice Ao27 t359.length co27], .int .i64 a2] (by rfl) rfl rfl (by (try simp only [List.map_toArray, List.map_cons, List.map_nil]); first | done | rfl | (simp only [List.length_drop, List.length_take]; rfl)) ?_
  with_reducible refine (spec_MoebiusDigits.calls k t352 t353 t354 t355 _ _ t356 _ _ t359 a2 t362 t365 t366 _ ?side1 ?side2 ?side3 ?side4 A13.out).mono ?_
  (case side1 => repeat (first | exact (Kd.R_reads' HO358.out).2.2 | (with_reducible refine Kd.C_alloc ?_ _) | (with_reducible refine Kd.C_drewN ?_ _) | (with_reducible refine Kd.C_drew ?_)))
  (case side2 => exact (Kd.R_reads' HO358.out).2.1)
  (case side3 => repeat (first | exact (Kd.R_reads' HO361.out).2.2 | (with_reducible refine Kd.C_alloc ?_ _) | (with_reducible refine Kd.C_drewN ?_ _) | (with_reducible refine Kd.C_drew ?_)))
  (case side4 => exact (Kd.R_reads' HO361.out).2.1)
  rintro e w28 ⟨v363, rfl, ho0, hb⟩
  refine ⟨_, rfl, ?_⟩
  have n0_ := Aside0.mk (Kd.R_elder' (by (with_reducible repeat (first | apply Kd.R_alloc | apply Kd.R_drewN | apply Kd.R_drew)); exact HO358.out) (Kd.R_base ho0) hb)
  have n1_ := Aside0.mk (Kd.R_elder' (by (with_reducible repeat (first | apply Kd.R_alloc | apply Kd.R_drewN | apply Kd.R_drew)); exact HO361.out) (Kd.R_base ho0) hb)
  have n2_ := Aside0.mk (Kd.R_lower (Kd.R_new' (Kd.R_new' ho0 (Kd.R_lt (by (with_reducible repeat (first | apply Kd.R_alloc | apply Kd.R_drewN | apply Kd.R_drew)); exact HO358.out))) (Kd.R_lt (by (with_reducible repeat (first | apply Kd.R_alloc | apply Kd.R_drewN | apply Kd.R_drew)); exact HO361.out))) (below_size (by repeat (first | (with_reducible first | exact HB.out | apply below_alloc | apply pw_below_drewN | apply below_drew1 | refine below_set ?_ GE349.out | refine below_set ?_ GE350.out) | exact HB.out))))
  have n3_ := Aside0.mk (blk_below (g := gb349) (o := .cells #[.int .i64 a0_0, .int .i64 a0_1, .int .i64 a0_2, .int .i64 a0_3] 23 (0, 0)) (by (with_reducible repeat (first | refine blk_drewN ?_ _ | refine blk_drew ?_ | refine blk_alloc ?_ _)); exact BK349.out) hb)
  have n4_ := Aside0.mk (blk_below (g := gb350) (o := .cells #[.slice A1_0 l1_0.length c1_0, .slice A1_1 l1_1.length c1_1] 26 (0, 0)) (by (with_reducible repeat (first | refine blk_drewN ?_ _ | refine blk_drew ?_ | refine blk_alloc ?_ _)); exact BK350.out) hb)
  have n5_ := Aside0.mk (below_step (by repeat (first | (with_reducible first | exact HB.out | apply below_alloc | apply pw_below_drewN | apply below_drew1 | refine below_set ?_ GE349.out | refine below_set ?_ GE350.out) | exact HB.out)) hb)
  clear HO358
  clear HO361
  clear BK349
  clear BK350
  clear HB
  have HO358 := n0_
  have HO361 := n1_
  have HO364 := n2_
  have BK349 := n3_
  have BK350 := n4_
  have HB := n5_
  clear n0_ n1_ n2_ n3_ n4_ n5_
  (try clear hb)
  (try clear hb2)
  (try clear hk)
  (try clear hi)
  (try clear ho0)
  refine hK.out _ _ ⟨(blk_cell BK349.out 0).trans rfl, (blk_cell BK349.out 1).trans rfl, (blk_cell BK349.out 2).trans rfl, (blk_cell BK349.out 3).trans rfl, (blk_cell BK350.out 0).trans rfl, (blk_cell BK350.out 1).trans rfl⟩ (fun hHeld => ?_)
  clear hK K
  refine norm_ (a' := ?_) ?_ ?_
  rotate_left
  ·
   show Act.put _ (some 32) _ = _
   simp only [Act.put, sA_, sB_, sC_, i64_w, i32_w]
   rfl
  refine pure_ (i := 6) (N := some 26) (v := ?_) (a' := ?_) #[true, true, true, true, true, true, true, false, false, false, false, false, false] rfl rfl (any_of HT_.out (by kernel_rfl)) (fun _ _ _ h => h) (Or.inl ⟨by rfl, ?_⟩) ?_ ?_
  rotate_left
  ·
   intro w'
   go_simp
   with_reducible rfl
  rotate_left
  ·
   simp only [Act.put, sA_, sB_, sC_, i64_w, i32_w]
   rfl
  refine pure_ (i := 7) (N := some 33) (v := ?_) (a' := ?_) #[true, true, true, true, true, true, true, true, false, false, false, false, false] rfl rfl (any_of HT_.out (by kernel_rfl)) (fun _ _ _ h => h) (Or.inl ⟨by rfl, ?_⟩) ?_ ?_
  rotate_left
  ·
   intro w'
   go_simp
   with_reducible rfl
  rotate_left
  ·
   simp only [Act.put, sA_, sB_, sC_, i64_w, i32_w]
   rfl
  refine pure_ (i := 8) (N := some 34) (v := ?_) (a' := ?_) #[true, true, true, true, true, true, true, true, true, false, false, false, false] rfl rfl (any_of HT_.out (by kernel_rfl)) (fun _ _ _ h => h) (Or.inl ⟨by rfl, ?_⟩) ?_ ?_
  rotate_left
  ·
   intro w'
   go_simp
   with_reducible rfl
  rotate_left
  ·
   simp only [Act.put, sA_, sB_, sC_, i64_w, i32_w]
   rfl
  refine pure_ (i := 9) (N := some 35) (v := ?_) (a' := ?_) #[true, true, true, true, true, true, true, true, true, true, false, false, false] rfl rfl (any_of HT_.out (by kernel_rfl)) (fun _ _ _ h => h) (Or.inl ⟨by rfl, ?_⟩) ?_ ?_
  rotate_left
  ·
   intro w'
   go_simp
   with_reducible rfl
  rotate_left
  ·
   simp only [Act.put, sA_, sB_, sC_, i64_w, i32_w]
   rfl
  refine pure_ (i := 10) (N := some 8) (v := ?_) (a' := ?_) #[true, true, true, true, true, true, true, true, true, true, true, false, false] rfl rfl (any_of HT_.out (by kernel_rfl)) (fun _ _ _ h => h) (Or.inl ⟨by rfl, ?_⟩) ?_ ?_
  rotate_left
  ·
   intro w'
   go_simp
   with_reducible rfl
  rotate_left
  ·
   simp only [Act.put, sA_, sB_, sC_, i64_w, i32_w]
   rfl
  refine pure_ (i := 11) (N := some 9) (v := ?_) (a' := ?_) #[true, true, true, true, true, true, true, true, true, true, true, true, false] rfl rfl (any_of HT_.out (by kernel_rfl)) (fun _ _ _ h => h) (Or.inl ⟨by rfl, ?_⟩) ?_ ?_
  rotate_left
  ·
   intro w'
   go_simp
   with_reducible rfl
  rotate_left
  ·
   simp only [Act.put, sA_, sB_, sC_, i64_w, i32_w]
   rfl
  refine pure_ (i := 12) (N := some 10) (v := ?_) (a' := ?_) #[true, true, true, true, true, true, true, true, true, true, true, true, true] rfl rfl (any_of HT_.out (by kernel_rfl)) (fun _ _ _ h => h) (Or.inl ⟨by rfl, ?_⟩) ?_ ?_
  rotate_left
  ·
   intro w'
   go_simp
   with_reducible rfl
  rotate_left
  ·
   simp only [Act.put, sA_, sB_, sC_, i64_w, i32_w]
   rfl
  refine done_ (done_of HT_.out (by kernel_rfl)) ?_
  have hcz29_0 : w28.cell? ⟨gb350, 0, none⟩ = some (.slice A1_0 l1_0.length c1_0) := (blk_cell BK350.out 0).trans rfl
  have hcz29_1 : w28.cell? ⟨gb350, 1, none⟩ = some (.slice A1_1 l1_1.length c1_1) := (blk_cell BK350.out 1).trans rfl
  have hfz29_0 := blk_frozen BK350.out 0
  have hfz29_1 := blk_frozen BK350.out 1
  try go_wp2_with (first | ((with_reducible refine gate_callee (f := 10) rfl ?_); refine goesL_ (some 37) rfl rfl Try.func10 (by kernel_rfl) rfl #[.agg #[.slice A1_0 l1_0.length c1_0, .slice A1_1 l1_1.length c1_1]] rfl (by (try simp only [List.map_toArray, List.map_cons, List.map_nil]); first | done | rfl | (simp only [List.length_drop, List.length_take]; rfl)) ?_; (with_reducible refine (laws_toStream.calls k _ _ l1_0 _ _ l1_1 t367 t370 _ ?side1 ?side2 ?side3 ?side4 A14.out).mono ?_); (case side1 => repeat (first | exact (Kd.C_below HR1_0.out HB.out) | (with_reducible refine Kd.C_alloc ?_ _) | (with_reducible refine Kd.C_drewN ?_ _) | (with_reducible refine Kd.C_drew ?_))); (case side2 => exact HC1_0.out); (case side3 => repeat (first | exact (Kd.C_below HR1_1.out HB.out) | (with_reducible refine Kd.C_alloc ?_ _) | (with_reducible refine Kd.C_drewN ?_ _) | (with_reducible refine Kd.C_drew ?_))); (case side4 => exact HC1_1.out); rintro e w30 ⟨v368, v371, rfl, ho0, ho1, hb⟩; refine ⟨_, rfl, ?_⟩; have n0_ := Aside0.mk (Kd.R_mono (Kd.R_told (Kd.R_told (Kd.R_old (by (with_reducible repeat (first | apply Kd.R_alloc | apply Kd.R_drewN | apply Kd.R_drew)); exact HO358.out) hb) (Kd.R_base ho0)) (Kd.R_base ho1)) (fun _ h_ => h_.1)); have n1_ := Aside0.mk (Kd.R_mono (Kd.R_told (Kd.R_told (Kd.R_old (by (with_reducible repeat (first | apply Kd.R_alloc | apply Kd.R_drewN | apply Kd.R_drew)); exact HO361.out) hb) (Kd.R_base ho0)) (Kd.R_base ho1)) (fun _ h_ => h_.1)); have n2_ := Aside0.mk (Kd.R_mono (Kd.R_told (Kd.R_told (Kd.R_old (by (with_reducible repeat (first | apply Kd.R_alloc | apply Kd.R_drewN | apply Kd.R_drew)); exact HO364.out) hb) (Kd.R_base ho0)) (Kd.R_base ho1)) (fun _ h_ => h_.1)); have n3_ := Aside0.mk (Kd.R_lower (Kd.R_new' (Kd.R_new' (Kd.R_new' ho0 (Kd.R_lt (by (with_reducible repeat (first | apply Kd.R_alloc | apply Kd.R_drewN | apply Kd.R_drew)); exact HO358.out))) (Kd.R_lt (by (with_reducible repeat (first | apply Kd.R_alloc | apply Kd.R_drewN | apply Kd.R_drew)); exact HO361.out))) (Kd.R_lt (by (with_reducible repeat (first | apply Kd.R_alloc | apply Kd.R_drewN | apply Kd.R_drew)); exact HO364.out))) (below_size (by repeat (first | (with_reducible first | exact HB.out | apply below_alloc | apply pw_below_drewN | apply below_drew1 | refine below_set ?_ GE349.out | refine below_set ?_ GE350.out) | exact HB.out)))); have n4_ := Aside0.mk (Kd.R_lower (Kd.R_new' (Kd.R_new' (Kd.R_new' ho1 (Kd.R_lt (by (with_reducible repeat (first | apply Kd.R_alloc | apply Kd.R_drewN | apply Kd.R_drew)); exact HO358.out))) (Kd.R_lt (by (with_reducible repeat (first | apply Kd.R_alloc | apply Kd.R_drewN | apply Kd.R_drew)); exact HO361.out))) (Kd.R_lt (by (with_reducible repeat (first | apply Kd.R_alloc | apply Kd.R_drewN | apply Kd.R_drew)); exact HO364.out))) (below_size (by repeat (first | (with_reducible first | exact HB.out | apply below_alloc | apply pw_below_drewN | apply below_drew1 | refine below_set ?_ GE349.out | refine below_set ?_ GE350.out) | exact HB.out)))); have n5_ := Aside0.mk (blk_below (g := gb349) (o := .cells #[.int .i64 a0_0, .int .i64 a0_1, .int .i64 a0_2, .int .i64 a0_3] 23 (0, 0)) (by (with_reducible repeat (first | refine blk_drewN ?_ _ | refine blk_drew ?_ | refine blk_alloc ?_ _)); exact BK349.out) hb); have n6_ := Aside0.mk (blk_below (g := gb350) (o := .cells #[.slice A1_0 l1_0.length c1_0, .slice A1_1 l1_1.length c1_1] 26 (0, 0)) (by (with_reducible repeat (first | refine blk_drewN ?_ _ | refine blk_drew ?_ | refine blk_alloc ?_ _)); exact BK350.out) hb); have n7_ := Aside0.mk (below_step (by repeat (first | (with_reducible first | exact HB.out | apply below_alloc | apply pw_below_drewN | apply below_drew1 | refine below_set ?_ GE349.out | refine below_set ?_ GE350.out) | exact HB.out)) hb); clear HO358; clear HO361; clear HO364; clear BK349; clear BK350; clear HB; have HO358 := n0_; have HO361 := n1_; have HO364 := n2_; have HO369 := n3_; have HO372 := n4_; have BK349 := n5_; have BK350 := n6_; have HB := n7_; clear n0_ n1_ n2_ n3_ n4_ n5_ n6_ n7_; (try clear hb); (try clear hb2); (try clear hk); (try clear hi); (try clear ho0); (try clear ho1)) | ((with_reducible refine gate_dst (N := 11) rfl ?_); refine box_event ?hg (N := 11) ?hd (cs := #[.slice none 0 0, .slice none 0 0]) (t := 33) ?hr ?_; (case hd => rfl); (case hg => rfl); (case hr => first | (go_simp; done) | (go_simp; rfl)); intro gb373 hg w31 hbox hb; have n0_ := Aside0.mk (Kd.R_below (by (with_reducible repeat (first | apply Kd.R_alloc | apply Kd.R_drewN | apply Kd.R_drew)); exact HO358.out) hb); have n1_ := Aside0.mk (Kd.R_below (by (with_reducible repeat (first | apply Kd.R_alloc | apply Kd.R_drewN | apply Kd.R_drew)); exact HO361.out) hb); have n2_ := Aside0.mk (Kd.R_below (by (with_reducible repeat (first | apply Kd.R_alloc | apply Kd.R_drewN | apply Kd.R_drew)); exact HO364.out) hb); have n3_ := Aside0.mk (Kd.R_below (by (with_reducible repeat (first | apply Kd.R_alloc | apply Kd.R_drewN | apply Kd.R_drew)); exact HO369.out) hb); have n4_ := Aside0.mk (Kd.R_below (by (with_reducible repeat (first | apply Kd.R_alloc | apply Kd.R_drewN | apply Kd.R_drew)); exact HO372.out) hb); have n5_ := Aside0.mk (blk_below (g := gb349) (o := .cells #[.int .i64 a0_0, .int .i64 a0_1, .int .i64 a0_2, .int .i64 a0_3] 23 (0, 0)) (by (with_reducible repeat (first | refine blk_drewN ?_ _ | refine blk_drew ?_ | refine blk_alloc ?_ _)); exact BK349.out) hb); have n6_ := Aside0.mk (blk_below (g := gb350) (o := .cells #[.slice A1_0 l1_0.length c1_0, .slice A1_1 l1_1.length c1_1] 26 (0, 0)) (by (with_reducible repeat (first | refine blk_drewN ?_ _ | refine blk_drew ?_ | refine blk_alloc ?_ _)); exact BK350.out) hb); have n7_ := Aside0.mk (below_step (by repeat (first | (with_reducible first | exact HB.out | apply below_alloc | apply pw_below_drewN | apply below_drew1 | refine below_set ?_ GE349.out | refine below_set ?_ GE350.out) | exact HB.out)) hb); have n8_ := Aside0.mk (hbox); have n9_ := Aside0.mk ((by rw [hg]; exact (below_size (by repeat (first | (with_reducible first | exact HB.out | apply below_alloc | apply pw_below_drewN | apply below_drew1 | refine below_set ?_ GE349.out | refine below_set ?_ GE350.out) | exact HB.out))) : w.heap.size ≤ gb373)); have n10_ := Aside0.mk ((by rw [hg]; exact (below_size (by repeat (first | (with_reducible first | exact HB.out | apply below_alloc | apply pw_below_drewN | apply below_drew1 | refine below_set ?_ GE349.out | refine below_set ?_ GE350.out) | exact HB.out))) : w.heap.size ≤ gb373)); have n11_ := Aside0.mk ((by rw [hg]; exact Nat.ne_of_lt (blk_lt (g := gb349) (o := .cells #[.int .i64 a0_0, .int .i64 a0_1, .int .i64 a0_2, .int .i64 a0_3] 23 (0, 0)) (by (with_reducible repeat (first | refine blk_drewN ?_ _ | refine blk_drew ?_ | refine blk_alloc ?_ _)); exact BK349.out)) : gb349 ≠ gb373)); have n12_ := Aside0.mk ((by rw [hg]; exact Nat.ne_of_gt (blk_lt (g := gb349) (o := .cells #[.int .i64 a0_0, .int .i64 a0_1, .int .i64 a0_2, .int .i64 a0_3] 23 (0, 0)) (by (with_reducible repeat (first | refine blk_drewN ?_ _ | refine blk_drew ?_ | refine blk_alloc ?_ _)); exact BK349.out)) : gb373 ≠ gb349)); have n13_ := Aside0.mk ((by rw [hg]; exact Nat.ne_of_lt (blk_lt (g := gb350) (o := .cells #[.slice A1_0 l1_0.length c1_0, .slice A1_1 l1_1.length c1_1] 26 (0, 0)) (by (with_reducible repeat (first | refine blk_drewN ?_ _ | refine blk_drew ?_ | refine blk_alloc ?_ _)); exact BK350.out)) : gb350 ≠ gb373)); have n14_ := Aside0.mk ((by rw [hg]; exact Nat.ne_of_gt (blk_lt (g := gb350) (o := .cells #[.slice A1_0 l1_0.length c1_0, .slice A1_1 l1_1.length c1_1] 26 (0, 0)) (by (with_reducible repeat (first | refine blk_drewN ?_ _ | refine blk_drew ?_ | refine blk_alloc ?_ _)); exact BK350.out)) : gb373 ≠ gb350)); clear HO358; clear HO361; clear HO364; clear HO369; clear HO372; clear BK349; clear BK350; clear HB; have HO358 := n0_; have HO361 := n1_; have HO364 := n2_; have HO369 := n3_; have HO372 := n4_; have BK349 := n5_; have BK350 := n6_; have HB := n7_; have BK373 := n8_; have GW373 := n9_; have GE373 := n10_; have NB349_373 := n11_; have NB373_349 := n12_; have NB350_373 := n13_; have NB373_350 := n14_; clear n0_ n1_ n2_ n3_ n4_ n5_ n6_ n7_ n8_ n9_ n10_ n11_ n12_ n13_ n14_; clear hb hbox hg; obtain ⟨Ao32, co32, eo32⟩ := Kd.R_slice HO369.out; subst eo32; have hnb33 := NB373_349.out; have hnc33 := NB349_373.out; have hnb34 := NB373_350.out; have hnc34 := NB350_373.out; have hcz35_0 : w31.cell? ⟨gb373, 0, none⟩ = some (.slice none 0 0) := (blk_cell BK373.out 0).trans rfl; have hcz35_1 : w31.cell? ⟨gb373, 1, none⟩ = some (.slice none 0 0) := (blk_cell BK373.out 1).trans rfl; have hfz35_0 := blk_frozen BK373.out 0; have hfz35_1 := blk_frozen BK373.out 1; obtain ⟨Ao36, co36, eo36⟩ := Kd.R_slice HO372.out; subst eo36))
  have n0_ : Aside0 (Kd.R (Kd.int .i8) 49 ((w31.setCell ⟨gb373, 0, none⟩ (.slice Ao32 t367.length co32)).setCell ⟨gb373, 1, none⟩ (.slice Ao36 t370.length co36)) w.heap.size (fun k_ => some k_ ≠ (.slice Ao27 t359.length co27 : Value).ownBlock ∧ some k_ ≠ (v363 : Value).ownBlock ∧ some k_ ≠ (.slice Ao32 t367.length co32 : Value).ownBlock ∧ some k_ ≠ (.slice Ao36 t370.length co36 : Value).ownBlock) (.slice Ao26 t356.length co26) t356) := ⟨by (with_reducible repeat (first | apply Kd.R_alloc | apply Kd.R_drewN | apply Kd.R_drew)); exact Kd.R_mono (Kd.R_far (p := ⟨gb373, 1, none⟩) (Kd.R_far (p := ⟨gb373, 0, none⟩) (Kd.R_types HO358.out BK373.out (by decide)) (fun _ hk => hk.2) (.slice Ao32 t367.length co32)) (fun _ hk => hk.2) (.slice Ao36 t370.length co36)) (fun _ hk => ⟨hk.1.1.1.1, ⟨hk.1.1.1.2, ⟨hk.1.1.2, hk.1.2⟩⟩⟩)⟩
  have n1_ : Aside0 (Kd.R (Kd.int .i8) 49 ((w31.setCell ⟨gb373, 0, none⟩ (.slice Ao32 t367.length co32)).setCell ⟨gb373, 1, none⟩ (.slice Ao36 t370.length co36)) w.heap.size (fun k_ => some k_ ≠ (.slice Ao26 t356.length co26 : Value).ownBlock ∧ some k_ ≠ (v363 : Value).ownBlock ∧ some k_ ≠ (.slice Ao32 t367.length co32 : Value).ownBlock ∧ some k_ ≠ (.slice Ao36 t370.length co36 : Value).ownBlock) (.slice Ao27 t359.length co27) t359) := ⟨by (with_reducible repeat (first | apply Kd.R_alloc | apply Kd.R_drewN | apply Kd.R_drew)); exact Kd.R_mono (Kd.R_far (p := ⟨gb373, 1, none⟩) (Kd.R_far (p := ⟨gb373, 0, none⟩) (Kd.R_types HO361.out BK373.out (by decide)) (fun _ hk => hk.2) (.slice Ao32 t367.length co32)) (fun _ hk => hk.2) (.slice Ao36 t370.length co36)) (fun _ hk => ⟨hk.1.1.1.1, ⟨hk.1.1.1.2, ⟨hk.1.1.2, hk.1.2⟩⟩⟩)⟩
  have n2_ : Aside0 (Kd.R (Kd.int .i8) 49 ((w31.setCell ⟨gb373, 0, none⟩ (.slice Ao32 t367.length co32)).setCell ⟨gb373, 1, none⟩ (.slice Ao36 t370.length co36)) w.heap.size (fun k_ => some k_ ≠ (.slice Ao26 t356.length co26 : Value).ownBlock ∧ some k_ ≠ (.slice Ao27 t359.length co27 : Value).ownBlock ∧ some k_ ≠ (.slice Ao32 t367.length co32 : Value).ownBlock ∧ some k_ ≠ (.slice Ao36 t370.length co36 : Value).ownBlock) v363 t362) := ⟨by (with_reducible repeat (first | apply Kd.R_alloc | apply Kd.R_drewN | apply Kd.R_drew)); exact Kd.R_mono (Kd.R_far (p := ⟨gb373, 1, none⟩) (Kd.R_far (p := ⟨gb373, 0, none⟩) (Kd.R_types HO364.out BK373.out (by decide)) (fun _ hk => hk.2) (.slice Ao32 t367.length co32)) (fun _ hk => hk.2) (.slice Ao36 t370.length co36)) (fun _ hk => ⟨hk.1.1.1.1.2, ⟨hk.1.1.1.2, ⟨hk.1.1.2, hk.1.2⟩⟩⟩)⟩
  have n3_ : Aside0 (Kd.R (Kd.int .i8) 49 ((w31.setCell ⟨gb373, 0, none⟩ (.slice Ao32 t367.length co32)).setCell ⟨gb373, 1, none⟩ (.slice Ao36 t370.length co36)) w.heap.size (fun k_ => some k_ ≠ (.slice Ao26 t356.length co26 : Value).ownBlock ∧ some k_ ≠ (.slice Ao27 t359.length co27 : Value).ownBlock ∧ some k_ ≠ (v363 : Value).ownBlock ∧ some k_ ≠ (.slice Ao36 t370.length co36 : Value).ownBlock) (.slice Ao32 t367.length co32) t367) := ⟨by (with_reducible repeat (first | apply Kd.R_alloc | apply Kd.R_drewN | apply Kd.R_drew)); exact Kd.R_mono (Kd.R_far (p := ⟨gb373, 1, none⟩) (Kd.R_far (p := ⟨gb373, 0, none⟩) (Kd.R_types HO369.out BK373.out (by decide)) (fun _ hk => hk.2) (.slice Ao32 t367.length co32)) (fun _ hk => hk.2) (.slice Ao36 t370.length co36)) (fun _ hk => ⟨hk.1.1.1.2, ⟨hk.1.1.2, ⟨hk.1.2, hk.1.1.1.1⟩⟩⟩)⟩
  have n4_ : Aside0 (Kd.R (Kd.int .i8) 49 ((w31.setCell ⟨gb373, 0, none⟩ (.slice Ao32 t367.length co32)).setCell ⟨gb373, 1, none⟩ (.slice Ao36 t370.length co36)) w.heap.size (fun k_ => some k_ ≠ (.slice Ao26 t356.length co26 : Value).ownBlock ∧ some k_ ≠ (.slice Ao27 t359.length co27 : Value).ownBlock ∧ some k_ ≠ (v363 : Value).ownBlock ∧ some k_ ≠ (.slice Ao32 t367.length co32 : Value).ownBlock) (.slice Ao36 t370.length co36) t370) := ⟨by (with_reducible repeat (first | apply Kd.R_alloc | apply Kd.R_drewN | apply Kd.R_drew)); exact Kd.R_mono (Kd.R_far (p := ⟨gb373, 1, none⟩) (Kd.R_far (p := ⟨gb373, 0, none⟩) (Kd.R_types HO372.out BK373.out (by decide)) (fun _ hk => hk.2) (.slice Ao32 t367.length co32)) (fun _ hk => hk.2) (.slice Ao36 t370.length co36)) (fun _ hk => ⟨hk.1.1.1.2, ⟨hk.1.1.2, ⟨hk.1.2, hk.1.1.1.1⟩⟩⟩)⟩
  have n5_ : Aside0 (((w31.setCell ⟨gb373, 0, none⟩ (.slice Ao32 t367.length co32)).setCell ⟨gb373, 1, none⟩ (.slice Ao36 t370.length co36)).heap[gb349]? = some (.cells #[.int .i64 a0_0, .int .i64 a0_1, .int .i64 a0_2, .int .i64 a0_3] 23 (0, 0))) := ⟨by (with_reducible repeat (first | refine blk_drewN ?_ _ | refine blk_drew ?_ | refine blk_alloc ?_ _)); refine blk_far ?_ NB349_373.out _; (with_reducible repeat (first | refine blk_drewN ?_ _ | refine blk_drew ?_ | refine blk_alloc ?_ _)); refine blk_far ?_ NB349_373.out _; (with_reducible repeat (first | refine blk_drewN ?_ _ | refine blk_drew ?_ | refine blk_alloc ?_ _)); exact BK349.out⟩
  have n6_ : Aside0 (((w31.setCell ⟨gb373, 0, none⟩ (.slice Ao32 t367.length co32)).setCell ⟨gb373, 1, none⟩ (.slice Ao36 t370.length co36)).heap[gb350]? = some (.cells #[.slice A1_0 l1_0.length c1_0, .slice A1_1 l1_1.length c1_1] 26 (0, 0))) := ⟨by (with_reducible repeat (first | refine blk_drewN ?_ _ | refine blk_drew ?_ | refine blk_alloc ?_ _)); refine blk_far ?_ NB350_373.out _; (with_reducible repeat (first | refine blk_drewN ?_ _ | refine blk_drew ?_ | refine blk_alloc ?_ _)); refine blk_far ?_ NB350_373.out _; (with_reducible repeat (first | refine blk_drewN ?_ _ | refine blk_drew ?_ | refine blk_alloc ?_ _)); exact BK350.out⟩
  have n7_ : Aside0 (((w31.setCell ⟨gb373, 0, none⟩ (.slice Ao32 t367.length co32)).setCell ⟨gb373, 1, none⟩ (.slice Ao36 t370.length co36)).heap[gb373]? = some (.cells #[.slice Ao32 t367.length co32, .slice Ao36 t370.length co36] 33 (0, 0))) := ⟨by (with_reducible repeat (first | refine blk_drewN ?_ _ | refine blk_drew ?_ | refine blk_alloc ?_ _)); refine blk_put (cs := #[.slice Ao32 t367.length co32, .slice none 0 0]) ?_ 1 _ rfl; (with_reducible repeat (first | refine blk_drewN ?_ _ | refine blk_drew ?_ | refine blk_alloc ?_ _)); refine blk_put (cs := #[.slice none 0 0, .slice none 0 0]) ?_ 0 _ rfl; (with_reducible repeat (first | refine blk_drewN ?_ _ | refine blk_drew ?_ | refine blk_alloc ?_ _)); exact BK373.out⟩
  have n8_ : Aside0 (Below w.heap.size w ((w31.setCell ⟨gb373, 0, none⟩ (.slice Ao32 t367.length co32)).setCell ⟨gb373, 1, none⟩ (.slice Ao36 t370.length co36))) := ⟨by repeat (first | (with_reducible first | exact HB.out | apply below_alloc | apply pw_below_drewN | apply below_drew1 | refine below_set ?_ GE349.out | refine below_set ?_ GE350.out | refine below_set ?_ GE373.out) | exact HB.out)⟩
  (try clear HO358)
  (try clear HO361)
  (try clear HO364)
  (try clear HO369)
  (try clear HO372)
  (try clear BK349)
  (try clear BK350)
  (try clear BK373)
  (try clear HB)
  generalize ((w31.setCell ⟨gb373, 0, none⟩ (.slice Ao32 t367.length co32)).setCell ⟨gb373, 1, none⟩ (.slice Ao36 t370.length co36)) = w37 at n0_ n1_ n2_ n3_ n4_ n5_ n6_ n7_ n8_ ⊢
  have HO358 := n0_
  have HO361 := n1_
  have HO364 := n2_
  have HO369 := n3_
  have HO372 := n4_
  have BK349 := n5_
  have BK350 := n6_
  have BK373 := n7_
  have HB := n8_
  clear n0_ n1_ n2_ n3_ n4_ n5_ n6_ n7_ n8_
  have n0_ := Aside0.mk (Kd.R_drew HO358.out)
  have n1_ := Aside0.mk (Kd.R_drew HO361.out)
  have n2_ := Aside0.mk (Kd.R_drew HO364.out)
  have n3_ := Aside0.mk (Kd.R_drew HO369.out)
  have n4_ := Aside0.mk (Kd.R_drew HO372.out)
  have n5_ := Aside0.mk (blk_drew BK349.out)
  have n6_ := Aside0.mk (blk_drew BK350.out)
  have n7_ := Aside0.mk (blk_drew BK373.out)
  have n8_ := Aside0.mk (below_drew1 HB.out)
  clear HO358
  clear HO361
  clear HO364
  clear HO369
  clear HO372
  clear BK349
  clear BK350
  clear BK373
  clear HB
  have HO358 := n0_
  have HO361 := n1_
  have HO364 := n2_
  have HO369 := n3_
  have HO372 := n4_
  have BK349 := n5_
  have BK350 := n6_
  have BK373 := n7_
  have HB := n8_
  clear n0_ n1_ n2_ n3_ n4_ n5_ n6_ n7_ n8_
  refine start_ (n := 12) (S := fun w' => w'.cell? ⟨gb349, 0, none⟩ = some (.int .i64 a0_0) ∧ w'.cell? ⟨gb349, 1, none⟩ = some (.int .i64 a0_1) ∧ w'.cell? ⟨gb349, 2, none⟩ = some (.int .i64 a0_2) ∧ w'.cell? ⟨gb349, 3, none⟩ = some (.int .i64 a0_3) ∧ w'.cell? ⟨gb373, 0, none⟩ = some (.slice Ao32 t367.length co32) ∧ w'.cell? ⟨gb373, 1, none⟩ = some (.slice Ao36 t370.length co36)) (ds := []) #[false, false, false, false, false, false, false, false, false, false, false, false] (by kernel_rfl) rfl rfl ⟨(blk_cell BK349.out 0).trans rfl, (blk_cell BK349.out 1).trans rfl, (blk_cell BK349.out 2).trans rfl, (blk_cell BK349.out 3).trans rfl, (blk_cell BK373.out 0).trans rfl, (blk_cell BK373.out 1).trans rfl⟩ (fun hHeld => ?_); refine with_tabW laws_FnExactMoebiusDigits.tab7 laws_FnExactMoebiusDigits.bits7 (fun HT_ HW_ => ?_)
  generalize w37.drew = w38 at HO358 HO361 HO364 HO369 HO372 BK349 BK350 BK373 HB hHeld ⊢
  refine pure_ (i := 3) (N := some 42) (v := ?_) (a' := ?_) #[false, false, false, true, false, false, false, false, false, false, false, false] rfl rfl (any_of HT_.out (by kernel_rfl)) (fun _ _ _ h => h) (Or.inl ⟨by rfl, ?_⟩) ?_ ?_
  rotate_left
  ·
   intro w'
   go_simp
   with_reducible rfl
  rotate_left
  ·
   simp only [Act.put, sA_, sB_, sC_, i64_w, i32_w]
   rfl
  refine take_ (i := 0) (N := some 39) (v := ?_) (a' := ?_) #[true, false, false, true, false, false, false, false, false, false, false, false] rfl rfl (take_ofW HT_.out HW_.out (by kernel_rfl)) (fun _ _ _ h => h) (Or.inl ⟨by rfl, ?_⟩) hHeld ?_ ?_
  rotate_left
  ·
   rintro w' ⟨s0, s1, s2, s3, s4, s5⟩
   go_simp
   with_reducible rfl
  rotate_left
  ·
   simp only [Act.put, sA_, sB_, sC_, i64_w, i32_w]
   rfl
  refine take_ (i := 2) (N := some 41) (v := ?_) (a' := ?_) #[true, false, true, true, false, false, false, false, false, false, false, false] rfl rfl (take_ofW HT_.out HW_.out (by kernel_rfl)) (fun _ _ _ h => h) (Or.inl ⟨by rfl, ?_⟩) hHeld ?_ ?_
  rotate_left
  ·
   rintro w' ⟨s0, s1, s2, s3, s4, s5⟩
   go_simp
   with_reducible rfl
  rotate_left
  ·
   simp only [Act.put, sA_, sB_, sC_, i64_w, i32_w]
   rfl
  refine one_ (i := 1) (N := some 40) #[true, true, true, true, false, false, false, false, false, false, false, false] rfl rfl (one_of HT_.out (by kernel_rfl)) (by decide) (fun K hK => ?_)
  refine goes_ Try.func9 (by kernel_rfl) rfl #[.agg #[.int .i64 a0_0, .int .i64 a0_1, .int .i64 a0_2, .int .i64 a0_3]] (by rfl) rfl rfl (by (try simp only [List.map_toArray, List.map_cons, List.map_nil]); first | done | rfl | (simp only [List.length_drop, List.length_take]; rfl)) ?_
  with_reducible refine (laws_toMoebius.calls a0_0 a0_1 a0_2 a0_3 t374 t375 t376 t377 _ A15.out).mono ?_
  rintro e w39 ⟨rfl, hb⟩
  refine ⟨_, rfl, ?_⟩
  have n0_ := Aside0.mk (Kd.R_below (by (with_reducible repeat (first | apply Kd.R_alloc | apply Kd.R_drewN | apply Kd.R_drew)); exact HO358.out) hb)
  have n1_ := Aside0.mk (Kd.R_below (by (with_reducible repeat (first | apply Kd.R_alloc | apply Kd.R_drewN | apply Kd.R_drew)); exact HO361.out) hb)
  have n2_ := Aside0.mk (Kd.R_below (by (with_reducible repeat (first | apply Kd.R_alloc | apply Kd.R_drewN | apply Kd.R_drew)); exact HO364.out) hb)
  have n3_ := Aside0.mk (Kd.R_below (by (with_reducible repeat (first | apply Kd.R_alloc | apply Kd.R_drewN | apply Kd.R_drew)); exact HO369.out) hb)
  have n4_ := Aside0.mk (Kd.R_below (by (with_reducible repeat (first | apply Kd.R_alloc | apply Kd.R_drewN | apply Kd.R_drew)); exact HO372.out) hb)
  have n5_ := Aside0.mk (blk_below (g := gb349) (o := .cells #[.int .i64 a0_0, .int .i64 a0_1, .int .i64 a0_2, .int .i64 a0_3] 23 (0, 0)) (by (with_reducible repeat (first | refine blk_drewN ?_ _ | refine blk_drew ?_ | refine blk_alloc ?_ _)); exact BK349.out) hb)
  have n6_ := Aside0.mk (blk_below (g := gb350) (o := .cells #[.slice A1_0 l1_0.length c1_0, .slice A1_1 l1_1.length c1_1] 26 (0, 0)) (by (with_reducible repeat (first | refine blk_drewN ?_ _ | refine blk_drew ?_ | refine blk_alloc ?_ _)); exact BK350.out) hb)
  have n7_ := Aside0.mk (blk_below (g := gb373) (o := .cells #[.slice Ao32 t367.length co32, .slice Ao36 t370.length co36] 33 (0, 0)) (by (with_reducible repeat (first | refine blk_drewN ?_ _ | refine blk_drew ?_ | refine blk_alloc ?_ _)); exact BK373.out) hb)
  have n8_ := Aside0.mk (below_step (by repeat (first | (with_reducible first | exact HB.out | apply below_alloc | apply pw_below_drewN | apply below_drew1 | refine below_set ?_ GE349.out | refine below_set ?_ GE350.out | refine below_set ?_ GE373.out) | exact HB.out)) hb)
  clear HO358
  clear HO361
  clear HO364
  clear HO369
  clear HO372
  clear BK349
  clear BK350
  clear BK373
  clear HB
  have HO358 := n0_
  have HO361 := n1_
  have HO364 := n2_
  have HO369 := n3_
  have HO372 := n4_
  have BK349 := n5_
  have BK350 := n6_
  have BK373 := n7_
  have HB := n8_
  clear n0_ n1_ n2_ n3_ n4_ n5_ n6_ n7_ n8_
  (try clear hb)
  (try clear hb2)
  (try clear hk)
  (try clear hi)
  refine hK.out _ _ ⟨(blk_cell BK349.out 0).trans rfl, (blk_cell BK349.out 1).trans rfl, (blk_cell BK349.out 2).trans rfl, (blk_cell BK349.out 3).trans rfl, (blk_cell BK373.out 0).trans rfl, (blk_cell BK373.out 1).trans rfl⟩ (fun hHeld => ?_)
  clear hK K
  refine norm_ (a' := ?_) ?_ ?_
  rotate_left
  ·
   show Act.put _ (some 40) _ = _
   simp only [Act.put, sA_, sB_, sC_, i64_w, i32_w]
   rfl
  refine one_ (i := 4) (N := some 43) #[true, true, true, true, true, false, false, false, false, false, false, false] rfl rfl (one_of HT_.out (by kernel_rfl)) (by decide) (fun K hK => ?_)
  refine goes_ Try.func18 (by kernel_rfl) rfl #[.agg #[.int .i64 t374, .int .i64 t375, .int .i64 t376, .int .i64 t377], .agg #[.slice Ao32 t367.length co32, .slice Ao36 t370.length co36], .int .i64 a2] (by rfl) rfl rfl (by (try simp only [List.map_toArray, List.map_cons, List.map_nil]); first | done | rfl | (simp only [List.length_drop, List.length_take]; rfl)) ?_
  with_reducible refine (impl_MoebiusDigits.calls k t374 t375 t376 t377 _ _ t367 _ _ t370 a2 t378 t381 t382 _ ?side1 ?side2 ?side3 ?side4 A16.out).mono ?_
  (case side1 => repeat (first | exact (Kd.R_reads' HO369.out).2.2 | (with_reducible refine Kd.C_alloc ?_ _) | (with_reducible refine Kd.C_drewN ?_ _) | (with_reducible refine Kd.C_drew ?_)))
  (case side2 => exact (Kd.R_reads' HO369.out).2.1)
  (case side3 => repeat (first | exact (Kd.R_reads' HO372.out).2.2 | (with_reducible refine Kd.C_alloc ?_ _) | (with_reducible refine Kd.C_drewN ?_ _) | (with_reducible refine Kd.C_drew ?_)))
  (case side4 => exact (Kd.R_reads' HO372.out).2.1)
  rintro e w40 ⟨v379, rfl, ho0, hb⟩
  refine ⟨_, rfl, ?_⟩
  have n0_ := Aside0.mk (Kd.R_elder' (by (with_reducible repeat (first | apply Kd.R_alloc | apply Kd.R_drewN | apply Kd.R_drew)); exact HO358.out) (Kd.R_base ho0) hb)
  have n1_ := Aside0.mk (Kd.R_elder' (by (with_reducible repeat (first | apply Kd.R_alloc | apply Kd.R_drewN | apply Kd.R_drew)); exact HO361.out) (Kd.R_base ho0) hb)
  have n2_ := Aside0.mk (Kd.R_elder' (by (with_reducible repeat (first | apply Kd.R_alloc | apply Kd.R_drewN | apply Kd.R_drew)); exact HO364.out) (Kd.R_base ho0) hb)
  have n3_ := Aside0.mk (Kd.R_elder' (by (with_reducible repeat (first | apply Kd.R_alloc | apply Kd.R_drewN | apply Kd.R_drew)); exact HO369.out) (Kd.R_base ho0) hb)
  have n4_ := Aside0.mk (Kd.R_elder' (by (with_reducible repeat (first | apply Kd.R_alloc | apply Kd.R_drewN | apply Kd.R_drew)); exact HO372.out) (Kd.R_base ho0) hb)
  have n5_ := Aside0.mk (Kd.R_lower (Kd.R_new' (Kd.R_new' (Kd.R_new' (Kd.R_new' (Kd.R_new' ho0 (Kd.R_lt (by (with_reducible repeat (first | apply Kd.R_alloc | apply Kd.R_drewN | apply Kd.R_drew)); exact HO358.out))) (Kd.R_lt (by (with_reducible repeat (first | apply Kd.R_alloc | apply Kd.R_drewN | apply Kd.R_drew)); exact HO361.out))) (Kd.R_lt (by (with_reducible repeat (first | apply Kd.R_alloc | apply Kd.R_drewN | apply Kd.R_drew)); exact HO364.out))) (Kd.R_lt (by (with_reducible repeat (first | apply Kd.R_alloc | apply Kd.R_drewN | apply Kd.R_drew)); exact HO369.out))) (Kd.R_lt (by (with_reducible repeat (first | apply Kd.R_alloc | apply Kd.R_drewN | apply Kd.R_drew)); exact HO372.out))) (below_size (by repeat (first | (with_reducible first | exact HB.out | apply below_alloc | apply pw_below_drewN | apply below_drew1 | refine below_set ?_ GE349.out | refine below_set ?_ GE350.out | refine below_set ?_ GE373.out) | exact HB.out))))
  have n6_ := Aside0.mk (blk_below (g := gb349) (o := .cells #[.int .i64 a0_0, .int .i64 a0_1, .int .i64 a0_2, .int .i64 a0_3] 23 (0, 0)) (by (with_reducible repeat (first | refine blk_drewN ?_ _ | refine blk_drew ?_ | refine blk_alloc ?_ _)); exact BK349.out) hb)
  have n7_ := Aside0.mk (blk_below (g := gb350) (o := .cells #[.slice A1_0 l1_0.length c1_0, .slice A1_1 l1_1.length c1_1] 26 (0, 0)) (by (with_reducible repeat (first | refine blk_drewN ?_ _ | refine blk_drew ?_ | refine blk_alloc ?_ _)); exact BK350.out) hb)
  have n8_ := Aside0.mk (blk_below (g := gb373) (o := .cells #[.slice Ao32 t367.length co32, .slice Ao36 t370.length co36] 33 (0, 0)) (by (with_reducible repeat (first | refine blk_drewN ?_ _ | refine blk_drew ?_ | refine blk_alloc ?_ _)); exact BK373.out) hb)
  have n9_ := Aside0.mk (below_step (by repeat (first | (with_reducible first | exact HB.out | apply below_alloc | apply pw_below_drewN | apply below_drew1 | refine below_set ?_ GE349.out | refine below_set ?_ GE350.out | refine below_set ?_ GE373.out) | exact HB.out)) hb)
  clear HO358
  clear HO361
  clear HO364
  clear HO369
  clear HO372
  clear BK349
  clear BK350
  clear BK373
  clear HB
  have HO358 := n0_
  have HO361 := n1_
  have HO364 := n2_
  have HO369 := n3_
  have HO372 := n4_
  have HO380 := n5_
  have BK349 := n6_
  have BK350 := n7_
  have BK373 := n8_
  have HB := n9_
  clear n0_ n1_ n2_ n3_ n4_ n5_ n6_ n7_ n8_ n9_
  (try clear hb)
  (try clear hb2)
  (try clear hk)
  (try clear hi)
  (try clear ho0)
  refine hK.out _ _ ⟨(blk_cell BK349.out 0).trans rfl, (blk_cell BK349.out 1).trans rfl, (blk_cell BK349.out 2).trans rfl, (blk_cell BK349.out 3).trans rfl, (blk_cell BK373.out 0).trans rfl, (blk_cell BK373.out 1).trans rfl⟩ (fun hHeld => ?_)
  clear hK K
  refine norm_ (a' := ?_) ?_ ?_
  rotate_left
  ·
   show Act.put _ (some 43) _ = _
   simp only [Act.put, sA_, sB_, sC_, i64_w, i32_w]
   rfl
  refine pure_ (i := 5) (N := some 38) (v := ?_) (a' := ?_) #[true, true, true, true, true, true, false, false, false, false, false, false] rfl rfl (any_of HT_.out (by kernel_rfl)) (fun _ _ _ h => h) (Or.inl ⟨by rfl, ?_⟩) ?_ ?_
  rotate_left
  ·
   intro w'
   go_simp
   with_reducible rfl
  rotate_left
  ·
   simp only [Act.put, sA_, sB_, sC_, i64_w, i32_w]
   rfl
  refine pure_ (i := 6) (N := some 44) (v := ?_) (a' := ?_) #[true, true, true, true, true, true, true, false, false, false, false, false] rfl rfl (any_of HT_.out (by kernel_rfl)) (fun _ _ _ h => h) (Or.inl ⟨by rfl, ?_⟩) ?_ ?_
  rotate_left
  ·
   intro w'
   go_simp
   with_reducible rfl
  rotate_left
  ·
   simp only [Act.put, sA_, sB_, sC_, i64_w, i32_w]
   rfl
  refine pure_ (i := 7) (N := some 45) (v := ?_) (a' := ?_) #[true, true, true, true, true, true, true, true, false, false, false, false] rfl rfl (any_of HT_.out (by kernel_rfl)) (fun _ _ _ h => h) (Or.inl ⟨by rfl, ?_⟩) ?_ ?_
  rotate_left
  ·
   intro w'
   go_simp
   with_reducible rfl
  rotate_left
  ·
   simp only [Act.put, sA_, sB_, sC_, i64_w, i32_w]
   rfl
  refine pure_ (i := 8) (N := some 46) (v := ?_) (a' := ?_) #[true, true, true, true, true, true, true, true, true, false, false, false] rfl rfl (any_of HT_.out (by kernel_rfl)) (fun _ _ _ h => h) (Or.inl ⟨by rfl, ?_⟩) ?_ ?_
  rotate_left
  ·
   intro w'
   go_simp
   with_reducible rfl
  rotate_left
  ·
   simp only [Act.put, sA_, sB_, sC_, i64_w, i32_w]
   rfl
  refine pure_ (i := 9) (N := some 12) (v := ?_) (a' := ?_) #[true, true, true, true, true, true, true, true, true, true, false, false] rfl rfl (any_of HT_.out (by kernel_rfl)) (fun _ _ _ h => h) (Or.inl ⟨by rfl, ?_⟩) ?_ ?_
  rotate_left
  ·
   intro w'
   go_simp
   with_reducible rfl
  rotate_left
  ·
   simp only [Act.put, sA_, sB_, sC_, i64_w, i32_w]
   rfl
  refine pure_ (i := 10) (N := some 13) (v := ?_) (a' := ?_) #[true, true, true, true, true, true, true, true, true, true, true, false] rfl rfl (any_of HT_.out (by kernel_rfl)) (fun _ _ _ h => h) (Or.inl ⟨by rfl, ?_⟩) ?_ ?_
  rotate_left
  ·
   intro w'
   go_simp
   with_reducible rfl
  rotate_left
  ·
   simp only [Act.put, sA_, sB_, sC_, i64_w, i32_w]
   rfl
  refine pure_ (i := 11) (N := some 14) (v := ?_) (a' := ?_) #[true, true, true, true, true, true, true, true, true, true, true, true] rfl rfl (any_of HT_.out (by kernel_rfl)) (fun _ _ _ h => h) (Or.inl ⟨by rfl, ?_⟩) ?_ ?_
  rotate_left
  ·
   intro w'
   go_simp
   with_reducible rfl
  rotate_left
  ·
   simp only [Act.put, sA_, sB_, sC_, i64_w, i32_w]
   rfl
  refine done_ (done_of HT_.out (by kernel_rfl)) ?_
  go_upto_region 8 with (fail)
  go_cut [60] (fun v60 wc => ∃ (kq : Nat) (x60_16 : Bool), v60 = .bool x60_16 ∧ Aside0 (laws_FnExactMoebiusDigits.j0 kq a2 t362 t365 t366 t378 t381 t382 x60_16 a0_0 a0_1 a0_2 a0_3 l1_0 l1_1 t367 t370 = some true) ∧ Aside0 (kq ≤ k) ∧ Aside0 (Kd.R (Kd.int .i8) 49 wc w.heap.size (fun k_ => some k_ ≠ (v379 : Value).ownBlock ∧ some k_ ≠ ((.slice Ao32 t367.length co32) : Value).ownBlock ∧ some k_ ≠ ((.slice Ao36 t370.length co36) : Value).ownBlock) v363 t362) ∧ Aside0 (Kd.R (Kd.int .i8) 49 wc w.heap.size (fun k_ => some k_ ≠ (v363 : Value).ownBlock ∧ some k_ ≠ ((.slice Ao32 t367.length co32) : Value).ownBlock ∧ some k_ ≠ ((.slice Ao36 t370.length co36) : Value).ownBlock) v379 t378) ∧ Aside0 (Kd.R (Kd.int .i8) 49 wc w.heap.size (fun k_ => some k_ ≠ (v363 : Value).ownBlock ∧ some k_ ≠ (v379 : Value).ownBlock ∧ some k_ ≠ ((.slice Ao36 t370.length co36) : Value).ownBlock) (.slice Ao32 t367.length co32) t367) ∧ Aside0 (Kd.R (Kd.int .i8) 49 wc w.heap.size (fun k_ => some k_ ≠ (v363 : Value).ownBlock ∧ some k_ ≠ (v379 : Value).ownBlock ∧ some k_ ≠ ((.slice Ao32 t367.length co32) : Value).ownBlock) (.slice Ao36 t370.length co36) t370) ∧ Aside0 (wc.heap[gb349]? = some (.cells #[.int .i64 a0_0, .int .i64 a0_1, .int .i64 a0_2, .int .i64 a0_3] 23 (0, 0))) ∧ Aside0 (wc.heap[gb350]? = some (.cells #[(.slice A1_0 l1_0.length c1_0), (.slice A1_1 l1_1.length c1_1)] 26 (0, 0))) ∧ Aside0 (wc.heap[gb373]? = some (.cells #[(.slice Ao32 t367.length co32), (.slice Ao36 t370.length co36)] 33 (0, 0))) ∧ Aside0 (Below w.heap.size w wc))
  case first =>
   have H := HC17.out
   clear HC17
   replace H := Option.bind_eq_some_iff.mp H
   obtain ⟨t383, A410, H⟩ := H
   replace H : (if t383 = true then (if t381 = t365 then (laws_FnExactMoebiusDigits.j0 k a2 t362 t365 t366 t378 t381 t382 (t382 != t366) a0_0 a0_1 a0_2 a0_3 l1_0 l1_1 t367 t370) else (laws_FnExactMoebiusDigits.j0 k a2 t362 t365 t366 t378 t381 t382 true a0_0 a0_1 a0_2 a0_3 l1_0 l1_1 t367 t370)) else (laws_FnExactMoebiusDigits.j0 k a2 t362 t365 t366 t378 t381 t382 true a0_0 a0_1 a0_2 a0_3 l1_0 l1_1 t367 t370)) = some true := H
   have A41 := Aside0.mk A410
   clear A410
   by_cases c42 : t383 = true
   ·
    subst c42
    have H1 : (if t381 = t365 then (laws_FnExactMoebiusDigits.j0 k a2 t362 t365 t366 t378 t381 t382 (t382 != t366) a0_0 a0_1 a0_2 a0_3 l1_0 l1_1 t367 t370) else (laws_FnExactMoebiusDigits.j0 k a2 t362 t365 t366 t378 t381 t382 true a0_0 a0_1 a0_2 a0_3 l1_0 l1_1 t367 t370)) = some true := by first | (rw [if_pos rfl] at H; exact H) | rfl
    clear H
    have H := H1
    clear H1
    by_cases c43 : t381 = t365
    ·
     rw [if_pos c43] at H
     have c43b0 : (t381 == t365) = true := beq_iff_eq.mpr c43
     have c43b1 : (t381 != t365) = false := bne_eq_false_iff_eq.mpr c43
     clear c43
     (first | rw [c43b0] | (simp only [i64_w, i32_w]; rw [c43b0]) | skip)
     have H' := Aside0.mk H
     clear H
     obtain ⟨Ao44, co44, eo44⟩ := Kd.R_slice HO380.out
     subst eo44
     obtain ⟨Ao45, co45, eo45⟩ := Kd.R_slice HO364.out
     subst eo45
     go_wp2_with (first | ((with_reducible refine gate_callee (f := 19) rfl ?_); refine goesL_ (some 49) rfl rfl Try.func19 (by kernel_rfl) rfl #[.slice Ao44 t378.length co44, .slice Ao45 t362.length co45] rfl (by (try simp only [List.map_toArray, List.map_cons, List.map_nil]); first | done | rfl | (simp only [List.length_drop, List.length_take]; rfl)) ?_; (with_reducible refine (laws_eqInt8S.calls k _ _ t378 _ _ t362 true _ ?side1 ?side2 ?side3 ?side4 A41.out).mono ?_); (case side1 => repeat (first | exact (Kd.R_reads' HO380.out).2.2 | (with_reducible refine Kd.C_alloc ?_ _) | (with_reducible refine Kd.C_drewN ?_ _) | (with_reducible refine Kd.C_drew ?_))); (case side2 => exact (Kd.R_reads' HO380.out).2.1); (case side3 => repeat (first | exact (Kd.R_reads' HO364.out).2.2 | (with_reducible refine Kd.C_alloc ?_ _) | (with_reducible refine Kd.C_drewN ?_ _) | (with_reducible refine Kd.C_drew ?_))); (case side4 => exact (Kd.R_reads' HO364.out).2.1); rintro e w' ⟨rfl, ⟨nd, rfl⟩⟩; refine ⟨_, rfl, ?_⟩))
     go_meet
     case rel => exact ⟨_, ((t382 != t366)), (by first | rfl | (simp; done) | (simp [*]; done) | (simp [isE_]; done)), H', ⟨by first | omega | exact Nat.le_refl _⟩, ⟨by (with_reducible repeat (first | apply Kd.R_alloc | apply Kd.R_drewN | apply Kd.R_drew)); exact Kd.R_mono HO364.out (fun _ hk => ⟨hk.2, ⟨hk.1.2.2.1, hk.1.2.2.2⟩⟩)⟩, ⟨by (with_reducible repeat (first | apply Kd.R_alloc | apply Kd.R_drewN | apply Kd.R_drew)); exact Kd.R_mono HO380.out (fun _ hk => ⟨hk.1.1.2, ⟨hk.1.2, hk.2⟩⟩)⟩, ⟨by (with_reducible repeat (first | apply Kd.R_alloc | apply Kd.R_drewN | apply Kd.R_drew)); exact Kd.R_mono HO369.out (fun _ hk => ⟨hk.1.2.2.1, ⟨hk.2, hk.1.2.2.2⟩⟩)⟩, ⟨by (with_reducible repeat (first | apply Kd.R_alloc | apply Kd.R_drewN | apply Kd.R_drew)); exact Kd.R_mono HO372.out (fun _ hk => ⟨hk.1.2.2.1, ⟨hk.2, hk.1.2.2.2⟩⟩)⟩, ⟨by (with_reducible repeat (first | refine blk_drewN ?_ _ | refine blk_drew ?_ | refine blk_alloc ?_ _)); exact BK349.out⟩, ⟨by (with_reducible repeat (first | refine blk_drewN ?_ _ | refine blk_drew ?_ | refine blk_alloc ?_ _)); exact BK350.out⟩, ⟨by (with_reducible repeat (first | refine blk_drewN ?_ _ | refine blk_drew ?_ | refine blk_alloc ?_ _)); exact BK373.out⟩, ⟨by repeat (first | (with_reducible first | exact HB.out | apply below_alloc | apply pw_below_drewN | apply below_drew1 | refine below_set ?_ GE349.out | refine below_set ?_ GE350.out | refine below_set ?_ GE373.out) | exact HB.out)⟩⟩
    ·
     rw [if_neg c43] at H
     have c43b0 : (t381 == t365) = false := beq_eq_false_iff_ne.mpr c43
     have c43b1 : (t381 != t365) = true := bne_iff_ne.mpr c43
     (first | rw [c43b0] | (simp only [i64_w, i32_w]; rw [c43b0]) | skip)
     have H' := Aside0.mk H
     clear H
     obtain ⟨Ao46, co46, eo46⟩ := Kd.R_slice HO380.out
     subst eo46
     obtain ⟨Ao47, co47, eo47⟩ := Kd.R_slice HO364.out
     subst eo47
     go_wp2_with (first | ((with_reducible refine gate_callee (f := 19) rfl ?_); refine goesL_ (some 49) rfl rfl Try.func19 (by kernel_rfl) rfl #[.slice Ao46 t378.length co46, .slice Ao47 t362.length co47] rfl (by (try simp only [List.map_toArray, List.map_cons, List.map_nil]); first | done | rfl | (simp only [List.length_drop, List.length_take]; rfl)) ?_; (with_reducible refine (laws_eqInt8S.calls k _ _ t378 _ _ t362 true _ ?side1 ?side2 ?side3 ?side4 A41.out).mono ?_); (case side1 => repeat (first | exact (Kd.R_reads' HO380.out).2.2 | (with_reducible refine Kd.C_alloc ?_ _) | (with_reducible refine Kd.C_drewN ?_ _) | (with_reducible refine Kd.C_drew ?_))); (case side2 => exact (Kd.R_reads' HO380.out).2.1); (case side3 => repeat (first | exact (Kd.R_reads' HO364.out).2.2 | (with_reducible refine Kd.C_alloc ?_ _) | (with_reducible refine Kd.C_drewN ?_ _) | (with_reducible refine Kd.C_drew ?_))); (case side4 => exact (Kd.R_reads' HO364.out).2.1); rintro e w' ⟨rfl, ⟨nd, rfl⟩⟩; refine ⟨_, rfl, ?_⟩))
     go_meet
     case rel => exact ⟨_, (true), (by first | rfl | (simp; done) | (simp [*]; done) | (simp [isE_]; done)), H', ⟨by first | omega | exact Nat.le_refl _⟩, ⟨by (with_reducible repeat (first | apply Kd.R_alloc | apply Kd.R_drewN | apply Kd.R_drew)); exact Kd.R_mono HO364.out (fun _ hk => ⟨hk.2, ⟨hk.1.2.2.1, hk.1.2.2.2⟩⟩)⟩, ⟨by (with_reducible repeat (first | apply Kd.R_alloc | apply Kd.R_drewN | apply Kd.R_drew)); exact Kd.R_mono HO380.out (fun _ hk => ⟨hk.1.1.2, ⟨hk.1.2, hk.2⟩⟩)⟩, ⟨by (with_reducible repeat (first | apply Kd.R_alloc | apply Kd.R_drewN | apply Kd.R_drew)); exact Kd.R_mono HO369.out (fun _ hk => ⟨hk.1.2.2.1, ⟨hk.2, hk.1.2.2.2⟩⟩)⟩, ⟨by (with_reducible repeat (first | apply Kd.R_alloc | apply Kd.R_drewN | apply Kd.R_drew)); exact Kd.R_mono HO372.out (fun _ hk => ⟨hk.1.2.2.1, ⟨hk.2, hk.1.2.2.2⟩⟩)⟩, ⟨by (with_reducible repeat (first | refine blk_drewN ?_ _ | refine blk_drew ?_ | refine blk_alloc ?_ _)); exact BK349.out⟩, ⟨by (with_reducible repeat (first | refine blk_drewN ?_ _ | refine blk_drew ?_ | refine blk_alloc ?_ _)); exact BK350.out⟩, ⟨by (with_reducible repeat (first | refine blk_drewN ?_ _ | refine blk_drew ?_ | refine blk_alloc ?_ _)); exact BK373.out⟩, ⟨by repeat (first | (with_reducible first | exact HB.out | apply below_alloc | apply pw_below_drewN | apply below_drew1 | refine below_set ?_ GE349.out | refine below_set ?_ GE350.out | refine below_set ?_ GE373.out) | exact HB.out)⟩⟩
   ·
    replace c42 := Bool.eq_false_iff.mpr c42
    subst c42
    have H1 : (laws_FnExactMoebiusDigits.j0 k a2 t362 t365 t366 t378 t381 t382 true a0_0 a0_1 a0_2 a0_3 l1_0 l1_1 t367 t370) = some true := by first | (rw [if_neg (show ¬ (false = true) by decide)] at H; exact H) | rfl
    clear H
    have H := H1
    clear H1
    have H' := Aside0.mk H
    clear H
    obtain ⟨Ao48, co48, eo48⟩ := Kd.R_slice HO380.out
    subst eo48
    obtain ⟨Ao49, co49, eo49⟩ := Kd.R_slice HO364.out
    subst eo49
    go_wp2_with (first | ((with_reducible refine gate_callee (f := 19) rfl ?_); refine goesL_ (some 49) rfl rfl Try.func19 (by kernel_rfl) rfl #[.slice Ao48 t378.length co48, .slice Ao49 t362.length co49] rfl (by (try simp only [List.map_toArray, List.map_cons, List.map_nil]); first | done | rfl | (simp only [List.length_drop, List.length_take]; rfl)) ?_; (with_reducible refine (laws_eqInt8S.calls k _ _ t378 _ _ t362 false _ ?side1 ?side2 ?side3 ?side4 A41.out).mono ?_); (case side1 => repeat (first | exact (Kd.R_reads' HO380.out).2.2 | (with_reducible refine Kd.C_alloc ?_ _) | (with_reducible refine Kd.C_drewN ?_ _) | (with_reducible refine Kd.C_drew ?_))); (case side2 => exact (Kd.R_reads' HO380.out).2.1); (case side3 => repeat (first | exact (Kd.R_reads' HO364.out).2.2 | (with_reducible refine Kd.C_alloc ?_ _) | (with_reducible refine Kd.C_drewN ?_ _) | (with_reducible refine Kd.C_drew ?_))); (case side4 => exact (Kd.R_reads' HO364.out).2.1); rintro e w' ⟨rfl, ⟨nd, rfl⟩⟩; refine ⟨_, rfl, ?_⟩))
    go_meet
    case rel => exact ⟨_, (true), (by first | rfl | (simp; done) | (simp [*]; done) | (simp [isE_]; done)), H', ⟨by first | omega | exact Nat.le_refl _⟩, ⟨by (with_reducible repeat (first | apply Kd.R_alloc | apply Kd.R_drewN | apply Kd.R_drew)); exact Kd.R_mono HO364.out (fun _ hk => ⟨hk.2, ⟨hk.1.2.2.1, hk.1.2.2.2⟩⟩)⟩, ⟨by (with_reducible repeat (first | apply Kd.R_alloc | apply Kd.R_drewN | apply Kd.R_drew)); exact Kd.R_mono HO380.out (fun _ hk => ⟨hk.1.1.2, ⟨hk.1.2, hk.2⟩⟩)⟩, ⟨by (with_reducible repeat (first | apply Kd.R_alloc | apply Kd.R_drewN | apply Kd.R_drew)); exact Kd.R_mono HO369.out (fun _ hk => ⟨hk.1.2.2.1, ⟨hk.2, hk.1.2.2.2⟩⟩)⟩, ⟨by (with_reducible repeat (first | apply Kd.R_alloc | apply Kd.R_drewN | apply Kd.R_drew)); exact Kd.R_mono HO372.out (fun _ hk => ⟨hk.1.2.2.1, ⟨hk.2, hk.1.2.2.2⟩⟩)⟩, ⟨by (with_reducible repeat (first | refine blk_drewN ?_ _ | refine blk_drew ?_ | refine blk_alloc ?_ _)); exact BK349.out⟩, ⟨by (with_reducible repeat (first | refine blk_drewN ?_ _ | refine blk_drew ?_ | refine blk_alloc ?_ _)); exact BK350.out⟩, ⟨by (with_reducible repeat (first | refine blk_drewN ?_ _ | refine blk_drew ?_ | refine blk_alloc ?_ _)); exact BK373.out⟩, ⟨by repeat (first | (with_reducible first | exact HB.out | apply below_alloc | apply pw_below_drewN | apply below_drew1 | refine below_set ?_ GE349.out | refine below_set ?_ GE350.out | refine below_set ?_ GE373.out) | exact HB.out)⟩⟩
  case rest =>
   clear HC17
   try clear c1
   try clear c2
   try clear p2
   try clear c3
   try clear c4
   try clear c5
   try clear c5b0
   try clear c7
   try clear c8
   try clear c9
   try clear c10
   try clear c17
   try clear c18
   try clear c19
   try clear c20
   try clear c33
   try clear c34
   try clear c42
   try clear c43
   try clear c43b0
   try clear c43b1
   try clear hcz21_0
   try clear hcz21_1
   try clear hcz29_0
   try clear hcz29_1
   try clear hcz35_0
   try clear hcz35_1
   try clear hcz9_0
   try clear hcz9_1
   try clear hfz21_0
   try clear hfz21_1
   try clear hfz29_0
   try clear hfz29_1
   try clear hfz35_0
   try clear hfz35_1
   try clear hfz9_0
   try clear hfz9_1
   obtain ⟨kq, x60_16, rfl, HA, HJ16, HO_8, HO_12, HO_374000, HO_374001, BK349, BK350, BK373, HB⟩ := hcut
   cases kq with
   | zero => exact absurd HA.out (by simp [laws_FnExactMoebiusDigits.j0])
   | succ kj16 =>
    have H := HA.out
    clear HA
    simp only [laws_FnExactMoebiusDigits.j0] at H
    by_cases c50 : x60_16 = true
    ·
     subst c50
     have H1 : (some false) = some true := by first | (rw [if_pos rfl] at H; exact H) | rfl
     clear H
     have H := H1
     clear H1
     exact absurd H (by decide)
    ·
     replace c50 := Bool.eq_false_iff.mpr c50
     subst c50
     have H1 : ((laws_toStream.f kj16 l1_0 l1_1).bind fun bt384 => ((laws_eqStream.f kj16 t367 t370 bt384.1 bt384.2).bind fun t390 => (if t390 = true then ((laws_markStream.f kj16 t367 t370 1).bind fun bt391 => (if bt391.1 < 0 then (laws_FnExactMoebiusDigits.j1 kj16 a2 t362 t365 t366 t378 true a0_0 a0_1 a0_2 a0_3 l1_0 l1_1) else ((laws_eqInt8S.f kj16 t378 t362).bind fun t394 => (if t394 = true then (if t381 = t365 then (laws_FnExactMoebiusDigits.j1 kj16 a2 t362 t365 t366 t378 (t382 != t366) a0_0 a0_1 a0_2 a0_3 l1_0 l1_1) else (laws_FnExactMoebiusDigits.j1 kj16 a2 t362 t365 t366 t378 true a0_0 a0_1 a0_2 a0_3 l1_0 l1_1)) else (laws_FnExactMoebiusDigits.j1 kj16 a2 t362 t365 t366 t378 true a0_0 a0_1 a0_2 a0_3 l1_0 l1_1))))) else (some false)))) = some true := by first | (rw [if_neg (show ¬ (false = true) by decide)] at H; exact H) | rfl
     clear H
     have H := H1
     clear H1
     replace H := Option.bind_eq_some_iff.mp H
     obtain ⟨⟨t384, t387⟩, A510, H⟩ := H
     replace H : ((laws_eqStream.f kj16 t367 t370 t384 t387).bind fun t390 => (if t390 = true then ((laws_markStream.f kj16 t367 t370 1).bind fun bt391 => (if bt391.1 < 0 then (laws_FnExactMoebiusDigits.j1 kj16 a2 t362 t365 t366 t378 true a0_0 a0_1 a0_2 a0_3 l1_0 l1_1) else ((laws_eqInt8S.f kj16 t378 t362).bind fun t394 => (if t394 = true then (if t381 = t365 then (laws_FnExactMoebiusDigits.j1 kj16 a2 t362 t365 t366 t378 (t382 != t366) a0_0 a0_1 a0_2 a0_3 l1_0 l1_1) else (laws_FnExactMoebiusDigits.j1 kj16 a2 t362 t365 t366 t378 true a0_0 a0_1 a0_2 a0_3 l1_0 l1_1)) else (laws_FnExactMoebiusDigits.j1 kj16 a2 t362 t365 t366 t378 true a0_0 a0_1 a0_2 a0_3 l1_0 l1_1))))) else (some false))) = some true := H
     have A51 := Aside0.mk A510
     clear A510
     replace H := Option.bind_eq_some_iff.mp H
     obtain ⟨t390, A520, H⟩ := H
     replace H : (if t390 = true then ((laws_markStream.f kj16 t367 t370 1).bind fun bt391 => (if bt391.1 < 0 then (laws_FnExactMoebiusDigits.j1 kj16 a2 t362 t365 t366 t378 true a0_0 a0_1 a0_2 a0_3 l1_0 l1_1) else ((laws_eqInt8S.f kj16 t378 t362).bind fun t394 => (if t394 = true then (if t381 = t365 then (laws_FnExactMoebiusDigits.j1 kj16 a2 t362 t365 t366 t378 (t382 != t366) a0_0 a0_1 a0_2 a0_3 l1_0 l1_1) else (laws_FnExactMoebiusDigits.j1 kj16 a2 t362 t365 t366 t378 true a0_0 a0_1 a0_2 a0_3 l1_0 l1_1)) else (laws_FnExactMoebiusDigits.j1 kj16 a2 t362 t365 t366 t378 true a0_0 a0_1 a0_2 a0_3 l1_0 l1_1))))) else (some false)) = some true := H
     have A52 := Aside0.mk A520
     clear A520
     by_cases c53 : t390 = true
     ·
      subst c53
      have H1 : ((laws_markStream.f kj16 t367 t370 1).bind fun bt391 => (if bt391.1 < 0 then (laws_FnExactMoebiusDigits.j1 kj16 a2 t362 t365 t366 t378 true a0_0 a0_1 a0_2 a0_3 l1_0 l1_1) else ((laws_eqInt8S.f kj16 t378 t362).bind fun t394 => (if t394 = true then (if t381 = t365 then (laws_FnExactMoebiusDigits.j1 kj16 a2 t362 t365 t366 t378 (t382 != t366) a0_0 a0_1 a0_2 a0_3 l1_0 l1_1) else (laws_FnExactMoebiusDigits.j1 kj16 a2 t362 t365 t366 t378 true a0_0 a0_1 a0_2 a0_3 l1_0 l1_1)) else (laws_FnExactMoebiusDigits.j1 kj16 a2 t362 t365 t366 t378 true a0_0 a0_1 a0_2 a0_3 l1_0 l1_1))))) = some true := by first | (rw [if_pos rfl] at H; exact H) | rfl
      clear H
      have H := H1
      clear H1
      replace H := Option.bind_eq_some_iff.mp H
      obtain ⟨⟨t391, t392, t393⟩, A540, H⟩ := H
      replace H : (if t391 < 0 then (laws_FnExactMoebiusDigits.j1 kj16 a2 t362 t365 t366 t378 true a0_0 a0_1 a0_2 a0_3 l1_0 l1_1) else ((laws_eqInt8S.f kj16 t378 t362).bind fun t394 => (if t394 = true then (if t381 = t365 then (laws_FnExactMoebiusDigits.j1 kj16 a2 t362 t365 t366 t378 (t382 != t366) a0_0 a0_1 a0_2 a0_3 l1_0 l1_1) else (laws_FnExactMoebiusDigits.j1 kj16 a2 t362 t365 t366 t378 true a0_0 a0_1 a0_2 a0_3 l1_0 l1_1)) else (laws_FnExactMoebiusDigits.j1 kj16 a2 t362 t365 t366 t378 true a0_0 a0_1 a0_2 a0_3 l1_0 l1_1)))) = some true := H
      have A54 := Aside0.mk A540
      clear A540
      have HC55 := Aside0.mk H
      clear H
      try go_wp2
      have n0_ := Aside0.mk (Kd.R_drew HO_8.out)
      have n1_ := Aside0.mk (Kd.R_drew HO_12.out)
      have n2_ := Aside0.mk (Kd.R_drew HO_374000.out)
      have n3_ := Aside0.mk (Kd.R_drew HO_374001.out)
      have n4_ := Aside0.mk (blk_drew BK349.out)
      have n5_ := Aside0.mk (blk_drew BK350.out)
      have n6_ := Aside0.mk (blk_drew BK373.out)
      have n7_ := Aside0.mk (below_drew1 HB.out)
      clear HO_8
      clear HO_12
      clear HO_374000
      clear HO_374001
      clear BK349
      clear BK350
      clear BK373
      clear HB
      have HO_8 := n0_
      have HO_12 := n1_
      have HO_374000 := n2_
      have HO_374001 := n3_
      have BK349 := n4_
      have BK350 := n5_
      have BK373 := n6_
      have HB := n7_
      clear n0_ n1_ n2_ n3_ n4_ n5_ n6_ n7_
      refine start_ (n := 5) (S := fun w' => w'.cell? ⟨gb373, 0, none⟩ = some (.slice Ao32 t367.length co32) ∧ w'.cell? ⟨gb373, 1, none⟩ = some (.slice Ao36 t370.length co36) ∧ w'.cell? ⟨gb350, 0, none⟩ = some (.slice A1_0 l1_0.length c1_0) ∧ w'.cell? ⟨gb350, 1, none⟩ = some (.slice A1_1 l1_1.length c1_1)) (ds := []) #[false, false, false, false, false] (by kernel_rfl) rfl rfl ⟨(blk_cell BK373.out 0).trans rfl, (blk_cell BK373.out 1).trans rfl, (blk_cell BK350.out 0).trans rfl, (blk_cell BK350.out 1).trans rfl⟩ (fun hHeld => ?_)
      generalize wc.drew = w56 at HO_8 HO_12 HO_374000 HO_374001 BK349 BK350 BK373 HB hHeld ⊢
      refine take_ (i := 0) (N := some 61) (v := ?_) (a' := ?_) #[true, false, false, false, false] rfl rfl (by kernel_rfl) (fun _ _ _ h => h) (Or.inl ⟨by rfl, ?_⟩) hHeld ?_ ?_
      rotate_left
      ·
       rintro w' ⟨s0, s1, s2, s3⟩
       go_simp
       with_reducible rfl
      rotate_left
      ·
       simp only [Act.put, sA_, sB_, sC_, i64_w, i32_w]
       rfl
      refine take_ (i := 1) (N := some 62) (v := ?_) (a' := ?_) #[true, true, false, false, false] rfl rfl (by kernel_rfl) (fun _ _ _ h => h) (Or.inl ⟨by rfl, ?_⟩) hHeld ?_ ?_
      rotate_left
      ·
       rintro w' ⟨s0, s1, s2, s3⟩
       go_simp
       with_reducible rfl
      rotate_left
      ·
       simp only [Act.put, sA_, sB_, sC_, i64_w, i32_w]
       rfl
      refine one_ (i := 2) (N := some 63) #[true, true, true, false, false] rfl rfl (by kernel_rfl) (by decide) (fun K hK => ?_)
      refine goes_ Try.func10 (by kernel_rfl) rfl #[.agg #[.slice A1_0 l1_0.length c1_0, .slice A1_1 l1_1.length c1_1]] (by rfl) rfl rfl (by (try simp only [List.map_toArray, List.map_cons, List.map_nil]); first | done | rfl | (simp only [List.length_drop, List.length_take]; rfl)) ?_
      with_reducible refine (laws_toStream.calls kj16 _ _ l1_0 _ _ l1_1 t384 t387 _ ?side1 ?side2 ?side3 ?side4 A51.out).mono ?_
      (case side1 => repeat (first | exact (Kd.C_below HR1_0.out HB.out) | (with_reducible refine Kd.C_alloc ?_ _) | (with_reducible refine Kd.C_drewN ?_ _) | (with_reducible refine Kd.C_drew ?_)))
      (case side2 => exact HC1_0.out)
      (case side3 => repeat (first | exact (Kd.C_below HR1_1.out HB.out) | (with_reducible refine Kd.C_alloc ?_ _) | (with_reducible refine Kd.C_drewN ?_ _) | (with_reducible refine Kd.C_drew ?_)))
      (case side4 => exact HC1_1.out)
      rintro e w57 ⟨v385, v388, rfl, ho0, ho1, hb⟩
      refine ⟨_, rfl, ?_⟩
      have n0_ := Aside0.mk (Kd.R_mono (Kd.R_told (Kd.R_told (Kd.R_old (by (with_reducible repeat (first | apply Kd.R_alloc | apply Kd.R_drewN | apply Kd.R_drew)); exact HO_8.out) hb) (Kd.R_base ho0)) (Kd.R_base ho1)) (fun _ h_ => h_.1))
      have n1_ := Aside0.mk (Kd.R_mono (Kd.R_told (Kd.R_told (Kd.R_old (by (with_reducible repeat (first | apply Kd.R_alloc | apply Kd.R_drewN | apply Kd.R_drew)); exact HO_12.out) hb) (Kd.R_base ho0)) (Kd.R_base ho1)) (fun _ h_ => h_.1))
      have n2_ := Aside0.mk (Kd.R_mono (Kd.R_told (Kd.R_told (Kd.R_old (by (with_reducible repeat (first | apply Kd.R_alloc | apply Kd.R_drewN | apply Kd.R_drew)); exact HO_374000.out) hb) (Kd.R_base ho0)) (Kd.R_base ho1)) (fun _ h_ => h_.1))
      have n3_ := Aside0.mk (Kd.R_mono (Kd.R_told (Kd.R_told (Kd.R_old (by (with_reducible repeat (first | apply Kd.R_alloc | apply Kd.R_drewN | apply Kd.R_drew)); exact HO_374001.out) hb) (Kd.R_base ho0)) (Kd.R_base ho1)) (fun _ h_ => h_.1))
      have n4_ := Aside0.mk (Kd.R_lower (Kd.R_new' (Kd.R_new' (Kd.R_new' (Kd.R_new' ho0 (Kd.R_lt (by (with_reducible repeat (first | apply Kd.R_alloc | apply Kd.R_drewN | apply Kd.R_drew)); exact HO_8.out))) (Kd.R_lt (by (with_reducible repeat (first | apply Kd.R_alloc | apply Kd.R_drewN | apply Kd.R_drew)); exact HO_12.out))) (Kd.R_lt (by (with_reducible repeat (first | apply Kd.R_alloc | apply Kd.R_drewN | apply Kd.R_drew)); exact HO_374000.out))) (Kd.R_lt (by (with_reducible repeat (first | apply Kd.R_alloc | apply Kd.R_drewN | apply Kd.R_drew)); exact HO_374001.out))) (below_size (by repeat (first | (with_reducible first | exact HB.out | apply below_alloc | apply pw_below_drewN | apply below_drew1 | refine below_set ?_ GE349.out | refine below_set ?_ GE350.out | refine below_set ?_ GE373.out) | exact HB.out))))
      have n5_ := Aside0.mk (Kd.R_lower (Kd.R_new' (Kd.R_new' (Kd.R_new' (Kd.R_new' ho1 (Kd.R_lt (by (with_reducible repeat (first | apply Kd.R_alloc | apply Kd.R_drewN | apply Kd.R_drew)); exact HO_8.out))) (Kd.R_lt (by (with_reducible repeat (first | apply Kd.R_alloc | apply Kd.R_drewN | apply Kd.R_drew)); exact HO_12.out))) (Kd.R_lt (by (with_reducible repeat (first | apply Kd.R_alloc | apply Kd.R_drewN | apply Kd.R_drew)); exact HO_374000.out))) (Kd.R_lt (by (with_reducible repeat (first | apply Kd.R_alloc | apply Kd.R_drewN | apply Kd.R_drew)); exact HO_374001.out))) (below_size (by repeat (first | (with_reducible first | exact HB.out | apply below_alloc | apply pw_below_drewN | apply below_drew1 | refine below_set ?_ GE349.out | refine below_set ?_ GE350.out | refine below_set ?_ GE373.out) | exact HB.out))))
      have n6_ := Aside0.mk (blk_below (g := gb349) (o := .cells #[.int .i64 a0_0, .int .i64 a0_1, .int .i64 a0_2, .int .i64 a0_3] 23 (0, 0)) (by (with_reducible repeat (first | refine blk_drewN ?_ _ | refine blk_drew ?_ | refine blk_alloc ?_ _)); exact BK349.out) hb)
      have n7_ := Aside0.mk (blk_below (g := gb350) (o := .cells #[.slice A1_0 l1_0.length c1_0, .slice A1_1 l1_1.length c1_1] 26 (0, 0)) (by (with_reducible repeat (first | refine blk_drewN ?_ _ | refine blk_drew ?_ | refine blk_alloc ?_ _)); exact BK350.out) hb)
      have n8_ := Aside0.mk (blk_below (g := gb373) (o := .cells #[.slice Ao32 t367.length co32, .slice Ao36 t370.length co36] 33 (0, 0)) (by (with_reducible repeat (first | refine blk_drewN ?_ _ | refine blk_drew ?_ | refine blk_alloc ?_ _)); exact BK373.out) hb)
      have n9_ := Aside0.mk (below_step (by repeat (first | (with_reducible first | exact HB.out | apply below_alloc | apply pw_below_drewN | apply below_drew1 | refine below_set ?_ GE349.out | refine below_set ?_ GE350.out | refine below_set ?_ GE373.out) | exact HB.out)) hb)
      clear HO_8
      clear HO_12
      clear HO_374000
      clear HO_374001
      clear BK349
      clear BK350
      clear BK373
      clear HB
      have HO_8 := n0_
      have HO_12 := n1_
      have HO_374000 := n2_
      have HO_374001 := n3_
      have HO386 := n4_
      have HO389 := n5_
      have BK349 := n6_
      have BK350 := n7_
      have BK373 := n8_
      have HB := n9_
      clear n0_ n1_ n2_ n3_ n4_ n5_ n6_ n7_ n8_ n9_
      (try clear hb)
      (try clear hb2)
      (try clear hk)
      (try clear hi)
      (try clear ho0)
      (try clear ho1)
      obtain ⟨Ao58, co58, eo58⟩ := Kd.R_slice HO386.out
      (first | subst eo58 | (injection eo58 with f1_ f2_ f3_; have f4_ := f1_.symm; have f5_ := f3_.symm; clear f1_ f2_ f3_; subst f4_; subst f5_))
      obtain ⟨Ao59, co59, eo59⟩ := Kd.R_slice HO389.out
      (first | subst eo59 | (injection eo59 with f1_ f2_ f3_; have f4_ := f1_.symm; have f5_ := f3_.symm; clear f1_ f2_ f3_; subst f4_; subst f5_))
      refine hK.out _ _ ⟨(blk_cell BK373.out 0).trans rfl, (blk_cell BK373.out 1).trans rfl, (blk_cell BK350.out 0).trans rfl, (blk_cell BK350.out 1).trans rfl⟩ (fun hHeld => ?_)
      clear hK K
      refine norm_ (a' := ?_) ?_ ?_
      rotate_left
      ·
       show Act.put _ (some 63) _ = _
       simp only [Act.put, sA_, sB_, sC_, i64_w, i32_w]
       rfl
      refine one_ (i := 3) (N := some 64) #[true, true, true, true, false] rfl rfl (by kernel_rfl) (by decide) (fun K hK => ?_)
      refine goes_ Try.func13 (by kernel_rfl) rfl #[.agg #[.slice Ao32 t367.length co32, .slice Ao36 t370.length co36], .agg #[.slice Ao58 t384.length co58, .slice Ao59 t387.length co59]] (by rfl) rfl rfl (by (try simp only [List.map_toArray, List.map_cons, List.map_nil]); first | done | rfl | (simp only [List.length_drop, List.length_take]; rfl)) ?_
      with_reducible refine (laws_eqStream.calls kj16 _ _ t367 _ _ t370 _ _ t384 _ _ t387 true _ ?side1 ?side2 ?side3 ?side4 ?side5 ?side6 ?side7 ?side8 A52.out).mono ?_
      (case side1 => repeat (first | exact (Kd.R_reads' HO_374000.out).2.2 | (with_reducible refine Kd.C_alloc ?_ _) | (with_reducible refine Kd.C_drewN ?_ _) | (with_reducible refine Kd.C_drew ?_)))
      (case side2 => exact (Kd.R_reads' HO_374000.out).2.1)
      (case side3 => repeat (first | exact (Kd.R_reads' HO_374001.out).2.2 | (with_reducible refine Kd.C_alloc ?_ _) | (with_reducible refine Kd.C_drewN ?_ _) | (with_reducible refine Kd.C_drew ?_)))
      (case side4 => exact (Kd.R_reads' HO_374001.out).2.1)
      (case side5 => repeat (first | exact (Kd.R_reads' HO386.out).2.2 | (with_reducible refine Kd.C_alloc ?_ _) | (with_reducible refine Kd.C_drewN ?_ _) | (with_reducible refine Kd.C_drew ?_)))
      (case side6 => exact (Kd.R_reads' HO386.out).2.1)
      (case side7 => repeat (first | exact (Kd.R_reads' HO389.out).2.2 | (with_reducible refine Kd.C_alloc ?_ _) | (with_reducible refine Kd.C_drewN ?_ _) | (with_reducible refine Kd.C_drew ?_)))
      (case side8 => exact (Kd.R_reads' HO389.out).2.1)
      rintro e w60 ⟨rfl, hb⟩
      refine ⟨_, rfl, ?_⟩
      have n0_ := Aside0.mk (Kd.R_below (by (with_reducible repeat (first | apply Kd.R_alloc | apply Kd.R_drewN | apply Kd.R_drew)); exact HO_8.out) hb)
      have n1_ := Aside0.mk (Kd.R_below (by (with_reducible repeat (first | apply Kd.R_alloc | apply Kd.R_drewN | apply Kd.R_drew)); exact HO_12.out) hb)
      have n2_ := Aside0.mk (Kd.R_below (by (with_reducible repeat (first | apply Kd.R_alloc | apply Kd.R_drewN | apply Kd.R_drew)); exact HO_374000.out) hb)
      have n3_ := Aside0.mk (Kd.R_below (by (with_reducible repeat (first | apply Kd.R_alloc | apply Kd.R_drewN | apply Kd.R_drew)); exact HO_374001.out) hb)
      have n4_ := Aside0.mk (Kd.R_below (by (with_reducible repeat (first | apply Kd.R_alloc | apply Kd.R_drewN | apply Kd.R_drew)); exact HO386.out) hb)
      have n5_ := Aside0.mk (Kd.R_below (by (with_reducible repeat (first | apply Kd.R_alloc | apply Kd.R_drewN | apply Kd.R_drew)); exact HO389.out) hb)
      have n6_ := Aside0.mk (blk_below (g := gb349) (o := .cells #[.int .i64 a0_0, .int .i64 a0_1, .int .i64 a0_2, .int .i64 a0_3] 23 (0, 0)) (by (with_reducible repeat (first | refine blk_drewN ?_ _ | refine blk_drew ?_ | refine blk_alloc ?_ _)); exact BK349.out) hb)
      have n7_ := Aside0.mk (blk_below (g := gb350) (o := .cells #[.slice A1_0 l1_0.length c1_0, .slice A1_1 l1_1.length c1_1] 26 (0, 0)) (by (with_reducible repeat (first | refine blk_drewN ?_ _ | refine blk_drew ?_ | refine blk_alloc ?_ _)); exact BK350.out) hb)
      have n8_ := Aside0.mk (blk_below (g := gb373) (o := .cells #[.slice Ao32 t367.length co32, .slice Ao36 t370.length co36] 33 (0, 0)) (by (with_reducible repeat (first | refine blk_drewN ?_ _ | refine blk_drew ?_ | refine blk_alloc ?_ _)); exact BK373.out) hb)
      have n9_ := Aside0.mk (below_step (by repeat (first | (with_reducible first | exact HB.out | apply below_alloc | apply pw_below_drewN | apply below_drew1 | refine below_set ?_ GE349.out | refine below_set ?_ GE350.out | refine below_set ?_ GE373.out) | exact HB.out)) hb)
      clear HO_8
      clear HO_12
      clear HO_374000
      clear HO_374001
      clear HO386
      clear HO389
      clear BK349
      clear BK350
      clear BK373
      clear HB
      have HO_8 := n0_
      have HO_12 := n1_
      have HO_374000 := n2_
      have HO_374001 := n3_
      have HO386 := n4_
      have HO389 := n5_
      have BK349 := n6_
      have BK350 := n7_
      have BK373 := n8_
      have HB := n9_
      clear n0_ n1_ n2_ n3_ n4_ n5_ n6_ n7_ n8_ n9_
      (try clear hb)
      (try clear hb2)
      (try clear hk)
      (try clear hi)
      refine hK.out _ _ ⟨(blk_cell BK373.out 0).trans rfl, (blk_cell BK373.out 1).trans rfl, (blk_cell BK350.out 0).trans rfl, (blk_cell BK350.out 1).trans rfl⟩ (fun hHeld => ?_)
      clear hK K
      refine norm_ (a' := ?_) ?_ ?_
      rotate_left
      ·
       show Act.put _ (some 64) _ = _
       simp only [Act.put, sA_, sB_, sC_, i64_w, i32_w]
       rfl
      refine pure_ (i := 4) (N := some 65) (v := ?_) (a' := ?_) #[true, true, true, true, true] rfl rfl (by kernel_rfl) (fun _ _ _ h => h) (Or.inl ⟨by rfl, ?_⟩) ?_ ?_
      rotate_left
      ·
       intro w'
       go_simp
       with_reducible rfl
      rotate_left
      ·
       simp only [Act.put, sA_, sB_, sC_, i64_w, i32_w]
       rfl
      refine done_ (by kernel_rfl) ?_
      have hnb61 := NB373_349.out
      have hnc61 := NB349_373.out
      have hnb62 := NB373_350.out
      have hnc62 := NB350_373.out
      have hcz63_0 : w60.cell? ⟨gb373, 0, none⟩ = some (.slice Ao32 t367.length co32) := (blk_cell BK373.out 0).trans rfl
      have hcz63_1 : w60.cell? ⟨gb373, 1, none⟩ = some (.slice Ao36 t370.length co36) := (blk_cell BK373.out 1).trans rfl
      have hfz63_0 := blk_frozen BK373.out 0
      have hfz63_1 := blk_frozen BK373.out 1
      go_upto_region 14 with (first | ((with_reducible refine gate_callee (f := 14) rfl ?_); refine goesL_ (some 68) rfl rfl Try.func14 (by kernel_rfl) rfl #[.agg #[.slice Ao32 t367.length co32, .slice Ao36 t370.length co36], .int .i64 1] rfl (by (try simp only [List.map_toArray, List.map_cons, List.map_nil]); first | done | rfl | (simp only [List.length_drop, List.length_take]; rfl)) ?_; (with_reducible refine (laws_markStream.calls kj16 (fun k_ => some k_ = (.slice Ao32 t367.length co32 : Value).ownBlock) (.slice Ao32 t367.length co32) t367 (fun k_ => some k_ = (.slice Ao36 t370.length co36 : Value).ownBlock) (.slice Ao36 t370.length co36) t370 1 t391 t392 t393 w _ ?side1 ?side2 ?side3 ?side4 ?side5 A54.out).mono ?_); (case side1 => repeat (first | (with_reducible first | exact HB.out | apply below_alloc | apply pw_below_drewN | apply below_drew1 | refine below_set ?_ GE349.out | refine below_set ?_ GE350.out | refine below_set ?_ GE373.out) | exact HB.out)); (case side2 => exact Kd.R_tight rfl HO_374000.out); (case side3 => exact fun k_ e_ => (HO_374000.out.1 k_ e_.symm).1.1.2.2); (case side4 => exact Kd.R_tight rfl HO_374001.out); (case side5 => exact fun k_ e_ => (HO_374001.out.1 k_ e_.symm).1.1.2.2); rintro e w64 ⟨rfl, hy0, hy1, hb, hkp⟩; refine ⟨_, rfl, ?_⟩; have n0_ := Aside0.mk (Kd.R_mono (ok' := fun k_ => some k_ ≠ (v379 : Value).ownBlock ∧ some k_ ≠ (.slice Ao32 t367.length co32 : Value).ownBlock ∧ some k_ ≠ (.slice Ao36 t370.length co36 : Value).ownBlock ∧ some k_ ≠ (.slice Ao58 t384.length co58 : Value).ownBlock ∧ some k_ ≠ (.slice Ao59 t387.length co59 : Value).ownBlock) (Kd.R_keptB (HO_8.out) hkp (fun k_ hk_ hs_ => Or.elim hs_ (fun e_ => (hk_.1.1.2.1) e_) (fun e_ => (hk_.1.1.2.2) e_))) (fun k_ hk_ => ⟨hk_.1.1.1.1, hk_.1.1.1.2.1, hk_.1.1.1.2.2, hk_.1.1.2, hk_.1.2⟩)); have n1_ := Aside0.mk (Kd.R_mono (ok' := fun k_ => some k_ ≠ (v363 : Value).ownBlock ∧ some k_ ≠ (.slice Ao32 t367.length co32 : Value).ownBlock ∧ some k_ ≠ (.slice Ao36 t370.length co36 : Value).ownBlock ∧ some k_ ≠ (.slice Ao58 t384.length co58 : Value).ownBlock ∧ some k_ ≠ (.slice Ao59 t387.length co59 : Value).ownBlock) (Kd.R_keptB (HO_12.out) hkp (fun k_ hk_ hs_ => Or.elim hs_ (fun e_ => (hk_.1.1.2.1) e_) (fun e_ => (hk_.1.1.2.2) e_))) (fun k_ hk_ => ⟨hk_.1.1.1.1, hk_.1.1.1.2.1, hk_.1.1.1.2.2, hk_.1.1.2, hk_.1.2⟩)); have n2_ := Aside0.mk (Kd.R_reok rfl hy0 (fun k_ e_ => HO_374000.out.1 k_ e_)); have n3_ := Aside0.mk (Kd.R_reok rfl hy1 (fun k_ e_ => HO_374001.out.1 k_ e_)); have n4_ := Aside0.mk (blk_kept (by (with_reducible repeat (first | refine blk_drewN ?_ _ | refine blk_drew ?_ | refine blk_alloc ?_ _)); exact BK349.out) hkp (fun hs_ => Or.elim hs_ (fun e_ => (fun e_ => (Kd.R_ne HO_374000.out BK349.out (by decide)) e_) e_) (fun e_ => (fun e_ => (Kd.R_ne HO_374001.out BK349.out (by decide)) e_) e_))); have n5_ := Aside0.mk (blk_kept (by (with_reducible repeat (first | refine blk_drewN ?_ _ | refine blk_drew ?_ | refine blk_alloc ?_ _)); exact BK350.out) hkp (fun hs_ => Or.elim hs_ (fun e_ => (fun e_ => (Kd.R_ne HO_374000.out BK350.out (by decide)) e_) e_) (fun e_ => (fun e_ => (Kd.R_ne HO_374001.out BK350.out (by decide)) e_) e_))); have n6_ := Aside0.mk (blk_kept (by (with_reducible repeat (first | refine blk_drewN ?_ _ | refine blk_drew ?_ | refine blk_alloc ?_ _)); exact BK373.out) hkp (fun hs_ => Or.elim hs_ (fun e_ => (fun e_ => (Kd.R_ne HO_374000.out BK373.out (by decide)) e_) e_) (fun e_ => (fun e_ => (Kd.R_ne HO_374001.out BK373.out (by decide)) e_) e_))); have n7_ := Aside0.mk (Kd.R_mono (ok' := fun k_ => some k_ ≠ (v363 : Value).ownBlock ∧ some k_ ≠ (v379 : Value).ownBlock ∧ some k_ ≠ (.slice Ao32 t367.length co32 : Value).ownBlock ∧ some k_ ≠ (.slice Ao36 t370.length co36 : Value).ownBlock ∧ some k_ ≠ (.slice Ao59 t387.length co59 : Value).ownBlock) (Kd.R_keptB (HO386.out) hkp (fun k_ hk_ hs_ => Or.elim hs_ (fun e_ => (hk_.1.2) e_) (fun e_ => (hk_.2) e_))) (fun k_ hk_ => ⟨hk_.1.1.1.1.2, hk_.1.1.1.2, hk_.1.1.2, hk_.1.2, hk_.1.1.1.1.1⟩)); have n8_ := Aside0.mk (Kd.R_mono (ok' := fun k_ => some k_ ≠ (v363 : Value).ownBlock ∧ some k_ ≠ (v379 : Value).ownBlock ∧ some k_ ≠ (.slice Ao32 t367.length co32 : Value).ownBlock ∧ some k_ ≠ (.slice Ao36 t370.length co36 : Value).ownBlock ∧ some k_ ≠ (.slice Ao58 t384.length co58 : Value).ownBlock) (Kd.R_keptB (HO389.out) hkp (fun k_ hk_ hs_ => Or.elim hs_ (fun e_ => (hk_.1.2) e_) (fun e_ => (hk_.2) e_))) (fun k_ hk_ => ⟨hk_.1.1.1.1.2, hk_.1.1.1.2, hk_.1.1.2, hk_.1.2, hk_.1.1.1.1.1⟩)); have n9_ := Aside0.mk (hb); clear HO_8; clear HO_12; clear HO_374000; clear HO_374001; clear BK349; clear BK350; clear BK373; clear HO386; clear HO389; clear HB; have HO_8 := n0_; have HO_12 := n1_; have HO_374000 := n2_; have HO_374001 := n3_; have BK349 := n4_; have BK350 := n5_; have BK373 := n6_; have HO386 := n7_; have HO389 := n8_; have HB := n9_; clear n0_ n1_ n2_ n3_ n4_ n5_ n6_ n7_ n8_ n9_; (try clear hb); (try clear hkp); (try clear hy0); (try clear hy1)))
      (try simp only [Act.put, sA_, sB_, sC_])
      go_cut [86] (fun v86 wc => ∃ (kq : Nat) (x86_54 : Bool), v86 = .bool x86_54 ∧ Aside0 (laws_FnExactMoebiusDigits.j1 kq a2 t362 t365 t366 t378 x86_54 a0_0 a0_1 a0_2 a0_3 l1_0 l1_1 = some true) ∧ Aside0 (kq ≤ kj16) ∧ Aside0 (Kd.R (Kd.int .i8) 49 wc w.heap.size (fun k_ => some k_ ≠ (v379 : Value).ownBlock ∧ some k_ ≠ ((.slice Ao32 t367.length co32) : Value).ownBlock ∧ some k_ ≠ ((.slice Ao36 t370.length co36) : Value).ownBlock) v363 t362) ∧ Aside0 (Kd.R (Kd.int .i8) 49 wc w.heap.size (fun k_ => some k_ ≠ (v363 : Value).ownBlock ∧ some k_ ≠ ((.slice Ao32 t367.length co32) : Value).ownBlock ∧ some k_ ≠ ((.slice Ao36 t370.length co36) : Value).ownBlock) v379 t378) ∧ Aside0 (Kd.R (Kd.int .i8) 49 wc w.heap.size (fun k_ => some k_ ≠ (v363 : Value).ownBlock ∧ some k_ ≠ (v379 : Value).ownBlock ∧ some k_ ≠ ((.slice Ao36 t370.length co36) : Value).ownBlock) (.slice Ao32 t367.length co32) t392) ∧ Aside0 (Kd.R (Kd.int .i8) 49 wc w.heap.size (fun k_ => some k_ ≠ (v363 : Value).ownBlock ∧ some k_ ≠ (v379 : Value).ownBlock ∧ some k_ ≠ ((.slice Ao32 t367.length co32) : Value).ownBlock) (.slice Ao36 t370.length co36) t393) ∧ Aside0 (wc.heap[gb349]? = some (.cells #[.int .i64 a0_0, .int .i64 a0_1, .int .i64 a0_2, .int .i64 a0_3] 23 (0, 0))) ∧ Aside0 (wc.heap[gb350]? = some (.cells #[(.slice A1_0 l1_0.length c1_0), (.slice A1_1 l1_1.length c1_1)] 26 (0, 0))) ∧ Aside0 (wc.heap[gb373]? = some (.cells #[(.slice Ao32 t367.length co32), (.slice Ao36 t370.length co36)] 33 (0, 0))) ∧ Aside0 (Below w.heap.size w wc))
      case first =>
       have H := HC55.out
       clear HC55
       by_cases c65 : t391 < 0
       ·
        rw [if_pos c65] at H
        have c65b0 : decide (t391 < 0) = true := decide_eq_true c65
        clear c65
        (first | rw [c65b0] | (simp only [i64_w, i32_w]; rw [c65b0]) | skip)
        have H' := Aside0.mk H
        clear H
        go_wp2
        go_meet
        case rel => exact ⟨_, (true), (by first | rfl | (simp; done) | (simp [*]; done) | (simp [isE_]; done)), H', ⟨by have := HJ16.out; first | omega | exact Nat.le_refl _⟩, ⟨by (with_reducible repeat (first | apply Kd.R_alloc | apply Kd.R_drewN | apply Kd.R_drew)); exact Kd.R_mono HO_8.out (fun _ hk => ⟨hk.1, ⟨hk.2.1, hk.2.2.1⟩⟩)⟩, ⟨by (with_reducible repeat (first | apply Kd.R_alloc | apply Kd.R_drewN | apply Kd.R_drew)); exact Kd.R_mono HO_12.out (fun _ hk => ⟨hk.1, ⟨hk.2.1, hk.2.2.1⟩⟩)⟩, ⟨by (with_reducible repeat (first | apply Kd.R_alloc | apply Kd.R_drewN | apply Kd.R_drew)); exact Kd.R_mono HO_374000.out (fun _ hk => ⟨hk.1.1.1, ⟨hk.1.1.2.1, hk.1.1.2.2⟩⟩)⟩, ⟨by (with_reducible repeat (first | apply Kd.R_alloc | apply Kd.R_drewN | apply Kd.R_drew)); exact Kd.R_mono HO_374001.out (fun _ hk => ⟨hk.1.1.1, ⟨hk.1.1.2.1, hk.1.1.2.2⟩⟩)⟩, ⟨by (with_reducible repeat (first | refine blk_drewN ?_ _ | refine blk_drew ?_ | refine blk_alloc ?_ _)); exact BK349.out⟩, ⟨by (with_reducible repeat (first | refine blk_drewN ?_ _ | refine blk_drew ?_ | refine blk_alloc ?_ _)); exact BK350.out⟩, ⟨by (with_reducible repeat (first | refine blk_drewN ?_ _ | refine blk_drew ?_ | refine blk_alloc ?_ _)); exact BK373.out⟩, ⟨by repeat (first | (with_reducible first | exact HB.out | apply below_alloc | apply pw_below_drewN | apply below_drew1 | refine below_set ?_ GE349.out | refine below_set ?_ GE350.out | refine below_set ?_ GE373.out) | exact HB.out)⟩⟩
       ·
        rw [if_neg c65] at H
        have c65b0 : decide (t391 < 0) = false := decide_eq_false c65
        clear c65
        (first | rw [c65b0] | (simp only [i64_w, i32_w]; rw [c65b0]) | skip)
        replace H := Option.bind_eq_some_iff.mp H
        obtain ⟨t394, A660, H⟩ := H
        replace H : (if t394 = true then (if t381 = t365 then (laws_FnExactMoebiusDigits.j1 kj16 a2 t362 t365 t366 t378 (t382 != t366) a0_0 a0_1 a0_2 a0_3 l1_0 l1_1) else (laws_FnExactMoebiusDigits.j1 kj16 a2 t362 t365 t366 t378 true a0_0 a0_1 a0_2 a0_3 l1_0 l1_1)) else (laws_FnExactMoebiusDigits.j1 kj16 a2 t362 t365 t366 t378 true a0_0 a0_1 a0_2 a0_3 l1_0 l1_1)) = some true := H
        have A66 := Aside0.mk A660
        clear A660
        by_cases c67 : t394 = true
        ·
         subst c67
         have H1 : (if t381 = t365 then (laws_FnExactMoebiusDigits.j1 kj16 a2 t362 t365 t366 t378 (t382 != t366) a0_0 a0_1 a0_2 a0_3 l1_0 l1_1) else (laws_FnExactMoebiusDigits.j1 kj16 a2 t362 t365 t366 t378 true a0_0 a0_1 a0_2 a0_3 l1_0 l1_1)) = some true := by first | (rw [if_pos rfl] at H; exact H) | rfl
         clear H
         have H := H1
         clear H1
         by_cases c68 : t381 = t365
         ·
          rw [if_pos c68] at H
          have c68b0 : (t381 == t365) = true := beq_iff_eq.mpr c68
          have c68b1 : (t381 != t365) = false := bne_eq_false_iff_eq.mpr c68
          clear c68
          have H' := Aside0.mk H
          clear H
          obtain ⟨Ao69, co69, eo69⟩ := Kd.R_slice HO_12.out
          subst eo69
          obtain ⟨Ao70, co70, eo70⟩ := Kd.R_slice HO_8.out
          subst eo70
          go_wp2_with (first | (go_at_call 19; (with_reducible refine (laws_eqInt8S.calls kj16 _ _ t378 _ _ t362 true _ ?side1 ?side2 ?side3 ?side4 A66.out).mono ?_); (case side1 => repeat (first | exact (Kd.R_reads' HO_12.out).2.2 | (with_reducible refine Kd.C_alloc ?_ _) | (with_reducible refine Kd.C_drewN ?_ _) | (with_reducible refine Kd.C_drew ?_))); (case side2 => exact (Kd.R_reads' HO_12.out).2.1); (case side3 => repeat (first | exact (Kd.R_reads' HO_8.out).2.2 | (with_reducible refine Kd.C_alloc ?_ _) | (with_reducible refine Kd.C_drewN ?_ _) | (with_reducible refine Kd.C_drew ?_))); (case side4 => exact (Kd.R_reads' HO_8.out).2.1); rintro e w' ⟨rfl, ⟨nd, rfl⟩⟩))
          go_meet
          case rel => exact ⟨_, ((t382 != t366)), (by first | rfl | (simp; done) | (simp [*]; done) | (simp [isE_]; done)), H', ⟨by have := HJ16.out; first | omega | exact Nat.le_refl _⟩, ⟨by (with_reducible repeat (first | apply Kd.R_alloc | apply Kd.R_drewN | apply Kd.R_drew)); exact Kd.R_mono HO_8.out (fun _ hk => ⟨hk.1, ⟨hk.2.1, hk.2.2.1⟩⟩)⟩, ⟨by (with_reducible repeat (first | apply Kd.R_alloc | apply Kd.R_drewN | apply Kd.R_drew)); exact Kd.R_mono HO_12.out (fun _ hk => ⟨hk.1, ⟨hk.2.1, hk.2.2.1⟩⟩)⟩, ⟨by (with_reducible repeat (first | apply Kd.R_alloc | apply Kd.R_drewN | apply Kd.R_drew)); exact Kd.R_mono HO_374000.out (fun _ hk => ⟨hk.1.1.1, ⟨hk.1.1.2.1, hk.1.1.2.2⟩⟩)⟩, ⟨by (with_reducible repeat (first | apply Kd.R_alloc | apply Kd.R_drewN | apply Kd.R_drew)); exact Kd.R_mono HO_374001.out (fun _ hk => ⟨hk.1.1.1, ⟨hk.1.1.2.1, hk.1.1.2.2⟩⟩)⟩, ⟨by (with_reducible repeat (first | refine blk_drewN ?_ _ | refine blk_drew ?_ | refine blk_alloc ?_ _)); exact BK349.out⟩, ⟨by (with_reducible repeat (first | refine blk_drewN ?_ _ | refine blk_drew ?_ | refine blk_alloc ?_ _)); exact BK350.out⟩, ⟨by (with_reducible repeat (first | refine blk_drewN ?_ _ | refine blk_drew ?_ | refine blk_alloc ?_ _)); exact BK373.out⟩, ⟨by repeat (first | (with_reducible first | exact HB.out | apply below_alloc | apply pw_below_drewN | apply below_drew1 | refine below_set ?_ GE349.out | refine below_set ?_ GE350.out | refine below_set ?_ GE373.out) | exact HB.out)⟩⟩
         ·
          rw [if_neg c68] at H
          have c68b0 : (t381 == t365) = false := beq_eq_false_iff_ne.mpr c68
          have c68b1 : (t381 != t365) = true := bne_iff_ne.mpr c68
          have H' := Aside0.mk H
          clear H
          obtain ⟨Ao71, co71, eo71⟩ := Kd.R_slice HO_12.out
          subst eo71
          obtain ⟨Ao72, co72, eo72⟩ := Kd.R_slice HO_8.out
          subst eo72
          go_wp2_with (first | (go_at_call 19; (with_reducible refine (laws_eqInt8S.calls kj16 _ _ t378 _ _ t362 true _ ?side1 ?side2 ?side3 ?side4 A66.out).mono ?_); (case side1 => repeat (first | exact (Kd.R_reads' HO_12.out).2.2 | (with_reducible refine Kd.C_alloc ?_ _) | (with_reducible refine Kd.C_drewN ?_ _) | (with_reducible refine Kd.C_drew ?_))); (case side2 => exact (Kd.R_reads' HO_12.out).2.1); (case side3 => repeat (first | exact (Kd.R_reads' HO_8.out).2.2 | (with_reducible refine Kd.C_alloc ?_ _) | (with_reducible refine Kd.C_drewN ?_ _) | (with_reducible refine Kd.C_drew ?_))); (case side4 => exact (Kd.R_reads' HO_8.out).2.1); rintro e w' ⟨rfl, ⟨nd, rfl⟩⟩))
          go_meet
          case rel => exact ⟨_, (true), (by first | rfl | (simp; done) | (simp [*]; done) | (simp [isE_]; done)), H', ⟨by have := HJ16.out; first | omega | exact Nat.le_refl _⟩, ⟨by (with_reducible repeat (first | apply Kd.R_alloc | apply Kd.R_drewN | apply Kd.R_drew)); exact Kd.R_mono HO_8.out (fun _ hk => ⟨hk.1, ⟨hk.2.1, hk.2.2.1⟩⟩)⟩, ⟨by (with_reducible repeat (first | apply Kd.R_alloc | apply Kd.R_drewN | apply Kd.R_drew)); exact Kd.R_mono HO_12.out (fun _ hk => ⟨hk.1, ⟨hk.2.1, hk.2.2.1⟩⟩)⟩, ⟨by (with_reducible repeat (first | apply Kd.R_alloc | apply Kd.R_drewN | apply Kd.R_drew)); exact Kd.R_mono HO_374000.out (fun _ hk => ⟨hk.1.1.1, ⟨hk.1.1.2.1, hk.1.1.2.2⟩⟩)⟩, ⟨by (with_reducible repeat (first | apply Kd.R_alloc | apply Kd.R_drewN | apply Kd.R_drew)); exact Kd.R_mono HO_374001.out (fun _ hk => ⟨hk.1.1.1, ⟨hk.1.1.2.1, hk.1.1.2.2⟩⟩)⟩, ⟨by (with_reducible repeat (first | refine blk_drewN ?_ _ | refine blk_drew ?_ | refine blk_alloc ?_ _)); exact BK349.out⟩, ⟨by (with_reducible repeat (first | refine blk_drewN ?_ _ | refine blk_drew ?_ | refine blk_alloc ?_ _)); exact BK350.out⟩, ⟨by (with_reducible repeat (first | refine blk_drewN ?_ _ | refine blk_drew ?_ | refine blk_alloc ?_ _)); exact BK373.out⟩, ⟨by repeat (first | (with_reducible first | exact HB.out | apply below_alloc | apply pw_below_drewN | apply below_drew1 | refine below_set ?_ GE349.out | refine below_set ?_ GE350.out | refine below_set ?_ GE373.out) | exact HB.out)⟩⟩
        ·
         replace c67 := Bool.eq_false_iff.mpr c67
         subst c67
         have H1 : (laws_FnExactMoebiusDigits.j1 kj16 a2 t362 t365 t366 t378 true a0_0 a0_1 a0_2 a0_3 l1_0 l1_1) = some true := by first | (rw [if_neg (show ¬ (false = true) by decide)] at H; exact H) | rfl
         clear H
         have H := H1
         clear H1
         have H' := Aside0.mk H
         clear H
         obtain ⟨Ao73, co73, eo73⟩ := Kd.R_slice HO_12.out
         subst eo73
         obtain ⟨Ao74, co74, eo74⟩ := Kd.R_slice HO_8.out
         subst eo74
         go_wp2_with (first | (go_at_call 19; (with_reducible refine (laws_eqInt8S.calls kj16 _ _ t378 _ _ t362 false _ ?side1 ?side2 ?side3 ?side4 A66.out).mono ?_); (case side1 => repeat (first | exact (Kd.R_reads' HO_12.out).2.2 | (with_reducible refine Kd.C_alloc ?_ _) | (with_reducible refine Kd.C_drewN ?_ _) | (with_reducible refine Kd.C_drew ?_))); (case side2 => exact (Kd.R_reads' HO_12.out).2.1); (case side3 => repeat (first | exact (Kd.R_reads' HO_8.out).2.2 | (with_reducible refine Kd.C_alloc ?_ _) | (with_reducible refine Kd.C_drewN ?_ _) | (with_reducible refine Kd.C_drew ?_))); (case side4 => exact (Kd.R_reads' HO_8.out).2.1); rintro e w' ⟨rfl, ⟨nd, rfl⟩⟩))
         go_meet
         case rel => exact ⟨_, (true), (by first | rfl | (simp; done) | (simp [*]; done) | (simp [isE_]; done)), H', ⟨by have := HJ16.out; first | omega | exact Nat.le_refl _⟩, ⟨by (with_reducible repeat (first | apply Kd.R_alloc | apply Kd.R_drewN | apply Kd.R_drew)); exact Kd.R_mono HO_8.out (fun _ hk => ⟨hk.1, ⟨hk.2.1, hk.2.2.1⟩⟩)⟩, ⟨by (with_reducible repeat (first | apply Kd.R_alloc | apply Kd.R_drewN | apply Kd.R_drew)); exact Kd.R_mono HO_12.out (fun _ hk => ⟨hk.1, ⟨hk.2.1, hk.2.2.1⟩⟩)⟩, ⟨by (with_reducible repeat (first | apply Kd.R_alloc | apply Kd.R_drewN | apply Kd.R_drew)); exact Kd.R_mono HO_374000.out (fun _ hk => ⟨hk.1.1.1, ⟨hk.1.1.2.1, hk.1.1.2.2⟩⟩)⟩, ⟨by (with_reducible repeat (first | apply Kd.R_alloc | apply Kd.R_drewN | apply Kd.R_drew)); exact Kd.R_mono HO_374001.out (fun _ hk => ⟨hk.1.1.1, ⟨hk.1.1.2.1, hk.1.1.2.2⟩⟩)⟩, ⟨by (with_reducible repeat (first | refine blk_drewN ?_ _ | refine blk_drew ?_ | refine blk_alloc ?_ _)); exact BK349.out⟩, ⟨by (with_reducible repeat (first | refine blk_drewN ?_ _ | refine blk_drew ?_ | refine blk_alloc ?_ _)); exact BK350.out⟩, ⟨by (with_reducible repeat (first | refine blk_drewN ?_ _ | refine blk_drew ?_ | refine blk_alloc ?_ _)); exact BK373.out⟩, ⟨by repeat (first | (with_reducible first | exact HB.out | apply below_alloc | apply pw_below_drewN | apply below_drew1 | refine below_set ?_ GE349.out | refine below_set ?_ GE350.out | refine below_set ?_ GE373.out) | exact HB.out)⟩⟩
      case rest =>
       clear HC55
       try clear c1
       try clear c2
       try clear p2
       try clear c3
       try clear c4
       try clear c5
       try clear c5b0
       try clear c6
       try clear c7
       try clear c8
       try clear c9
       try clear c10
       try clear c13
       try clear c14
       try clear c17
       try clear c18
       try clear c19
       try clear c20
       try clear c33
       try clear c34
       try clear c42
       try clear c43
       try clear c43b0
       try clear c43b1
       try clear c50
       try clear c53
       try clear c61
       try clear c62
       try clear c65
       try clear c65b0
       try clear c67
       try clear c68
       try clear c68b0
       try clear c68b1
       try clear hcz21_0
       try clear hcz21_1
       try clear hcz29_0
       try clear hcz29_1
       try clear hcz35_0
       try clear hcz35_1
       try clear hcz63_0
       try clear hcz63_1
       try clear hcz9_0
       try clear hcz9_1
       try clear hfz21_0
       try clear hfz21_1
       try clear hfz29_0
       try clear hfz29_1
       try clear hfz35_0
       try clear hfz35_1
       try clear hfz63_0
       try clear hfz63_1
       try clear hfz9_0
       try clear hfz9_1
       try clear p2
       obtain ⟨kq, x86_54, rfl, HA, HJ54, HO_8, HO_12, HO_374000, HO_374001, BK349, BK350, BK373, HB⟩ := hcut
       have hl374000_54 := (Kd.R_reads' HO_374000.out).1
       rw [hl374000_54] at HO_374000
       (try simp only [hl374000_54])
       (try simp only [hl374000_54] at BK349)
       (try simp only [hl374000_54] at BK350)
       (try simp only [hl374000_54] at BK373)
       (try simp only [hl374000_54] at HO_8)
       (try simp only [hl374000_54] at HO_12)
       (try simp only [hl374000_54] at HO_374001)
       have hl374001_54 := (Kd.R_reads' HO_374001.out).1
       rw [hl374001_54] at HO_374001
       (try simp only [hl374001_54])
       (try simp only [hl374001_54] at BK349)
       (try simp only [hl374001_54] at BK350)
       (try simp only [hl374001_54] at BK373)
       (try simp only [hl374001_54] at HO_8)
       (try simp only [hl374001_54] at HO_12)
       (try simp only [hl374001_54] at HO_374000)
       cases kq with
       | zero => exact absurd HA.out (by simp [laws_FnExactMoebiusDigits.j1])
       | succ kj54 =>
        have H := HA.out
        clear HA
        simp only [laws_FnExactMoebiusDigits.j1] at H
        by_cases c75 : x86_54 = true
        ·
         subst c75
         have H1 : (some false) = some true := by first | (rw [if_pos rfl] at H; exact H) | rfl
         clear H
         have H := H1
         clear H1
         exact absurd H (by decide)
        ·
         replace c75 := Bool.eq_false_iff.mpr c75
         subst c75
         have H1 : ((laws_markInt8S.f kj54 t378 1).bind fun bt395 => ((laws_heldInt8S.f kj54 bt395.2 1).bind fun t397 => (if t397 < 0 then (some false) else (if t397 = bt395.1 then ((laws_toMoebius.f a0_0 a0_1 a0_2 a0_3).bind fun bt398 => ((laws_toStream.f kj54 l1_0 l1_1).bind fun bt402 => ((impl_MoebiusDigits.f kj54 bt398.1 bt398.2.1 bt398.2.2.1 bt398.2.2.2 bt402.1 bt402.2 a2).bind fun bt408 => ((laws_eqInt8S.f kj54 bt408.1 t362).bind fun t413 => (if t413 = true then (if bt408.2.1 = t365 then (laws_FnExactMoebiusDigits.j2 kj54 bt395.2 bt395.1 (bt408.2.2 != t366)) else (laws_FnExactMoebiusDigits.j2 kj54 bt395.2 bt395.1 true)) else (laws_FnExactMoebiusDigits.j2 kj54 bt395.2 bt395.1 true)))))) else (some false))))) = some true := by first | (rw [if_neg (show ¬ (false = true) by decide)] at H; exact H) | rfl
         clear H
         have H := H1
         clear H1
         replace H := Option.bind_eq_some_iff.mp H
         obtain ⟨⟨t395, t396⟩, A760, H⟩ := H
         replace H : ((laws_heldInt8S.f kj54 t396 1).bind fun t397 => (if t397 < 0 then (some false) else (if t397 = t395 then ((laws_toMoebius.f a0_0 a0_1 a0_2 a0_3).bind fun bt398 => ((laws_toStream.f kj54 l1_0 l1_1).bind fun bt402 => ((impl_MoebiusDigits.f kj54 bt398.1 bt398.2.1 bt398.2.2.1 bt398.2.2.2 bt402.1 bt402.2 a2).bind fun bt408 => ((laws_eqInt8S.f kj54 bt408.1 t362).bind fun t413 => (if t413 = true then (if bt408.2.1 = t365 then (laws_FnExactMoebiusDigits.j2 kj54 t396 t395 (bt408.2.2 != t366)) else (laws_FnExactMoebiusDigits.j2 kj54 t396 t395 true)) else (laws_FnExactMoebiusDigits.j2 kj54 t396 t395 true)))))) else (some false)))) = some true := H
         have A76 := Aside0.mk A760
         clear A760
         replace H := Option.bind_eq_some_iff.mp H
         obtain ⟨t397, A770, H⟩ := H
         replace H : (if t397 < 0 then (some false) else (if t397 = t395 then ((laws_toMoebius.f a0_0 a0_1 a0_2 a0_3).bind fun bt398 => ((laws_toStream.f kj54 l1_0 l1_1).bind fun bt402 => ((impl_MoebiusDigits.f kj54 bt398.1 bt398.2.1 bt398.2.2.1 bt398.2.2.2 bt402.1 bt402.2 a2).bind fun bt408 => ((laws_eqInt8S.f kj54 bt408.1 t362).bind fun t413 => (if t413 = true then (if bt408.2.1 = t365 then (laws_FnExactMoebiusDigits.j2 kj54 t396 t395 (bt408.2.2 != t366)) else (laws_FnExactMoebiusDigits.j2 kj54 t396 t395 true)) else (laws_FnExactMoebiusDigits.j2 kj54 t396 t395 true)))))) else (some false))) = some true := H
         have A77 := Aside0.mk A770
         clear A770
         by_cases c78 : t397 < 0
         ·
          rw [if_pos c78] at H
          have c78b0 : decide (t397 < 0) = true := decide_eq_true c78
          clear c78
          exact absurd H (by decide)
         ·
          rw [if_neg c78] at H
          have c78b0 : decide (t397 < 0) = false := decide_eq_false c78
          clear c78
          by_cases c79 : t397 = t395
          ·
           rw [if_pos c79] at H
           have c79b0 : (t397 == t395) = true := beq_iff_eq.mpr c79
           have c79b1 : (t397 != t395) = false := bne_eq_false_iff_eq.mpr c79
           clear c79
           replace H := Option.bind_eq_some_iff.mp H
           obtain ⟨⟨t398, t399, t400, t401⟩, A800, H⟩ := H
           replace H : ((laws_toStream.f kj54 l1_0 l1_1).bind fun bt402 => ((impl_MoebiusDigits.f kj54 t398 t399 t400 t401 bt402.1 bt402.2 a2).bind fun bt408 => ((laws_eqInt8S.f kj54 bt408.1 t362).bind fun t413 => (if t413 = true then (if bt408.2.1 = t365 then (laws_FnExactMoebiusDigits.j2 kj54 t396 t395 (bt408.2.2 != t366)) else (laws_FnExactMoebiusDigits.j2 kj54 t396 t395 true)) else (laws_FnExactMoebiusDigits.j2 kj54 t396 t395 true))))) = some true := H
           have A80 := Aside0.mk A800
           clear A800
           replace H := Option.bind_eq_some_iff.mp H
           obtain ⟨⟨t402, t405⟩, A810, H⟩ := H
           replace H : ((impl_MoebiusDigits.f kj54 t398 t399 t400 t401 t402 t405 a2).bind fun bt408 => ((laws_eqInt8S.f kj54 bt408.1 t362).bind fun t413 => (if t413 = true then (if bt408.2.1 = t365 then (laws_FnExactMoebiusDigits.j2 kj54 t396 t395 (bt408.2.2 != t366)) else (laws_FnExactMoebiusDigits.j2 kj54 t396 t395 true)) else (laws_FnExactMoebiusDigits.j2 kj54 t396 t395 true)))) = some true := H
           have A81 := Aside0.mk A810
           clear A810
           replace H := Option.bind_eq_some_iff.mp H
           obtain ⟨⟨t408, t411, t412⟩, A820, H⟩ := H
           replace H : ((laws_eqInt8S.f kj54 t408 t362).bind fun t413 => (if t413 = true then (if t411 = t365 then (laws_FnExactMoebiusDigits.j2 kj54 t396 t395 (t412 != t366)) else (laws_FnExactMoebiusDigits.j2 kj54 t396 t395 true)) else (laws_FnExactMoebiusDigits.j2 kj54 t396 t395 true))) = some true := H
           have A82 := Aside0.mk A820
           clear A820
           have HC83 := Aside0.mk H
           clear H
           obtain ⟨Ao84, co84, eo84⟩ := Kd.R_slice HO_12.out
           subst eo84
           try go_wp2_with (first | ((with_reducible refine gate_callee (f := 20) rfl ?_); refine goesL_ (some 89) rfl rfl Try.func20 (by kernel_rfl) rfl #[.slice Ao84 t378.length co84, .int .i64 1] rfl (by (try simp only [List.map_toArray, List.map_cons, List.map_nil]); first | done | rfl | (simp only [List.length_drop, List.length_take]; rfl)) ?_; (with_reducible refine (laws_markInt8S.calls kj54 (fun k_ => some k_ = (.slice Ao84 t378.length co84 : Value).ownBlock) (.slice Ao84 t378.length co84) t378 1 t395 t396 w _ ?side1 ?side2 A76.out).mono ?_); (case side1 => repeat (first | (with_reducible first | exact HB.out | apply below_alloc | apply pw_below_drewN | apply below_drew1 | refine below_set ?_ GE349.out | refine below_set ?_ GE350.out | refine below_set ?_ GE373.out) | exact HB.out)); (case side2 => exact Kd.R_tight rfl HO_12.out); rintro e w85 ⟨rfl, hy0, hb, hkp⟩; refine ⟨_, rfl, ?_⟩; have n0_ := Aside0.mk (Kd.R_mono (ok' := fun k_ => some k_ ≠ (.slice Ao84 t378.length co84 : Value).ownBlock ∧ some k_ ≠ (.slice Ao32 t392.length co32 : Value).ownBlock ∧ some k_ ≠ (.slice Ao36 t393.length co36 : Value).ownBlock) (Kd.R_keptB (HO_8.out) hkp (fun k_ hk_ hs_ => (hk_.1) hs_)) (fun k_ hk_ => ⟨hk_.1.1, hk_.1.2.1, hk_.1.2.2⟩)); have n1_ := Aside0.mk (Kd.R_reok rfl hy0 (fun k_ e_ => HO_12.out.1 k_ e_)); have n2_ := Aside0.mk (Kd.R_mono (ok' := fun k_ => some k_ ≠ (v363 : Value).ownBlock ∧ some k_ ≠ (.slice Ao84 t378.length co84 : Value).ownBlock ∧ some k_ ≠ (.slice Ao36 t393.length co36 : Value).ownBlock) (Kd.R_keptB (HO_374000.out) hkp (fun k_ hk_ hs_ => (hk_.2.1) hs_)) (fun k_ hk_ => ⟨hk_.1.1, hk_.1.2.1, hk_.1.2.2⟩)); have n3_ := Aside0.mk (Kd.R_mono (ok' := fun k_ => some k_ ≠ (v363 : Value).ownBlock ∧ some k_ ≠ (.slice Ao84 t378.length co84 : Value).ownBlock ∧ some k_ ≠ (.slice Ao32 t392.length co32 : Value).ownBlock) (Kd.R_keptB (HO_374001.out) hkp (fun k_ hk_ hs_ => (hk_.2.1) hs_)) (fun k_ hk_ => ⟨hk_.1.1, hk_.1.2.1, hk_.1.2.2⟩)); have n4_ := Aside0.mk (blk_kept (by (with_reducible repeat (first | refine blk_drewN ?_ _ | refine blk_drew ?_ | refine blk_alloc ?_ _)); exact BK349.out) hkp (fun hs_ => (fun e_ => (Kd.R_ne HO_12.out BK349.out (by decide)) e_) hs_)); have n5_ := Aside0.mk (blk_kept (by (with_reducible repeat (first | refine blk_drewN ?_ _ | refine blk_drew ?_ | refine blk_alloc ?_ _)); exact BK350.out) hkp (fun hs_ => (fun e_ => (Kd.R_ne HO_12.out BK350.out (by decide)) e_) hs_)); have n6_ := Aside0.mk (blk_kept (by (with_reducible repeat (first | refine blk_drewN ?_ _ | refine blk_drew ?_ | refine blk_alloc ?_ _)); exact BK373.out) hkp (fun hs_ => (fun e_ => (Kd.R_ne HO_12.out BK373.out (by decide)) e_) hs_)); have n7_ := Aside0.mk (hb); clear HO_8; clear HO_12; clear HO_374000; clear HO_374001; clear BK349; clear BK350; clear BK373; clear HB; have HO_8 := n0_; have HO_12 := n1_; have HO_374000 := n2_; have HO_374001 := n3_; have BK349 := n4_; have BK350 := n5_; have BK373 := n6_; have HB := n7_; clear n0_ n1_ n2_ n3_ n4_ n5_ n6_ n7_; (try clear hb); (try clear hkp); (try clear hy0)) | ((with_reducible refine gate_callee (f := 21) rfl ?_); refine goesL_ (some 92) rfl rfl Try.func21 (by kernel_rfl) rfl #[.slice Ao84 t396.length co84, .int .i64 1] rfl (by (try simp only [List.map_toArray, List.map_cons, List.map_nil]); first | done | (rw [show t396.length = t378.length from (Kd.R_reads' HO_12.out).1.symm] <;> rfl) | rfl | (simp only [List.length_drop, List.length_take]; rfl)) ?_; (with_reducible refine (laws_heldInt8S.calls kj54 _ _ t396 1 t397 _ ?side1 ?side2 A77.out).mono ?_); (case side1 => repeat (first | exact (Kd.R_reads' HO_12.out).2.2 | (with_reducible refine Kd.C_alloc ?_ _) | (with_reducible refine Kd.C_drewN ?_ _) | (with_reducible refine Kd.C_drew ?_))); (case side2 => rw [show t396.length = t378.length from (Kd.R_reads' HO_12.out).1.symm]; exact (Kd.R_reads' HO_12.out).2.1); rintro e w' ⟨rfl, ⟨nd, rfl⟩⟩; refine ⟨_, rfl, ?_⟩))
           (try (rw [drewN_self w85]; generalize hq_ : World.drewN w85 _ = w85; have n0_ : Aside0 (Kd.R (Kd.int .i8) 49 w85 w.heap.size (fun k_ => (some k_ ≠ (v363 : Value).ownBlock ∧ (some k_ ≠ (.slice Ao32 t392.length co32 : Value).ownBlock ∧ some k_ ≠ (.slice Ao36 t393.length co36 : Value).ownBlock))) (.slice Ao84 t378.length co84) t396) := ⟨by rw [← hq_]; exact (by (with_reducible repeat (first | apply Kd.R_alloc | apply Kd.R_drewN | apply Kd.R_drew)); exact HO_12.out)⟩; have n1_ : Aside0 (Kd.R (Kd.int .i8) 49 w85 w.heap.size (fun k_ => (some k_ ≠ (v363 : Value).ownBlock ∧ (some k_ ≠ (.slice Ao84 t378.length co84 : Value).ownBlock ∧ some k_ ≠ (.slice Ao36 t393.length co36 : Value).ownBlock))) (.slice Ao32 t392.length co32) t392) := ⟨by rw [← hq_]; exact (by (with_reducible repeat (first | apply Kd.R_alloc | apply Kd.R_drewN | apply Kd.R_drew)); exact HO_374000.out)⟩; have n2_ : Aside0 (Kd.R (Kd.int .i8) 49 w85 w.heap.size (fun k_ => (some k_ ≠ (v363 : Value).ownBlock ∧ (some k_ ≠ (.slice Ao84 t378.length co84 : Value).ownBlock ∧ some k_ ≠ (.slice Ao32 t392.length co32 : Value).ownBlock))) (.slice Ao36 t393.length co36) t393) := ⟨by rw [← hq_]; exact (by (with_reducible repeat (first | apply Kd.R_alloc | apply Kd.R_drewN | apply Kd.R_drew)); exact HO_374001.out)⟩; have n3_ : Aside0 (Kd.R (Kd.int .i8) 49 w85 w.heap.size (fun k_ => (some k_ ≠ (.slice Ao84 t378.length co84 : Value).ownBlock ∧ (some k_ ≠ (.slice Ao32 t392.length co32 : Value).ownBlock ∧ some k_ ≠ (.slice Ao36 t393.length co36 : Value).ownBlock))) v363 t362) := ⟨by rw [← hq_]; exact (by (with_reducible repeat (first | apply Kd.R_alloc | apply Kd.R_drewN | apply Kd.R_drew)); exact HO_8.out)⟩; have n4_ : Aside0 (w85.heap[gb349]? = some (.cells #[.int .i64 a0_0, .int .i64 a0_1, .int .i64 a0_2, .int .i64 a0_3] 23 (0, 0))) := ⟨by rw [← hq_]; exact (by (with_reducible repeat (first | refine blk_drewN ?_ _ | refine blk_drew ?_ | refine blk_alloc ?_ _)); exact BK349.out)⟩; have n5_ : Aside0 (w85.heap[gb350]? = some (.cells #[.slice A1_0 l1_0.length c1_0, .slice A1_1 l1_1.length c1_1] 26 (0, 0))) := ⟨by rw [← hq_]; exact (by (with_reducible repeat (first | refine blk_drewN ?_ _ | refine blk_drew ?_ | refine blk_alloc ?_ _)); exact BK350.out)⟩; have n6_ : Aside0 (w85.heap[gb373]? = some (.cells #[.slice Ao32 t392.length co32, .slice Ao36 t393.length co36] 33 (0, 0))) := ⟨by rw [← hq_]; exact (by (with_reducible repeat (first | refine blk_drewN ?_ _ | refine blk_drew ?_ | refine blk_alloc ?_ _)); exact BK373.out)⟩; have n7_ : Aside0 (Below w.heap.size w w85) := ⟨by rw [← hq_]; exact (by repeat (first | (with_reducible first | exact HB.out | apply below_alloc | apply pw_below_drewN | apply below_drew1 | refine below_set ?_ GE349.out | refine below_set ?_ GE350.out | refine below_set ?_ GE373.out) | exact HB.out))⟩; clear HO_12 HO_374000 HO_374001 HO_8 BK349 BK350 BK373 HB hq_; have HO_12 := n0_; have HO_374000 := n1_; have HO_374001 := n2_; have HO_8 := n3_; have BK349 := n4_; have BK350 := n5_; have BK373 := n6_; have HB := n7_; clear n0_ n1_ n2_ n3_ n4_ n5_ n6_ n7_))
           have n0_ := Aside0.mk (Kd.R_drew HO_8.out)
           have n1_ := Aside0.mk (Kd.R_drew HO_12.out)
           have n2_ := Aside0.mk (Kd.R_drew HO_374000.out)
           have n3_ := Aside0.mk (Kd.R_drew HO_374001.out)
           have n4_ := Aside0.mk (blk_drew BK349.out)
           have n5_ := Aside0.mk (blk_drew BK350.out)
           have n6_ := Aside0.mk (blk_drew BK373.out)
           have n7_ := Aside0.mk (below_drew1 HB.out)
           clear HO_8
           clear HO_12
           clear HO_374000
           clear HO_374001
           clear BK349
           clear BK350
           clear BK373
           clear HB
           have HO_8 := n0_
           have HO_12 := n1_
           have HO_374000 := n2_
           have HO_374001 := n3_
           have BK349 := n4_
           have BK350 := n5_
           have BK373 := n6_
           have HB := n7_
           clear n0_ n1_ n2_ n3_ n4_ n5_ n6_ n7_
           refine start_ (n := 13) (S := fun w' => w'.cell? ⟨gb349, 0, none⟩ = some (.int .i64 a0_0) ∧ w'.cell? ⟨gb349, 1, none⟩ = some (.int .i64 a0_1) ∧ w'.cell? ⟨gb349, 2, none⟩ = some (.int .i64 a0_2) ∧ w'.cell? ⟨gb349, 3, none⟩ = some (.int .i64 a0_3) ∧ w'.cell? ⟨gb350, 0, none⟩ = some (.slice A1_0 l1_0.length c1_0) ∧ w'.cell? ⟨gb350, 1, none⟩ = some (.slice A1_1 l1_1.length c1_1)) (ds := []) #[false, false, false, false, false, false, false, false, false, false, false, false, false] (by kernel_rfl) rfl rfl ⟨(blk_cell BK349.out 0).trans rfl, (blk_cell BK349.out 1).trans rfl, (blk_cell BK349.out 2).trans rfl, (blk_cell BK349.out 3).trans rfl, (blk_cell BK350.out 0).trans rfl, (blk_cell BK350.out 1).trans rfl⟩ (fun hHeld => ?_); refine with_tabW laws_FnExactMoebiusDigits.tab24 laws_FnExactMoebiusDigits.bits24 (fun HT_ HW_ => ?_)
           generalize w85.drew = w86 at HO_8 HO_12 HO_374000 HO_374001 BK349 BK350 BK373 HB hHeld ⊢
           refine pure_ (i := 4) (N := some 103) (v := ?_) (a' := ?_) #[false, false, false, false, true, false, false, false, false, false, false, false, false] rfl rfl (any_of HT_.out (by kernel_rfl)) (fun _ _ _ h => h) (Or.inl ⟨by rfl, ?_⟩) ?_ ?_
           rotate_left
           ·
            intro w'
            go_simp
            with_reducible rfl
           rotate_left
           ·
            simp only [Act.put, sA_, sB_, sC_, i64_w, i32_w]
            rfl
           refine take_ (i := 0) (N := some 99) (v := ?_) (a' := ?_) #[true, false, false, false, true, false, false, false, false, false, false, false, false] rfl rfl (take_ofW HT_.out HW_.out (by kernel_rfl)) (fun _ _ _ h => h) (Or.inl ⟨by rfl, ?_⟩) hHeld ?_ ?_
           rotate_left
           ·
            rintro w' ⟨s0, s1, s2, s3, s4, s5⟩
            go_simp
            with_reducible rfl
           rotate_left
           ·
            simp only [Act.put, sA_, sB_, sC_, i64_w, i32_w]
            rfl
           refine take_ (i := 2) (N := some 101) (v := ?_) (a' := ?_) #[true, false, true, false, true, false, false, false, false, false, false, false, false] rfl rfl (take_ofW HT_.out HW_.out (by kernel_rfl)) (fun _ _ _ h => h) (Or.inl ⟨by rfl, ?_⟩) hHeld ?_ ?_
           rotate_left
           ·
            rintro w' ⟨s0, s1, s2, s3, s4, s5⟩
            go_simp
            with_reducible rfl
           rotate_left
           ·
            simp only [Act.put, sA_, sB_, sC_, i64_w, i32_w]
            rfl
           refine one_ (i := 1) (N := some 100) #[true, true, true, false, true, false, false, false, false, false, false, false, false] rfl rfl (one_of HT_.out (by kernel_rfl)) (by decide) (fun K hK => ?_)
           refine goes_ Try.func9 (by kernel_rfl) rfl #[.agg #[.int .i64 a0_0, .int .i64 a0_1, .int .i64 a0_2, .int .i64 a0_3]] (by rfl) rfl rfl (by (try simp only [List.map_toArray, List.map_cons, List.map_nil]); first | done | rfl | (simp only [List.length_drop, List.length_take]; rfl)) ?_
           with_reducible refine (laws_toMoebius.calls a0_0 a0_1 a0_2 a0_3 t398 t399 t400 t401 _ A80.out).mono ?_
           rintro e w87 ⟨rfl, hb⟩
           refine ⟨_, rfl, ?_⟩
           have n0_ := Aside0.mk (Kd.R_below (by (with_reducible repeat (first | apply Kd.R_alloc | apply Kd.R_drewN | apply Kd.R_drew)); exact HO_8.out) hb)
           have n1_ := Aside0.mk (Kd.R_below (by (with_reducible repeat (first | apply Kd.R_alloc | apply Kd.R_drewN | apply Kd.R_drew)); exact HO_12.out) hb)
           have n2_ := Aside0.mk (Kd.R_below (by (with_reducible repeat (first | apply Kd.R_alloc | apply Kd.R_drewN | apply Kd.R_drew)); exact HO_374000.out) hb)
           have n3_ := Aside0.mk (Kd.R_below (by (with_reducible repeat (first | apply Kd.R_alloc | apply Kd.R_drewN | apply Kd.R_drew)); exact HO_374001.out) hb)
           have n4_ := Aside0.mk (blk_below (g := gb349) (o := .cells #[.int .i64 a0_0, .int .i64 a0_1, .int .i64 a0_2, .int .i64 a0_3] 23 (0, 0)) (by (with_reducible repeat (first | refine blk_drewN ?_ _ | refine blk_drew ?_ | refine blk_alloc ?_ _)); exact BK349.out) hb)
           have n5_ := Aside0.mk (blk_below (g := gb350) (o := .cells #[.slice A1_0 l1_0.length c1_0, .slice A1_1 l1_1.length c1_1] 26 (0, 0)) (by (with_reducible repeat (first | refine blk_drewN ?_ _ | refine blk_drew ?_ | refine blk_alloc ?_ _)); exact BK350.out) hb)
           have n6_ := Aside0.mk (blk_below (g := gb373) (o := .cells #[.slice Ao32 t392.length co32, .slice Ao36 t393.length co36] 33 (0, 0)) (by (with_reducible repeat (first | refine blk_drewN ?_ _ | refine blk_drew ?_ | refine blk_alloc ?_ _)); exact BK373.out) hb)
           have n7_ := Aside0.mk (below_step (by repeat (first | (with_reducible first | exact HB.out | apply below_alloc | apply pw_below_drewN | apply below_drew1 | refine below_set ?_ GE349.out | refine below_set ?_ GE350.out | refine below_set ?_ GE373.out) | exact HB.out)) hb)
           clear HO_8
           clear HO_12
           clear HO_374000
           clear HO_374001
           clear BK349
           clear BK350
           clear BK373
           clear HB
           have HO_8 := n0_
           have HO_12 := n1_
           have HO_374000 := n2_
           have HO_374001 := n3_
           have BK349 := n4_
           have BK350 := n5_
           have BK373 := n6_
           have HB := n7_
           clear n0_ n1_ n2_ n3_ n4_ n5_ n6_ n7_
           (try clear hb)
           (try clear hb2)
           (try clear hk)
           (try clear hi)
           refine hK.out _ _ ⟨(blk_cell BK349.out 0).trans rfl, (blk_cell BK349.out 1).trans rfl, (blk_cell BK349.out 2).trans rfl, (blk_cell BK349.out 3).trans rfl, (blk_cell BK350.out 0).trans rfl, (blk_cell BK350.out 1).trans rfl⟩ (fun hHeld => ?_)
           clear hK K
           refine norm_ (a' := ?_) ?_ ?_
           rotate_left
           ·
            show Act.put _ (some 100) _ = _
            simp only [Act.put, sA_, sB_, sC_, i64_w, i32_w]
            rfl
           refine one_ (i := 3) (N := some 102) #[true, true, true, true, true, false, false, false, false, false, false, false, false] rfl rfl (one_of HT_.out (by kernel_rfl)) (by decide) (fun K hK => ?_)
           refine goes_ Try.func10 (by kernel_rfl) rfl #[.agg #[.slice A1_0 l1_0.length c1_0, .slice A1_1 l1_1.length c1_1]] (by rfl) rfl rfl (by (try simp only [List.map_toArray, List.map_cons, List.map_nil]); first | done | rfl | (simp only [List.length_drop, List.length_take]; rfl)) ?_
           with_reducible refine (laws_toStream.calls kj54 _ _ l1_0 _ _ l1_1 t402 t405 _ ?side1 ?side2 ?side3 ?side4 A81.out).mono ?_
           (case side1 => repeat (first | exact (Kd.C_below HR1_0.out HB.out) | (with_reducible refine Kd.C_alloc ?_ _) | (with_reducible refine Kd.C_drewN ?_ _) | (with_reducible refine Kd.C_drew ?_)))
           (case side2 => exact HC1_0.out)
           (case side3 => repeat (first | exact (Kd.C_below HR1_1.out HB.out) | (with_reducible refine Kd.C_alloc ?_ _) | (with_reducible refine Kd.C_drewN ?_ _) | (with_reducible refine Kd.C_drew ?_)))
           (case side4 => exact HC1_1.out)
           rintro e w88 ⟨v403, v406, rfl, ho0, ho1, hb⟩
           refine ⟨_, rfl, ?_⟩
           have n0_ := Aside0.mk (Kd.R_mono (Kd.R_told (Kd.R_told (Kd.R_old (by (with_reducible repeat (first | apply Kd.R_alloc | apply Kd.R_drewN | apply Kd.R_drew)); exact HO_8.out) hb) (Kd.R_base ho0)) (Kd.R_base ho1)) (fun _ h_ => h_.1))
           have n1_ := Aside0.mk (Kd.R_mono (Kd.R_told (Kd.R_told (Kd.R_old (by (with_reducible repeat (first | apply Kd.R_alloc | apply Kd.R_drewN | apply Kd.R_drew)); exact HO_12.out) hb) (Kd.R_base ho0)) (Kd.R_base ho1)) (fun _ h_ => h_.1))
           have n2_ := Aside0.mk (Kd.R_mono (Kd.R_told (Kd.R_told (Kd.R_old (by (with_reducible repeat (first | apply Kd.R_alloc | apply Kd.R_drewN | apply Kd.R_drew)); exact HO_374000.out) hb) (Kd.R_base ho0)) (Kd.R_base ho1)) (fun _ h_ => h_.1))
           have n3_ := Aside0.mk (Kd.R_mono (Kd.R_told (Kd.R_told (Kd.R_old (by (with_reducible repeat (first | apply Kd.R_alloc | apply Kd.R_drewN | apply Kd.R_drew)); exact HO_374001.out) hb) (Kd.R_base ho0)) (Kd.R_base ho1)) (fun _ h_ => h_.1))
           have n4_ := Aside0.mk (Kd.R_lower (Kd.R_new' (Kd.R_new' (Kd.R_new' (Kd.R_new' ho0 (Kd.R_lt (by (with_reducible repeat (first | apply Kd.R_alloc | apply Kd.R_drewN | apply Kd.R_drew)); exact HO_8.out))) (Kd.R_lt (by (with_reducible repeat (first | apply Kd.R_alloc | apply Kd.R_drewN | apply Kd.R_drew)); exact HO_12.out))) (Kd.R_lt (by (with_reducible repeat (first | apply Kd.R_alloc | apply Kd.R_drewN | apply Kd.R_drew)); exact HO_374000.out))) (Kd.R_lt (by (with_reducible repeat (first | apply Kd.R_alloc | apply Kd.R_drewN | apply Kd.R_drew)); exact HO_374001.out))) (below_size (by repeat (first | (with_reducible first | exact HB.out | apply below_alloc | apply pw_below_drewN | apply below_drew1 | refine below_set ?_ GE349.out | refine below_set ?_ GE350.out | refine below_set ?_ GE373.out) | exact HB.out))))
           have n5_ := Aside0.mk (Kd.R_lower (Kd.R_new' (Kd.R_new' (Kd.R_new' (Kd.R_new' ho1 (Kd.R_lt (by (with_reducible repeat (first | apply Kd.R_alloc | apply Kd.R_drewN | apply Kd.R_drew)); exact HO_8.out))) (Kd.R_lt (by (with_reducible repeat (first | apply Kd.R_alloc | apply Kd.R_drewN | apply Kd.R_drew)); exact HO_12.out))) (Kd.R_lt (by (with_reducible repeat (first | apply Kd.R_alloc | apply Kd.R_drewN | apply Kd.R_drew)); exact HO_374000.out))) (Kd.R_lt (by (with_reducible repeat (first | apply Kd.R_alloc | apply Kd.R_drewN | apply Kd.R_drew)); exact HO_374001.out))) (below_size (by repeat (first | (with_reducible first | exact HB.out | apply below_alloc | apply pw_below_drewN | apply below_drew1 | refine below_set ?_ GE349.out | refine below_set ?_ GE350.out | refine below_set ?_ GE373.out) | exact HB.out))))
           have n6_ := Aside0.mk (blk_below (g := gb349) (o := .cells #[.int .i64 a0_0, .int .i64 a0_1, .int .i64 a0_2, .int .i64 a0_3] 23 (0, 0)) (by (with_reducible repeat (first | refine blk_drewN ?_ _ | refine blk_drew ?_ | refine blk_alloc ?_ _)); exact BK349.out) hb)
           have n7_ := Aside0.mk (blk_below (g := gb350) (o := .cells #[.slice A1_0 l1_0.length c1_0, .slice A1_1 l1_1.length c1_1] 26 (0, 0)) (by (with_reducible repeat (first | refine blk_drewN ?_ _ | refine blk_drew ?_ | refine blk_alloc ?_ _)); exact BK350.out) hb)
           have n8_ := Aside0.mk (blk_below (g := gb373) (o := .cells #[.slice Ao32 t392.length co32, .slice Ao36 t393.length co36] 33 (0, 0)) (by (with_reducible repeat (first | refine blk_drewN ?_ _ | refine blk_drew ?_ | refine blk_alloc ?_ _)); exact BK373.out) hb)
           have n9_ := Aside0.mk (below_step (by repeat (first | (with_reducible first | exact HB.out | apply below_alloc | apply pw_below_drewN | apply below_drew1 | refine below_set ?_ GE349.out | refine below_set ?_ GE350.out | refine below_set ?_ GE373.out) | exact HB.out)) hb)
           clear HO_8
           clear HO_12
           clear HO_374000
           clear HO_374001
           clear BK349
           clear BK350
           clear BK373
           clear HB
           have HO_8 := n0_
           have HO_12 := n1_
           have HO_374000 := n2_
           have HO_374001 := n3_
           have HO404 := n4_
           have HO407 := n5_
           have BK349 := n6_
           have BK350 := n7_
           have BK373 := n8_
           have HB := n9_
           clear n0_ n1_ n2_ n3_ n4_ n5_ n6_ n7_ n8_ n9_
           (try clear hb)
           (try clear hb2)
           (try clear hk)
           (try clear hi)
           (try clear ho0)
           (try clear ho1)
           obtain ⟨Ao89, co89, eo89⟩ := Kd.R_slice HO404.out
           (first | subst eo89 | (injection eo89 with f1_ f2_ f3_; have f4_ := f1_.symm; have f5_ := f3_.symm; clear f1_ f2_ f3_; subst f4_; subst f5_))
           obtain ⟨Ao90, co90, eo90⟩ := Kd.R_slice HO407.out
           (first | subst eo90 | (injection eo90 with f1_ f2_ f3_; have f4_ := f1_.symm; have f5_ := f3_.symm; clear f1_ f2_ f3_; subst f4_; subst f5_))
           refine hK.out _ _ ⟨(blk_cell BK349.out 0).trans rfl, (blk_cell BK349.out 1).trans rfl, (blk_cell BK349.out 2).trans rfl, (blk_cell BK349.out 3).trans rfl, (blk_cell BK350.out 0).trans rfl, (blk_cell BK350.out 1).trans rfl⟩ (fun hHeld => ?_)
           clear hK K
           refine norm_ (a' := ?_) ?_ ?_
           rotate_left
           ·
            show Act.put _ (some 102) _ = _
            simp only [Act.put, sA_, sB_, sC_, i64_w, i32_w]
            rfl
           refine one_ (i := 5) (N := some 104) #[true, true, true, true, true, true, false, false, false, false, false, false, false] rfl rfl (one_of HT_.out (by kernel_rfl)) (by decide) (fun K hK => ?_)
           refine goes_ Try.func18 (by kernel_rfl) rfl #[.agg #[.int .i64 t398, .int .i64 t399, .int .i64 t400, .int .i64 t401], .agg #[.slice Ao89 t402.length co89, .slice Ao90 t405.length co90], .int .i64 a2] (by rfl) rfl rfl (by (try simp only [List.map_toArray, List.map_cons, List.map_nil]); first | done | rfl | (simp only [List.length_drop, List.length_take]; rfl)) ?_
           with_reducible refine (impl_MoebiusDigits.calls kj54 t398 t399 t400 t401 _ _ t402 _ _ t405 a2 t408 t411 t412 _ ?side1 ?side2 ?side3 ?side4 A82.out).mono ?_
           (case side1 => repeat (first | exact (Kd.R_reads' HO404.out).2.2 | (with_reducible refine Kd.C_alloc ?_ _) | (with_reducible refine Kd.C_drewN ?_ _) | (with_reducible refine Kd.C_drew ?_)))
           (case side2 => exact (Kd.R_reads' HO404.out).2.1)
           (case side3 => repeat (first | exact (Kd.R_reads' HO407.out).2.2 | (with_reducible refine Kd.C_alloc ?_ _) | (with_reducible refine Kd.C_drewN ?_ _) | (with_reducible refine Kd.C_drew ?_)))
           (case side4 => exact (Kd.R_reads' HO407.out).2.1)
           rintro e w91 ⟨v409, rfl, ho0, hb⟩
           refine ⟨_, rfl, ?_⟩
           have n0_ := Aside0.mk (Kd.R_elder' (by (with_reducible repeat (first | apply Kd.R_alloc | apply Kd.R_drewN | apply Kd.R_drew)); exact HO_8.out) (Kd.R_base ho0) hb)
           have n1_ := Aside0.mk (Kd.R_elder' (by (with_reducible repeat (first | apply Kd.R_alloc | apply Kd.R_drewN | apply Kd.R_drew)); exact HO_12.out) (Kd.R_base ho0) hb)
           have n2_ := Aside0.mk (Kd.R_elder' (by (with_reducible repeat (first | apply Kd.R_alloc | apply Kd.R_drewN | apply Kd.R_drew)); exact HO_374000.out) (Kd.R_base ho0) hb)
           have n3_ := Aside0.mk (Kd.R_elder' (by (with_reducible repeat (first | apply Kd.R_alloc | apply Kd.R_drewN | apply Kd.R_drew)); exact HO_374001.out) (Kd.R_base ho0) hb)
           have n4_ := Aside0.mk (Kd.R_elder' (by (with_reducible repeat (first | apply Kd.R_alloc | apply Kd.R_drewN | apply Kd.R_drew)); exact HO404.out) (Kd.R_base ho0) hb)
           have n5_ := Aside0.mk (Kd.R_elder' (by (with_reducible repeat (first | apply Kd.R_alloc | apply Kd.R_drewN | apply Kd.R_drew)); exact HO407.out) (Kd.R_base ho0) hb)
           have n6_ := Aside0.mk (Kd.R_lower (Kd.R_new' (Kd.R_new' (Kd.R_new' (Kd.R_new' (Kd.R_new' (Kd.R_new' ho0 (Kd.R_lt (by (with_reducible repeat (first | apply Kd.R_alloc | apply Kd.R_drewN | apply Kd.R_drew)); exact HO_8.out))) (Kd.R_lt (by (with_reducible repeat (first | apply Kd.R_alloc | apply Kd.R_drewN | apply Kd.R_drew)); exact HO_12.out))) (Kd.R_lt (by (with_reducible repeat (first | apply Kd.R_alloc | apply Kd.R_drewN | apply Kd.R_drew)); exact HO_374000.out))) (Kd.R_lt (by (with_reducible repeat (first | apply Kd.R_alloc | apply Kd.R_drewN | apply Kd.R_drew)); exact HO_374001.out))) (Kd.R_lt (by (with_reducible repeat (first | apply Kd.R_alloc | apply Kd.R_drewN | apply Kd.R_drew)); exact HO404.out))) (Kd.R_lt (by (with_reducible repeat (first | apply Kd.R_alloc | apply Kd.R_drewN | apply Kd.R_drew)); exact HO407.out))) (below_size (by repeat (first | (with_reducible first | exact HB.out | apply below_alloc | apply pw_below_drewN | apply below_drew1 | refine below_set ?_ GE349.out | refine below_set ?_ GE350.out | refine below_set ?_ GE373.out) | exact HB.out))))
           have n7_ := Aside0.mk (blk_below (g := gb349) (o := .cells #[.int .i64 a0_0, .int .i64 a0_1, .int .i64 a0_2, .int .i64 a0_3] 23 (0, 0)) (by (with_reducible repeat (first | refine blk_drewN ?_ _ | refine blk_drew ?_ | refine blk_alloc ?_ _)); exact BK349.out) hb)
           have n8_ := Aside0.mk (blk_below (g := gb350) (o := .cells #[.slice A1_0 l1_0.length c1_0, .slice A1_1 l1_1.length c1_1] 26 (0, 0)) (by (with_reducible repeat (first | refine blk_drewN ?_ _ | refine blk_drew ?_ | refine blk_alloc ?_ _)); exact BK350.out) hb)
           have n9_ := Aside0.mk (blk_below (g := gb373) (o := .cells #[.slice Ao32 t392.length co32, .slice Ao36 t393.length co36] 33 (0, 0)) (by (with_reducible repeat (first | refine blk_drewN ?_ _ | refine blk_drew ?_ | refine blk_alloc ?_ _)); exact BK373.out) hb)
           have n10_ := Aside0.mk (below_step (by repeat (first | (with_reducible first | exact HB.out | apply below_alloc | apply pw_below_drewN | apply below_drew1 | refine below_set ?_ GE349.out | refine below_set ?_ GE350.out | refine below_set ?_ GE373.out) | exact HB.out)) hb)
           clear HO_8
           clear HO_12
           clear HO_374000
           clear HO_374001
           clear HO404
           clear HO407
           clear BK349
           clear BK350
           clear BK373
           clear HB
           have HO_8 := n0_
           have HO_12 := n1_
           have HO_374000 := n2_
           have HO_374001 := n3_
           have HO404 := n4_
           have HO407 := n5_
           have HO410 := n6_
           have BK349 := n7_
           have BK350 := n8_
           have BK373 := n9_
           have HB := n10_
           clear n0_ n1_ n2_ n3_ n4_ n5_ n6_ n7_ n8_ n9_ n10_
           (try clear hb)
           (try clear hb2)
           (try clear hk)
           (try clear hi)
           (try clear ho0)
           refine hK.out _ _ ⟨(blk_cell BK349.out 0).trans rfl, (blk_cell BK349.out 1).trans rfl, (blk_cell BK349.out 2).trans rfl, (blk_cell BK349.out 3).trans rfl, (blk_cell BK350.out 0).trans rfl, (blk_cell BK350.out 1).trans rfl⟩ (fun hHeld => ?_)
           clear hK K
           refine norm_ (a' := ?_) ?_ ?_
           rotate_left
           ·
            show Act.put _ (some 104) _ = _
            simp only [Act.put, sA_, sB_, sC_, i64_w, i32_w]
            rfl
           refine pure_ (i := 6) (N := some 98) (v := ?_) (a' := ?_) #[true, true, true, true, true, true, true, false, false, false, false, false, false] rfl rfl (any_of HT_.out (by kernel_rfl)) (fun _ _ _ h => h) (Or.inl ⟨by rfl, ?_⟩) ?_ ?_
           rotate_left
           ·
            intro w'
            go_simp
            with_reducible rfl
           rotate_left
           ·
            simp only [Act.put, sA_, sB_, sC_, i64_w, i32_w]
            rfl
           refine pure_ (i := 7) (N := some 105) (v := ?_) (a' := ?_) #[true, true, true, true, true, true, true, true, false, false, false, false, false] rfl rfl (any_of HT_.out (by kernel_rfl)) (fun _ _ _ h => h) (Or.inl ⟨by rfl, ?_⟩) ?_ ?_
           rotate_left
           ·
            intro w'
            go_simp
            with_reducible rfl
           rotate_left
           ·
            simp only [Act.put, sA_, sB_, sC_, i64_w, i32_w]
            rfl
           refine pure_ (i := 8) (N := some 106) (v := ?_) (a' := ?_) #[true, true, true, true, true, true, true, true, true, false, false, false, false] rfl rfl (any_of HT_.out (by kernel_rfl)) (fun _ _ _ h => h) (Or.inl ⟨by rfl, ?_⟩) ?_ ?_
           rotate_left
           ·
            intro w'
            go_simp
            with_reducible rfl
           rotate_left
           ·
            simp only [Act.put, sA_, sB_, sC_, i64_w, i32_w]
            rfl
           refine pure_ (i := 9) (N := some 107) (v := ?_) (a' := ?_) #[true, true, true, true, true, true, true, true, true, true, false, false, false] rfl rfl (any_of HT_.out (by kernel_rfl)) (fun _ _ _ h => h) (Or.inl ⟨by rfl, ?_⟩) ?_ ?_
           rotate_left
           ·
            intro w'
            go_simp
            with_reducible rfl
           rotate_left
           ·
            simp only [Act.put, sA_, sB_, sC_, i64_w, i32_w]
            rfl
           refine pure_ (i := 10) (N := some 18) (v := ?_) (a' := ?_) #[true, true, true, true, true, true, true, true, true, true, true, false, false] rfl rfl (any_of HT_.out (by kernel_rfl)) (fun _ _ _ h => h) (Or.inl ⟨by rfl, ?_⟩) ?_ ?_
           rotate_left
           ·
            intro w'
            go_simp
            with_reducible rfl
           rotate_left
           ·
            simp only [Act.put, sA_, sB_, sC_, i64_w, i32_w]
            rfl
           refine pure_ (i := 11) (N := some 19) (v := ?_) (a' := ?_) #[true, true, true, true, true, true, true, true, true, true, true, true, false] rfl rfl (any_of HT_.out (by kernel_rfl)) (fun _ _ _ h => h) (Or.inl ⟨by rfl, ?_⟩) ?_ ?_
           rotate_left
           ·
            intro w'
            go_simp
            with_reducible rfl
           rotate_left
           ·
            simp only [Act.put, sA_, sB_, sC_, i64_w, i32_w]
            rfl
           refine pure_ (i := 12) (N := some 20) (v := ?_) (a' := ?_) #[true, true, true, true, true, true, true, true, true, true, true, true, true] rfl rfl (any_of HT_.out (by kernel_rfl)) (fun _ _ _ h => h) (Or.inl ⟨by rfl, ?_⟩) ?_ ?_
           rotate_left
           ·
            intro w'
            go_simp
            with_reducible rfl
           rotate_left
           ·
            simp only [Act.put, sA_, sB_, sC_, i64_w, i32_w]
            rfl
           refine done_ (done_of HT_.out (by kernel_rfl)) ?_
           go_upto_region 25 with (fail)
           go_cut [121] (fun v121 wc => ∃ (kq : Nat) (x121_82 : Bool), v121 = .bool x121_82 ∧ Aside0 (laws_FnExactMoebiusDigits.j2 kq t396 t395 x121_82 = some true) ∧ Aside0 (kq ≤ kj54) ∧ Aside0 (Kd.R (Kd.int .i8) 49 wc w.heap.size (fun k_ => some k_ ≠ ((.slice Ao32 t392.length co32) : Value).ownBlock ∧ some k_ ≠ ((.slice Ao36 t393.length co36) : Value).ownBlock) (.slice Ao84 t378.length co84) t396) ∧ Aside0 (Kd.R (Kd.int .i8) 49 wc w.heap.size (fun k_ => some k_ ≠ ((.slice Ao84 t378.length co84) : Value).ownBlock ∧ some k_ ≠ ((.slice Ao36 t393.length co36) : Value).ownBlock) (.slice Ao32 t392.length co32) t392) ∧ Aside0 (Kd.R (Kd.int .i8) 49 wc w.heap.size (fun k_ => some k_ ≠ ((.slice Ao84 t378.length co84) : Value).ownBlock ∧ some k_ ≠ ((.slice Ao32 t392.length co32) : Value).ownBlock) (.slice Ao36 t393.length co36) t393) ∧ Aside0 (wc.heap[gb349]? = some (.cells #[.int .i64 a0_0, .int .i64 a0_1, .int .i64 a0_2, .int .i64 a0_3] 23 (0, 0))) ∧ Aside0 (wc.heap[gb350]? = some (.cells #[(.slice A1_0 l1_0.length c1_0), (.slice A1_1 l1_1.length c1_1)] 26 (0, 0))) ∧ Aside0 (wc.heap[gb373]? = some (.cells #[(.slice Ao32 t392.length co32), (.slice Ao36 t393.length co36)] 33 (0, 0))) ∧ Aside0 (Below w.heap.size w wc))
           case first =>
            have H := HC83.out
            clear HC83
            replace H := Option.bind_eq_some_iff.mp H
            obtain ⟨t413, A920, H⟩ := H
            replace H : (if t413 = true then (if t411 = t365 then (laws_FnExactMoebiusDigits.j2 kj54 t396 t395 (t412 != t366)) else (laws_FnExactMoebiusDigits.j2 kj54 t396 t395 true)) else (laws_FnExactMoebiusDigits.j2 kj54 t396 t395 true)) = some true := H
            have A92 := Aside0.mk A920
            clear A920
            by_cases c93 : t413 = true
            ·
             subst c93
             have H1 : (if t411 = t365 then (laws_FnExactMoebiusDigits.j2 kj54 t396 t395 (t412 != t366)) else (laws_FnExactMoebiusDigits.j2 kj54 t396 t395 true)) = some true := by first | (rw [if_pos rfl] at H; exact H) | rfl
             clear H
             have H := H1
             clear H1
             by_cases c94 : t411 = t365
             ·
              rw [if_pos c94] at H
              have c94b0 : (t411 == t365) = true := beq_iff_eq.mpr c94
              have c94b1 : (t411 != t365) = false := bne_eq_false_iff_eq.mpr c94
              clear c94
              (first | rw [c94b0] | (simp only [i64_w, i32_w]; rw [c94b0]) | skip)
              have H' := Aside0.mk H
              clear H
              obtain ⟨Ao95, co95, eo95⟩ := Kd.R_slice HO410.out
              subst eo95
              obtain ⟨Ao96, co96, eo96⟩ := Kd.R_slice HO_8.out
              subst eo96
              go_wp2_with (first | ((with_reducible refine gate_callee (f := 19) rfl ?_); refine goesL_ (some 110) rfl rfl Try.func19 (by kernel_rfl) rfl #[.slice Ao95 t408.length co95, .slice Ao96 t362.length co96] rfl (by (try simp only [List.map_toArray, List.map_cons, List.map_nil]); first | done | rfl | (simp only [List.length_drop, List.length_take]; rfl)) ?_; (with_reducible refine (laws_eqInt8S.calls kj54 _ _ t408 _ _ t362 true _ ?side1 ?side2 ?side3 ?side4 A92.out).mono ?_); (case side1 => repeat (first | exact (Kd.R_reads' HO410.out).2.2 | (with_reducible refine Kd.C_alloc ?_ _) | (with_reducible refine Kd.C_drewN ?_ _) | (with_reducible refine Kd.C_drew ?_))); (case side2 => exact (Kd.R_reads' HO410.out).2.1); (case side3 => repeat (first | exact (Kd.R_reads' HO_8.out).2.2 | (with_reducible refine Kd.C_alloc ?_ _) | (with_reducible refine Kd.C_drewN ?_ _) | (with_reducible refine Kd.C_drew ?_))); (case side4 => exact (Kd.R_reads' HO_8.out).2.1); rintro e w' ⟨rfl, ⟨nd, rfl⟩⟩; refine ⟨_, rfl, ?_⟩))
              go_meet
              case rel => exact ⟨_, ((t412 != t366)), (by first | rfl | (simp; done) | (simp [*]; done) | (simp [isE_]; done)), H', ⟨by have := HJ16.out; have := HJ54.out; first | omega | exact Nat.le_refl _⟩, ⟨by (try simp only [hl374000_54]); (try simp only [hl374001_54]); (with_reducible repeat (first | apply Kd.R_alloc | apply Kd.R_drewN | apply Kd.R_drew)); exact Kd.R_mono HO_12.out (fun _ hk => ⟨hk.1.1.1.2.1, hk.1.1.1.2.2⟩)⟩, ⟨by (try simp only [hl374000_54]); (try simp only [hl374001_54]); (with_reducible repeat (first | apply Kd.R_alloc | apply Kd.R_drewN | apply Kd.R_drew)); exact Kd.R_mono HO_374000.out (fun _ hk => ⟨hk.1.1.1.2.1, hk.1.1.1.2.2⟩)⟩, ⟨by (try simp only [hl374000_54]); (try simp only [hl374001_54]); (with_reducible repeat (first | apply Kd.R_alloc | apply Kd.R_drewN | apply Kd.R_drew)); exact Kd.R_mono HO_374001.out (fun _ hk => ⟨hk.1.1.1.2.1, hk.1.1.1.2.2⟩)⟩, ⟨by (try simp only [hl374000_54]); (try simp only [hl374001_54]); (with_reducible repeat (first | refine blk_drewN ?_ _ | refine blk_drew ?_ | refine blk_alloc ?_ _)); exact BK349.out⟩, ⟨by (try simp only [hl374000_54]); (try simp only [hl374001_54]); (with_reducible repeat (first | refine blk_drewN ?_ _ | refine blk_drew ?_ | refine blk_alloc ?_ _)); exact BK350.out⟩, ⟨by (try simp only [hl374000_54]); (try simp only [hl374001_54]); (with_reducible repeat (first | refine blk_drewN ?_ _ | refine blk_drew ?_ | refine blk_alloc ?_ _)); exact BK373.out⟩, ⟨by repeat (first | (with_reducible first | exact HB.out | apply below_alloc | apply pw_below_drewN | apply below_drew1 | refine below_set ?_ GE349.out | refine below_set ?_ GE350.out | refine below_set ?_ GE373.out) | exact HB.out)⟩⟩
             ·
              rw [if_neg c94] at H
              have c94b0 : (t411 == t365) = false := beq_eq_false_iff_ne.mpr c94
              have c94b1 : (t411 != t365) = true := bne_iff_ne.mpr c94
              (first | rw [c94b0] | (simp only [i64_w, i32_w]; rw [c94b0]) | skip)
              have H' := Aside0.mk H
              clear H
              obtain ⟨Ao97, co97, eo97⟩ := Kd.R_slice HO410.out
              subst eo97
              obtain ⟨Ao98, co98, eo98⟩ := Kd.R_slice HO_8.out
              subst eo98
              go_wp2_with (first | ((with_reducible refine gate_callee (f := 19) rfl ?_); refine goesL_ (some 110) rfl rfl Try.func19 (by kernel_rfl) rfl #[.slice Ao97 t408.length co97, .slice Ao98 t362.length co98] rfl (by (try simp only [List.map_toArray, List.map_cons, List.map_nil]); first | done | rfl | (simp only [List.length_drop, List.length_take]; rfl)) ?_; (with_reducible refine (laws_eqInt8S.calls kj54 _ _ t408 _ _ t362 true _ ?side1 ?side2 ?side3 ?side4 A92.out).mono ?_); (case side1 => repeat (first | exact (Kd.R_reads' HO410.out).2.2 | (with_reducible refine Kd.C_alloc ?_ _) | (with_reducible refine Kd.C_drewN ?_ _) | (with_reducible refine Kd.C_drew ?_))); (case side2 => exact (Kd.R_reads' HO410.out).2.1); (case side3 => repeat (first | exact (Kd.R_reads' HO_8.out).2.2 | (with_reducible refine Kd.C_alloc ?_ _) | (with_reducible refine Kd.C_drewN ?_ _) | (with_reducible refine Kd.C_drew ?_))); (case side4 => exact (Kd.R_reads' HO_8.out).2.1); rintro e w' ⟨rfl, ⟨nd, rfl⟩⟩; refine ⟨_, rfl, ?_⟩))
              go_meet
              case rel => exact ⟨_, (true), (by first | rfl | (simp; done) | (simp [*]; done) | (simp [isE_]; done)), H', ⟨by have := HJ16.out; have := HJ54.out; first | omega | exact Nat.le_refl _⟩, ⟨by (try simp only [hl374000_54]); (try simp only [hl374001_54]); (with_reducible repeat (first | apply Kd.R_alloc | apply Kd.R_drewN | apply Kd.R_drew)); exact Kd.R_mono HO_12.out (fun _ hk => ⟨hk.1.1.1.2.1, hk.1.1.1.2.2⟩)⟩, ⟨by (try simp only [hl374000_54]); (try simp only [hl374001_54]); (with_reducible repeat (first | apply Kd.R_alloc | apply Kd.R_drewN | apply Kd.R_drew)); exact Kd.R_mono HO_374000.out (fun _ hk => ⟨hk.1.1.1.2.1, hk.1.1.1.2.2⟩)⟩, ⟨by (try simp only [hl374000_54]); (try simp only [hl374001_54]); (with_reducible repeat (first | apply Kd.R_alloc | apply Kd.R_drewN | apply Kd.R_drew)); exact Kd.R_mono HO_374001.out (fun _ hk => ⟨hk.1.1.1.2.1, hk.1.1.1.2.2⟩)⟩, ⟨by (try simp only [hl374000_54]); (try simp only [hl374001_54]); (with_reducible repeat (first | refine blk_drewN ?_ _ | refine blk_drew ?_ | refine blk_alloc ?_ _)); exact BK349.out⟩, ⟨by (try simp only [hl374000_54]); (try simp only [hl374001_54]); (with_reducible repeat (first | refine blk_drewN ?_ _ | refine blk_drew ?_ | refine blk_alloc ?_ _)); exact BK350.out⟩, ⟨by (try simp only [hl374000_54]); (try simp only [hl374001_54]); (with_reducible repeat (first | refine blk_drewN ?_ _ | refine blk_drew ?_ | refine blk_alloc ?_ _)); exact BK373.out⟩, ⟨by repeat (first | (with_reducible first | exact HB.out | apply below_alloc | apply pw_below_drewN | apply below_drew1 | refine below_set ?_ GE349.out | refine below_set ?_ GE350.out | refine below_set ?_ GE373.out) | exact HB.out)⟩⟩
            ·
             replace c93 := Bool.eq_false_iff.mpr c93
             subst c93
             have H1 : (laws_FnExactMoebiusDigits.j2 kj54 t396 t395 true) = some true := by first | (rw [if_neg (show ¬ (false = true) by decide)] at H; exact H) | rfl
             clear H
             have H := H1
             clear H1
             have H' := Aside0.mk H
             clear H
             obtain ⟨Ao99, co99, eo99⟩ := Kd.R_slice HO410.out
             subst eo99
             obtain ⟨Ao100, co100, eo100⟩ := Kd.R_slice HO_8.out
             subst eo100
             go_wp2_with (first | ((with_reducible refine gate_callee (f := 19) rfl ?_); refine goesL_ (some 110) rfl rfl Try.func19 (by kernel_rfl) rfl #[.slice Ao99 t408.length co99, .slice Ao100 t362.length co100] rfl (by (try simp only [List.map_toArray, List.map_cons, List.map_nil]); first | done | rfl | (simp only [List.length_drop, List.length_take]; rfl)) ?_; (with_reducible refine (laws_eqInt8S.calls kj54 _ _ t408 _ _ t362 false _ ?side1 ?side2 ?side3 ?side4 A92.out).mono ?_); (case side1 => repeat (first | exact (Kd.R_reads' HO410.out).2.2 | (with_reducible refine Kd.C_alloc ?_ _) | (with_reducible refine Kd.C_drewN ?_ _) | (with_reducible refine Kd.C_drew ?_))); (case side2 => exact (Kd.R_reads' HO410.out).2.1); (case side3 => repeat (first | exact (Kd.R_reads' HO_8.out).2.2 | (with_reducible refine Kd.C_alloc ?_ _) | (with_reducible refine Kd.C_drewN ?_ _) | (with_reducible refine Kd.C_drew ?_))); (case side4 => exact (Kd.R_reads' HO_8.out).2.1); rintro e w' ⟨rfl, ⟨nd, rfl⟩⟩; refine ⟨_, rfl, ?_⟩))
             go_meet
             case rel => exact ⟨_, (true), (by first | rfl | (simp; done) | (simp [*]; done) | (simp [isE_]; done)), H', ⟨by have := HJ16.out; have := HJ54.out; first | omega | exact Nat.le_refl _⟩, ⟨by (try simp only [hl374000_54]); (try simp only [hl374001_54]); (with_reducible repeat (first | apply Kd.R_alloc | apply Kd.R_drewN | apply Kd.R_drew)); exact Kd.R_mono HO_12.out (fun _ hk => ⟨hk.1.1.1.2.1, hk.1.1.1.2.2⟩)⟩, ⟨by (try simp only [hl374000_54]); (try simp only [hl374001_54]); (with_reducible repeat (first | apply Kd.R_alloc | apply Kd.R_drewN | apply Kd.R_drew)); exact Kd.R_mono HO_374000.out (fun _ hk => ⟨hk.1.1.1.2.1, hk.1.1.1.2.2⟩)⟩, ⟨by (try simp only [hl374000_54]); (try simp only [hl374001_54]); (with_reducible repeat (first | apply Kd.R_alloc | apply Kd.R_drewN | apply Kd.R_drew)); exact Kd.R_mono HO_374001.out (fun _ hk => ⟨hk.1.1.1.2.1, hk.1.1.1.2.2⟩)⟩, ⟨by (try simp only [hl374000_54]); (try simp only [hl374001_54]); (with_reducible repeat (first | refine blk_drewN ?_ _ | refine blk_drew ?_ | refine blk_alloc ?_ _)); exact BK349.out⟩, ⟨by (try simp only [hl374000_54]); (try simp only [hl374001_54]); (with_reducible repeat (first | refine blk_drewN ?_ _ | refine blk_drew ?_ | refine blk_alloc ?_ _)); exact BK350.out⟩, ⟨by (try simp only [hl374000_54]); (try simp only [hl374001_54]); (with_reducible repeat (first | refine blk_drewN ?_ _ | refine blk_drew ?_ | refine blk_alloc ?_ _)); exact BK373.out⟩, ⟨by repeat (first | (with_reducible first | exact HB.out | apply below_alloc | apply pw_below_drewN | apply below_drew1 | refine below_set ?_ GE349.out | refine below_set ?_ GE350.out | refine below_set ?_ GE373.out) | exact HB.out)⟩⟩
           case rest =>
            clear HC83
            try clear c1
            try clear c2
            try clear p2
            try clear c3
            try clear c4
            try clear c5
            try clear c5b0
            try clear c6
            try clear c7
            try clear c8
            try clear c9
            try clear c10
            try clear c13
            try clear c14
            try clear c17
            try clear c18
            try clear c19
            try clear c20
            try clear c21
            try clear c33
            try clear c34
            try clear c42
            try clear c43
            try clear c43b0
            try clear c43b1
            try clear c50
            try clear c53
            try clear c61
            try clear c62
            try clear c65
            try clear c65b0
            try clear c67
            try clear c68
            try clear c68b0
            try clear c68b1
            try clear c75
            try clear c78
            try clear c78b0
            try clear c79
            try clear c79b0
            try clear c79b1
            try clear c93
            try clear c94
            try clear c94b0
            try clear c94b1
            try clear hcz21_0
            try clear hcz21_1
            try clear hcz29_0
            try clear hcz29_1
            try clear hcz35_0
            try clear hcz35_1
            try clear hcz63_0
            try clear hcz63_1
            try clear hcz9_0
            try clear hcz9_1
            try clear hfz21_0
            try clear hfz21_1
            try clear hfz29_0
            try clear hfz29_1
            try clear hfz35_0
            try clear hfz35_1
            try clear hfz63_0
            try clear hfz63_1
            try clear hfz9_0
            try clear hfz9_1
            try clear p2
            obtain ⟨kq, x121_82, rfl, HA, HJ82, HO_12, HO_374000, HO_374001, BK349, BK350, BK373, HB⟩ := hcut
            have hl12_82 := (Kd.R_reads' HO_12.out).1
            rw [hl12_82] at HO_12
            (try simp only [hl12_82])
            (try simp only [hl12_82] at BK349)
            (try simp only [hl12_82] at BK350)
            (try simp only [hl12_82] at BK373)
            (try simp only [hl12_82] at HO_374000)
            (try simp only [hl12_82] at HO_374001)
            cases kq with
            | zero => exact absurd HA.out (by simp [laws_FnExactMoebiusDigits.j2])
            | succ kj82 =>
             have H := HA.out
             clear HA
             simp only [laws_FnExactMoebiusDigits.j2] at H
             by_cases c101 : x121_82 = true
             ·
              subst c101
              have H1 : (some false) = some true := by first | (rw [if_pos rfl] at H; exact H) | rfl
              clear H
              have H := H1
              clear H1
              exact absurd H (by decide)
             ·
              replace c101 := Bool.eq_false_iff.mpr c101
              subst c101
              have H1 : ((laws_heldInt8S.f kj82 t396 1).bind fun t414 => (if t414 < 0 then (some false) else (if t414 = t395 then (some true) else (some false)))) = some true := by first | (rw [if_neg (show ¬ (false = true) by decide)] at H; exact H) | rfl
              clear H
              have H := H1
              clear H1
              replace H := Option.bind_eq_some_iff.mp H
              obtain ⟨t414, A1020, H⟩ := H
              replace H : (if t414 < 0 then (some false) else (if t414 = t395 then (some true) else (some false))) = some true := H
              have A102 := Aside0.mk A1020
              clear A1020
              by_cases c103 : t414 < 0
              ·
               rw [if_pos c103] at H
               have c103b0 : decide (t414 < 0) = true := decide_eq_true c103
               clear c103
               exact absurd H (by decide)
              ·
               rw [if_neg c103] at H
               have c103b0 : decide (t414 < 0) = false := decide_eq_false c103
               clear c103
               by_cases c104 : t414 = t395
               ·
                rw [if_pos c104] at H
                have c104b0 : (t414 == t395) = true := beq_iff_eq.mpr c104
                have c104b1 : (t414 != t395) = false := bne_eq_false_iff_eq.mpr c104
                clear c104
                clear H
                go_wp2_with (first | ((with_reducible refine gate_callee (f := 21) rfl ?_); refine goesL_ (some 124) rfl rfl Try.func21 (by kernel_rfl) rfl #[.slice Ao84 t396.length co84, .int .i64 1] rfl (by (try simp only [List.map_toArray, List.map_cons, List.map_nil]); first | done | rfl | (simp only [List.length_drop, List.length_take]; rfl)) ?_; (with_reducible refine (laws_heldInt8S.calls kj82 _ _ t396 1 t414 _ ?side1 ?side2 A102.out).mono ?_); (case side1 => repeat (first | exact (Kd.R_reads' HO_12.out).2.2 | (with_reducible refine Kd.C_alloc ?_ _) | (with_reducible refine Kd.C_drewN ?_ _) | (with_reducible refine Kd.C_drew ?_))); (case side2 => exact (Kd.R_reads' HO_12.out).2.1); rintro e w' ⟨rfl, ⟨nd, rfl⟩⟩; refine ⟨_, rfl, ?_⟩))
                go_ret
                exact ⟨by first | rfl | (simp [errW_none, errW_some] <;> rfl) | (simp [*, errW_none, errW_some] <;> rfl), by repeat (first | (with_reducible first | exact HB.out | apply below_alloc | apply pw_below_drewN | apply below_drew1 | refine below_set ?_ GE349.out | refine below_set ?_ GE350.out | refine below_set ?_ GE373.out) | exact HB.out)⟩
               ·
                rw [if_neg c104] at H
                have c104b0 : (t414 == t395) = false := beq_eq_false_iff_ne.mpr c104
                have c104b1 : (t414 != t395) = true := bne_iff_ne.mpr c104
                exact absurd H (by decide)
          ·
           rw [if_neg c79] at H
           have c79b0 : (t397 == t395) = false := beq_eq_false_iff_ne.mpr c79
           have c79b1 : (t397 != t395) = true := bne_iff_ne.mpr c79
           exact absurd H (by decide)
     ·
      replace c53 := Bool.eq_false_iff.mpr c53
      subst c53
      have H1 : (some false) = some true := by first | (rw [if_neg (show ¬ (false = true) by decide)] at H; exact H) | rfl
      clear H
      have H := H1
      clear H1
      exact absurd H (by decide)
end Go.Proofs.Ytififhihgkbafaa.PM

-- Written by a program (xprint.py) out of the translation's own print; Lean checks it.
import Derived.Test.YtififhihgkbafaaPMx0
import Derived.Test.YtififhihgkbafaaPMx1
import Derived.Test.YtififhihgkbafaaPMx6
import Derived.Test.YtififhihgkbafaaPMx9
import Derived.Test.YtififhihgkbafaaPMx10
import Derived.Test.YtififhihgkbafaaPMx11
namespace Go.Proofs.Ytififhihgkbafaa.PM
open Go.RowKit Go.Proofs.YtififhihgkbafaaW.PrintWords Go.Proofs.YtififhihgkbafaaW.PrintLast Go.Proofs.YtififhihgkbafaaW.PrintMore Go.Proofs.YtififhihgkbafaaRP
attribute [local go_sem] max2_int min2_int max_two min_two max_three min_three max_four min_four Go.Proofs.YtififhihgkbafaaRP.max_eight   -- for this text's walks alone
set_option linter.unusedVariables false
set_option linter.unusedSimpArgs false
/-! ### laws_FnExactMoebiusTurns: function 3 -/
mutual
def laws_FnExactMoebiusTurns.j0 : Nat → Int → List (S51) → Int → List (S51) → Int → Bool → Int → Int → Int → Int → List Int → List Int → List Int → List Int → Option (Bool)
 | 0, _, _, _, _, _, _, _, _, _, _, _, _, _, _ => none
 | k + 1, x2, x8, x9, x11, x12, x50, x350000, x350001, x350002, x350003, x351000, x351001, x373000, x373001 => if x50 = true then (some false) else ((laws_toStream.f k x351000 x351001).bind fun bt382 => ((laws_eqStream.f k x373000 x373001 bt382.1 bt382.2).bind fun t388 => (if t388 = true then ((laws_markStream.f k x373000 x373001 1).bind fun bt389 => (if bt389.1 < 0 then (laws_FnExactMoebiusTurns.j1 k x2 x8 x9 x11 true x350000 x350001 x350002 x350003 x351000 x351001) else ((laws_eqTurnS.f k x11 x8).bind fun t392 => (if t392 = true then (laws_FnExactMoebiusTurns.j1 k x2 x8 x9 x11 (x12 != x9) x350000 x350001 x350002 x350003 x351000 x351001) else (laws_FnExactMoebiusTurns.j1 k x2 x8 x9 x11 true x350000 x350001 x350002 x350003 x351000 x351001))))) else (some false))))
def laws_FnExactMoebiusTurns.j1 : Nat → Int → List (S51) → Int → List (S51) → Bool → Int → Int → Int → Int → List Int → List Int → Option (Bool)
 | 0, _, _, _, _, _, _, _, _, _, _, _ => none
 | k + 1, x2, x8, x9, x11, x71, x350000, x350001, x350002, x350003, x351000, x351001 => if x71 = true then (some false) else ((laws_markTurnS.f k x11 1).bind fun bt393 => ((laws_heldTurnS.f k bt393.2 1).bind fun t395 => (if t395 < 0 then (some false) else (if t395 = bt393.1 then ((laws_toMoebius.f x350000 x350001 x350002 x350003).bind fun bt396 => ((laws_toStream.f k x351000 x351001).bind fun bt400 => ((impl_MoebiusTurns.f k bt396.1 bt396.2.1 bt396.2.2.1 bt396.2.2.2 bt400.1 bt400.2 x2).bind fun bt406 => ((laws_eqTurnS.f k bt406.1 x8).bind fun t410 => (if t410 = true then (laws_FnExactMoebiusTurns.j2 k bt393.2 bt393.1 (bt406.2 != x9)) else (laws_FnExactMoebiusTurns.j2 k bt393.2 bt393.1 true)))))) else (some false)))))
def laws_FnExactMoebiusTurns.j2 : Nat → List (S51) → Int → Bool → Option (Bool)
 | 0, _, _, _ => none
 | k + 1, x11, x14, x100 => if x100 = true then (some false) else ((laws_heldTurnS.f k x11 1).bind fun t411 => (if t411 < 0 then (some false) else (if t411 = x14 then (some true) else (some false))))
end
def laws_FnExactMoebiusTurns.f (k : Nat) (a0_0 : Int) (a0_1 : Int) (a0_2 : Int) (a0_3 : Int) (l1_0 : List Int) (l1_1 : List Int) (a2 : Int) : Option (Bool) := (laws_szStream.f l1_0 l1_1 1048576).bind fun t351 => (if t351 < 0 then (some true) else ((laws_toMoebius.f a0_0 a0_1 a0_2 a0_3).bind fun bt352 => ((laws_toStream.f k l1_0 l1_1).bind fun bt356 => ((spec_MoebiusTurns.f k bt352.1 bt352.2.1 bt352.2.2.1 bt352.2.2.2 bt356.1 bt356.2 a2).bind fun bt362 => ((laws_toStream.f k l1_0 l1_1).bind fun bt366 => ((laws_toMoebius.f a0_0 a0_1 a0_2 a0_3).bind fun bt373 => ((impl_MoebiusTurns.f k bt373.1 bt373.2.1 bt373.2.2.1 bt373.2.2.2 bt366.1 bt366.2 a2).bind fun bt377 => ((laws_eqTurnS.f k bt377.1 bt362.1).bind fun t381 => (if t381 = true then (laws_FnExactMoebiusTurns.j0 k a2 bt362.1 bt362.2 bt377.1 bt377.2 (bt377.2 != bt362.2) a0_0 a0_1 a0_2 a0_3 l1_0 l1_1 bt366.1 bt366.2) else (laws_FnExactMoebiusTurns.j0 k a2 bt362.1 bt362.2 bt377.1 bt377.2 true a0_0 a0_1 a0_2 a0_3 l1_0 l1_1 bt366.1 bt366.2))))))))))
theorem laws_FnExactMoebiusTurns.mono_l : ∀ k, (∀ y0 y1 y2 y3 y4 y5 y6 y7 y8 y9 y10 y11 y12 y13, LeO (laws_FnExactMoebiusTurns.j0 k y0 y1 y2 y3 y4 y5 y6 y7 y8 y9 y10 y11 y12 y13) (laws_FnExactMoebiusTurns.j0 (k + 1) y0 y1 y2 y3 y4 y5 y6 y7 y8 y9 y10 y11 y12 y13)) ∧ (∀ y0 y1 y2 y3 y4 y5 y6 y7 y8 y9 y10, LeO (laws_FnExactMoebiusTurns.j1 k y0 y1 y2 y3 y4 y5 y6 y7 y8 y9 y10) (laws_FnExactMoebiusTurns.j1 (k + 1) y0 y1 y2 y3 y4 y5 y6 y7 y8 y9 y10)) ∧ (∀ y0 y1 y2, LeO (laws_FnExactMoebiusTurns.j2 k y0 y1 y2) (laws_FnExactMoebiusTurns.j2 (k + 1) y0 y1 y2))
 | 0 => ⟨fun _ _ _ _ _ _ _ _ _ _ _ _ _ _ r h => by simp [laws_FnExactMoebiusTurns.j0] at h, fun _ _ _ _ _ _ _ _ _ _ _ r h => by simp [laws_FnExactMoebiusTurns.j1] at h, fun _ _ _ r h => by simp [laws_FnExactMoebiusTurns.j2] at h⟩
 | k + 1 => by
  obtain ⟨ih0, ih1, ih2⟩ := laws_FnExactMoebiusTurns.mono_l k
  refine ⟨?_, ?_, ?_⟩
  ·
   intro y0 y1 y2 y3 y4 y5 y6 y7 y8 y9 y10 y11 y12 y13
   unfold laws_FnExactMoebiusTurns.j0
   repeat' first
   | (with_reducible exact ih0 _ _ _ _ _ _ _ _ _ _ _ _ _ _)
   | (with_reducible exact ih1 _ _ _ _ _ _ _ _ _ _ _)
   | (with_reducible exact ih2 _ _ _)
   | (with_reducible exact impl_MoebiusTurns.mono _ _ _ _ _ _ _ _)
   | (with_reducible exact laws_eqStream.mono _ _ _ _ _)
   | (with_reducible exact laws_eqTurnS.mono _ _ _)
   | (with_reducible exact laws_heldTurnS.mono _ _ _)
   | (with_reducible exact laws_markStream.mono _ _ _ _)
   | (with_reducible exact laws_markTurnS.mono _ _ _)
   | (with_reducible exact laws_toStream.mono _ _ _)
   | (with_reducible exact spec_MoebiusTurns.mono _ _ _ _ _ _ _ _)
   | (with_reducible exact LeO.refl _)
   | (with_reducible exact LeO.none _)
   | (with_reducible refine LeO.ite ?_ ?_)
   | (with_reducible refine LeO.bind ?_ (fun _ => ?_))
   | exact ih0 _ _ _ _ _ _ _ _ _ _ _ _ _ _
   | exact ih1 _ _ _ _ _ _ _ _ _ _ _
   | exact ih2 _ _ _
   | exact LeO.none _
   | refine LeO.ite ?_ ?_
   | refine LeO.bind ?_ (fun _ => ?_)
  ·
   intro y0 y1 y2 y3 y4 y5 y6 y7 y8 y9 y10
   unfold laws_FnExactMoebiusTurns.j1
   repeat' first
   | (with_reducible exact ih0 _ _ _ _ _ _ _ _ _ _ _ _ _ _)
   | (with_reducible exact ih1 _ _ _ _ _ _ _ _ _ _ _)
   | (with_reducible exact ih2 _ _ _)
   | (with_reducible exact impl_MoebiusTurns.mono _ _ _ _ _ _ _ _)
   | (with_reducible exact laws_eqStream.mono _ _ _ _ _)
   | (with_reducible exact laws_eqTurnS.mono _ _ _)
   | (with_reducible exact laws_heldTurnS.mono _ _ _)
   | (with_reducible exact laws_markStream.mono _ _ _ _)
   | (with_reducible exact laws_markTurnS.mono _ _ _)
   | (with_reducible exact laws_toStream.mono _ _ _)
   | (with_reducible exact spec_MoebiusTurns.mono _ _ _ _ _ _ _ _)
   | (with_reducible exact LeO.refl _)
   | (with_reducible exact LeO.none _)
   | (with_reducible refine LeO.ite ?_ ?_)
   | (with_reducible refine LeO.bind ?_ (fun _ => ?_))
   | exact ih0 _ _ _ _ _ _ _ _ _ _ _ _ _ _
   | exact ih1 _ _ _ _ _ _ _ _ _ _ _
   | exact ih2 _ _ _
   | exact LeO.none _
   | refine LeO.ite ?_ ?_
   | refine LeO.bind ?_ (fun _ => ?_)
  ·
   intro y0 y1 y2
   unfold laws_FnExactMoebiusTurns.j2
   repeat' first
   | (with_reducible exact ih0 _ _ _ _ _ _ _ _ _ _ _ _ _ _)
   | (with_reducible exact ih1 _ _ _ _ _ _ _ _ _ _ _)
   | (with_reducible exact ih2 _ _ _)
   | (with_reducible exact impl_MoebiusTurns.mono _ _ _ _ _ _ _ _)
   | (with_reducible exact laws_eqStream.mono _ _ _ _ _)
   | (with_reducible exact laws_eqTurnS.mono _ _ _)
   | (with_reducible exact laws_heldTurnS.mono _ _ _)
   | (with_reducible exact laws_markStream.mono _ _ _ _)
   | (with_reducible exact laws_markTurnS.mono _ _ _)
   | (with_reducible exact laws_toStream.mono _ _ _)
   | (with_reducible exact spec_MoebiusTurns.mono _ _ _ _ _ _ _ _)
   | (with_reducible exact LeO.refl _)
   | (with_reducible exact LeO.none _)
   | (with_reducible refine LeO.ite ?_ ?_)
   | (with_reducible refine LeO.bind ?_ (fun _ => ?_))
   | exact ih0 _ _ _ _ _ _ _ _ _ _ _ _ _ _
   | exact ih1 _ _ _ _ _ _ _ _ _ _ _
   | exact ih2 _ _ _
   | exact LeO.none _
   | refine LeO.ite ?_ ?_
   | refine LeO.bind ?_ (fun _ => ?_)
theorem laws_FnExactMoebiusTurns.mono : ∀ a0 a1 a2 a3 a4 a5 a6 k, LeO (laws_FnExactMoebiusTurns.f k a0 a1 a2 a3 a4 a5 a6) (laws_FnExactMoebiusTurns.f (k + 1) a0 a1 a2 a3 a4 a5 a6) := by
 intro a0 a1 a2 a3 a4 a5 a6 k
 obtain ⟨ih0, ih1, ih2⟩ := laws_FnExactMoebiusTurns.mono_l k
 unfold laws_FnExactMoebiusTurns.f
 repeat' first
   | (with_reducible exact ih0 _ _ _ _ _ _ _ _ _ _ _ _ _ _)
   | (with_reducible exact ih1 _ _ _ _ _ _ _ _ _ _ _)
   | (with_reducible exact ih2 _ _ _)
   | (with_reducible exact impl_MoebiusTurns.mono _ _ _ _ _ _ _ _)
   | (with_reducible exact laws_eqStream.mono _ _ _ _ _)
   | (with_reducible exact laws_eqTurnS.mono _ _ _)
   | (with_reducible exact laws_heldTurnS.mono _ _ _)
   | (with_reducible exact laws_markStream.mono _ _ _ _)
   | (with_reducible exact laws_markTurnS.mono _ _ _)
   | (with_reducible exact laws_toStream.mono _ _ _)
   | (with_reducible exact spec_MoebiusTurns.mono _ _ _ _ _ _ _ _)
   | (with_reducible exact LeO.refl _)
   | (with_reducible exact LeO.none _)
   | (with_reducible refine LeO.ite ?_ ?_)
   | (with_reducible refine LeO.bind ?_ (fun _ => ?_))
   | exact ih0 _ _ _ _ _ _ _ _ _ _ _ _ _ _
   | exact ih1 _ _ _ _ _ _ _ _ _ _ _
   | exact ih2 _ _ _
   | exact LeO.none _
   | refine LeO.ite ?_ ?_
   | refine LeO.bind ?_ (fun _ => ?_)
def laws_FnExactMoebiusTurns.T5 : Bool × List (List Nat × List Nat) := (true, [([], []), ([0], [0]), ([], []), ([2, 1], [2]), ([], []), ([1, 3, 4, 3], [1, 3, 4]), ([5], [5]), ([6], [6]), ([6], [6]), ([7, 5, 0, 1, 2, 3, 4, 5, 6, 7], [7]), ([8, 9, 0, 1, 2, 3, 4, 5, 6, 7, 8, 9], [8])])
def laws_FnExactMoebiusTurns.B5 : List Nat := [0, 1, 0, 7, 0, 31, 63, 127, 127, 255, 1023]
theorem laws_FnExactMoebiusTurns.tab5 : rtab .any (opsOf Try.f3 5) = laws_FnExactMoebiusTurns.T5 := by kernel_rfl
theorem laws_FnExactMoebiusTurns.bits5 : waitsOk laws_FnExactMoebiusTurns.T5.2 laws_FnExactMoebiusTurns.B5 = true := by kernel_rfl
def laws_FnExactMoebiusTurns.T7 : Bool × List (List Nat × List Nat) := (true, [([], []), ([0], [0]), ([], []), ([], []), ([1, 2, 3, 1], [1, 2, 3]), ([4], [4]), ([5], [5]), ([5], [5]), ([6, 4, 0, 1, 2, 3, 4, 5, 6], [6]), ([7, 8, 0, 1, 2, 3, 4, 5, 6, 7, 8], [7])])
def laws_FnExactMoebiusTurns.B7 : List Nat := [0, 1, 0, 0, 15, 31, 63, 63, 127, 511]
theorem laws_FnExactMoebiusTurns.tab7 : rtab .any (opsOf Try.f3 7) = laws_FnExactMoebiusTurns.T7 := by kernel_rfl
theorem laws_FnExactMoebiusTurns.bits7 : waitsOk laws_FnExactMoebiusTurns.T7.2 laws_FnExactMoebiusTurns.B7 = true := by kernel_rfl
def laws_FnExactMoebiusTurns.T24 : Bool × List (List Nat × List Nat) := (true, [([], []), ([0], [0]), ([], []), ([2, 1], [2]), ([], []), ([1, 3, 4, 3], [1, 3, 4]), ([5], [5]), ([6], [6]), ([6], [6]), ([7, 5, 0, 1, 2, 3, 4, 5, 6, 7], [7]), ([8, 9, 0, 1, 2, 3, 4, 5, 6, 7, 8, 9], [8])])
def laws_FnExactMoebiusTurns.B24 : List Nat := [0, 1, 0, 7, 0, 31, 63, 127, 127, 255, 1023]
theorem laws_FnExactMoebiusTurns.tab24 : rtab .any (opsOf Try.f3 24) = laws_FnExactMoebiusTurns.T24 := by kernel_rfl
theorem laws_FnExactMoebiusTurns.bits24 : waitsOk laws_FnExactMoebiusTurns.T24.2 laws_FnExactMoebiusTurns.B24 = true := by kernel_rfl
set_option maxHeartbeats 8000000 in
set_option maxRecDepth 100000 in
theorem laws_FnExactMoebiusTurns.calls (k : Nat) (a0_0 : Int) (a0_1 : Int) (a0_2 : Int) (a0_3 : Int) (A1_0 : Option Addr) (c1_0 : Nat) (l1_0 : List Int) (A1_1 : Option Addr) (c1_1 : Nat) (l1_1 : List Int) (a2 : Int) (w : World) (hr1_0 : Kd.C (Kd.int .i8) w A1_0 l1_0.length l1_0) (hc1_0 : l1_0.length ≤ c1_0) (hr1_1 : Kd.C (Kd.int .i8) w A1_1 l1_1.length l1_1) (hc1_1 : l1_1.length ≤ c1_1) (h : laws_FnExactMoebiusTurns.f k a0_0 a0_1 a0_2 a0_3 l1_0 l1_1 a2 = some true) :
  Calls Try.prog 3 #[.agg #[.int .i64 a0_0, .int .i64 a0_1, .int .i64 a0_2, .int .i64 a0_3], .agg #[.slice A1_0 l1_0.length c1_0, .slice A1_1 l1_1.length c1_1], .int .i64 a2] w fun e w' => e = .returned (.bool true) ∧ Below w.heap.size w w' := by
 have hu23 := Try.underlying23
 have hu26 := Try.underlying26
 have hu33 := Try.underlying33
 have HR1_0 := Aside0.mk hr1_0
 have HC1_0 := Aside0.mk hc1_0
 clear hr1_0 hc1_0
 have HR1_1 := Aside0.mk hr1_1
 have HC1_1 := Aside0.mk hc1_1
 clear hr1_1 hc1_1
 have HB := Aside0.mk (Below.refl w.heap.size w)
 have H : ((laws_szStream.f l1_0 l1_1 1048576).bind fun t351 => (if t351 < 0 then (some true) else ((laws_toMoebius.f a0_0 a0_1 a0_2 a0_3).bind fun bt352 => ((laws_toStream.f k l1_0 l1_1).bind fun bt356 => ((spec_MoebiusTurns.f k bt352.1 bt352.2.1 bt352.2.2.1 bt352.2.2.2 bt356.1 bt356.2 a2).bind fun bt362 => ((laws_toStream.f k l1_0 l1_1).bind fun bt366 => ((laws_toMoebius.f a0_0 a0_1 a0_2 a0_3).bind fun bt373 => ((impl_MoebiusTurns.f k bt373.1 bt373.2.1 bt373.2.2.1 bt373.2.2.2 bt366.1 bt366.2 a2).bind fun bt377 => ((laws_eqTurnS.f k bt377.1 bt362.1).bind fun t381 => (if t381 = true then (laws_FnExactMoebiusTurns.j0 k a2 bt362.1 bt362.2 bt377.1 bt377.2 (bt377.2 != bt362.2) a0_0 a0_1 a0_2 a0_3 l1_0 l1_1 bt366.1 bt366.2) else (laws_FnExactMoebiusTurns.j0 k a2 bt362.1 bt362.2 bt377.1 bt377.2 true a0_0 a0_1 a0_2 a0_3 l1_0 l1_1 bt366.1 bt366.2))))))))))) = some true := h
 clear h
 replace H := Option.bind_eq_some_iff.mp H
 obtain ⟨t351, A40, H⟩ := H
 replace H : (if t351 < 0 then (some true) else ((laws_toMoebius.f a0_0 a0_1 a0_2 a0_3).bind fun bt352 => ((laws_toStream.f k l1_0 l1_1).bind fun bt356 => ((spec_MoebiusTurns.f k bt352.1 bt352.2.1 bt352.2.2.1 bt352.2.2.2 bt356.1 bt356.2 a2).bind fun bt362 => ((laws_toStream.f k l1_0 l1_1).bind fun bt366 => ((laws_toMoebius.f a0_0 a0_1 a0_2 a0_3).bind fun bt373 => ((impl_MoebiusTurns.f k bt373.1 bt373.2.1 bt373.2.2.1 bt373.2.2.2 bt366.1 bt366.2 a2).bind fun bt377 => ((laws_eqTurnS.f k bt377.1 bt362.1).bind fun t381 => (if t381 = true then (laws_FnExactMoebiusTurns.j0 k a2 bt362.1 bt362.2 bt377.1 bt377.2 (bt377.2 != bt362.2) a0_0 a0_1 a0_2 a0_3 l1_0 l1_1 bt366.1 bt366.2) else (laws_FnExactMoebiusTurns.j0 k a2 bt362.1 bt362.2 bt377.1 bt377.2 true a0_0 a0_1 a0_2 a0_3 l1_0 l1_1 bt366.1 bt366.2)))))))))) = some true := H
 have A4 := Aside0.mk A40
 clear A40
 by_cases c5 : t351 < 0
 ·
  rw [if_pos c5] at H
  have c5b0 : decide (t351 < 0) = true := decide_eq_true c5
  clear c5
  clear H
  go_enter Try.func3, Try.ntmps3
  go_wp2_with (first | ((with_reducible refine gate_dst (N := 3) rfl ?_); refine box_event ?hg (N := 3) ?hd (cs := #[.int .i64 a0_0, .int .i64 a0_1, .int .i64 a0_2, .int .i64 a0_3]) (t := 23) ?hr ?_; (case hd => rfl); (case hg => rfl); (case hr => first | (go_simp; done) | (go_simp; rfl)); intro gb349 hg w6 hbox hb; have n0_ := Aside0.mk (below_step (by repeat (first | (with_reducible first | exact HB.out | apply below_alloc | apply pw_below_drewN | apply below_drew1) | exact HB.out)) hb); have n1_ := Aside0.mk (hbox); have n2_ := Aside0.mk ((by rw [hg]; exact (below_size (by repeat (first | (with_reducible first | exact HB.out | apply below_alloc | apply pw_below_drewN | apply below_drew1) | exact HB.out))) : w.heap.size ≤ gb349)); have n3_ := Aside0.mk ((by rw [hg]; exact (below_size (by repeat (first | (with_reducible first | exact HB.out | apply below_alloc | apply pw_below_drewN | apply below_drew1) | exact HB.out))) : w.heap.size ≤ gb349)); clear HB; have HB := n0_; have BK349 := n1_; have GW349 := n2_; have GE349 := n3_; clear n0_ n1_ n2_ n3_; clear hb hbox hg) | ((with_reducible refine gate_dst (N := 4) rfl ?_); refine box_event ?hg (N := 4) ?hd (cs := #[.slice A1_0 l1_0.length c1_0, .slice A1_1 l1_1.length c1_1]) (t := 26) ?hr ?_; (case hd => rfl); (case hg => rfl); (case hr => first | (go_simp; done) | (go_simp; rfl)); intro gb350 hg w7 hbox hb; have n0_ := Aside0.mk (blk_below (g := gb349) (o := .cells #[.int .i64 a0_0, .int .i64 a0_1, .int .i64 a0_2, .int .i64 a0_3] 23 (0, 0)) (by (with_reducible repeat (first | refine blk_drewN ?_ _ | refine blk_drew ?_ | refine blk_alloc ?_ _)); exact BK349.out) hb); have n1_ := Aside0.mk (below_step (by repeat (first | (with_reducible first | exact HB.out | apply below_alloc | apply pw_below_drewN | apply below_drew1 | refine below_set ?_ GE349.out) | exact HB.out)) hb); have n2_ := Aside0.mk (hbox); have n3_ := Aside0.mk ((by rw [hg]; exact (below_size (by repeat (first | (with_reducible first | exact HB.out | apply below_alloc | apply pw_below_drewN | apply below_drew1 | refine below_set ?_ GE349.out) | exact HB.out))) : w.heap.size ≤ gb350)); have n4_ := Aside0.mk ((by rw [hg]; exact (below_size (by repeat (first | (with_reducible first | exact HB.out | apply below_alloc | apply pw_below_drewN | apply below_drew1 | refine below_set ?_ GE349.out) | exact HB.out))) : w.heap.size ≤ gb350)); have n5_ := Aside0.mk ((by rw [hg]; exact Nat.ne_of_lt (blk_lt (g := gb349) (o := .cells #[.int .i64 a0_0, .int .i64 a0_1, .int .i64 a0_2, .int .i64 a0_3] 23 (0, 0)) (by (with_reducible repeat (first | refine blk_drewN ?_ _ | refine blk_drew ?_ | refine blk_alloc ?_ _)); exact BK349.out)) : gb349 ≠ gb350)); have n6_ := Aside0.mk ((by rw [hg]; exact Nat.ne_of_gt (blk_lt (g := gb349) (o := .cells #[.int .i64 a0_0, .int .i64 a0_1, .int .i64 a0_2, .int .i64 a0_3] 23 (0, 0)) (by (with_reducible repeat (first | refine blk_drewN ?_ _ | refine blk_drew ?_ | refine blk_alloc ?_ _)); exact BK349.out)) : gb350 ≠ gb349)); clear BK349; clear HB; have BK349 := n0_; have HB := n1_; have BK350 := n2_; have GW350 := n3_; have GE350 := n4_; have NB349_350 := n5_; have NB350_349 := n6_; clear n0_ n1_ n2_ n3_ n4_ n5_ n6_; clear hb hbox hg; have hnb8 := NB350_349.out; have hnc8 := NB349_350.out; have hcz9_0 : w7.cell? ⟨gb350, 0, none⟩ = some (.slice A1_0 l1_0.length c1_0) := (blk_cell BK350.out 0).trans rfl; have hcz9_1 : w7.cell? ⟨gb350, 1, none⟩ = some (.slice A1_1 l1_1.length c1_1) := (blk_cell BK350.out 1).trans rfl; have hfz9_0 := blk_frozen BK350.out 0; have hfz9_1 := blk_frozen BK350.out 1) | ((with_reducible refine gate_callee (f := 7) rfl ?_); refine goesL_ (some 20) rfl rfl Try.func7 (by kernel_rfl) rfl #[.agg #[.slice A1_0 l1_0.length c1_0, .slice A1_1 l1_1.length c1_1], .int .i64 1048576] rfl (by (try simp only [List.map_toArray, List.map_cons, List.map_nil]); first | done | rfl | (simp only [List.length_drop, List.length_take]; rfl)) ?_; (with_reducible refine (laws_szStream.calls _ _ l1_0 _ _ l1_1 1048576 t351 _ ?side1 ?side2 ?side3 ?side4 A4.out).mono ?_); (case side1 => repeat (first | exact (Kd.C_below HR1_0.out HB.out) | (with_reducible refine Kd.C_alloc ?_ _) | (with_reducible refine Kd.C_drewN ?_ _) | (with_reducible refine Kd.C_drew ?_))); (case side2 => exact HC1_0.out); (case side3 => repeat (first | exact (Kd.C_below HR1_1.out HB.out) | (with_reducible refine Kd.C_alloc ?_ _) | (with_reducible refine Kd.C_drewN ?_ _) | (with_reducible refine Kd.C_drew ?_))); (case side4 => exact HC1_1.out); rintro e w10 ⟨rfl, hb⟩; refine ⟨_, rfl, ?_⟩; have n0_ := Aside0.mk (blk_below (g := gb349) (o := .cells #[.int .i64 a0_0, .int .i64 a0_1, .int .i64 a0_2, .int .i64 a0_3] 23 (0, 0)) (by (with_reducible repeat (first | refine blk_drewN ?_ _ | refine blk_drew ?_ | refine blk_alloc ?_ _)); exact BK349.out) hb); have n1_ := Aside0.mk (blk_below (g := gb350) (o := .cells #[.slice A1_0 l1_0.length c1_0, .slice A1_1 l1_1.length c1_1] 26 (0, 0)) (by (with_reducible repeat (first | refine blk_drewN ?_ _ | refine blk_drew ?_ | refine blk_alloc ?_ _)); exact BK350.out) hb); have n2_ := Aside0.mk (below_step (by repeat (first | (with_reducible first | exact HB.out | apply below_alloc | apply pw_below_drewN | apply below_drew1 | refine below_set ?_ GE349.out | refine below_set ?_ GE350.out) | exact HB.out)) hb); clear BK349; clear BK350; clear HB; have BK349 := n0_; have BK350 := n1_; have HB := n2_; clear n0_ n1_ n2_; (try clear hb); (try clear hb2); (try clear hk); (try clear hi)))
  go_ret
  exact ⟨by first | rfl | (simp [errW_none, errW_some] <;> rfl) | (simp [*, errW_none, errW_some] <;> rfl), by repeat (first | (with_reducible first | exact HB.out | apply below_alloc | apply pw_below_drewN | apply below_drew1 | refine below_set ?_ GE349.out | refine below_set ?_ GE350.out) | exact HB.out)⟩
 ·
  rw [if_neg c5] at H
  have c5b0 : decide (t351 < 0) = false := decide_eq_false c5
  clear c5
  replace H := Option.bind_eq_some_iff.mp H
  obtain ⟨⟨t352, t353, t354, t355⟩, A110, H⟩ := H
  replace H : ((laws_toStream.f k l1_0 l1_1).bind fun bt356 => ((spec_MoebiusTurns.f k t352 t353 t354 t355 bt356.1 bt356.2 a2).bind fun bt362 => ((laws_toStream.f k l1_0 l1_1).bind fun bt366 => ((laws_toMoebius.f a0_0 a0_1 a0_2 a0_3).bind fun bt373 => ((impl_MoebiusTurns.f k bt373.1 bt373.2.1 bt373.2.2.1 bt373.2.2.2 bt366.1 bt366.2 a2).bind fun bt377 => ((laws_eqTurnS.f k bt377.1 bt362.1).bind fun t381 => (if t381 = true then (laws_FnExactMoebiusTurns.j0 k a2 bt362.1 bt362.2 bt377.1 bt377.2 (bt377.2 != bt362.2) a0_0 a0_1 a0_2 a0_3 l1_0 l1_1 bt366.1 bt366.2) else (laws_FnExactMoebiusTurns.j0 k a2 bt362.1 bt362.2 bt377.1 bt377.2 true a0_0 a0_1 a0_2 a0_3 l1_0 l1_1 bt366.1 bt366.2)))))))) = some true := H
  have A11 := Aside0.mk A110
  clear A110
  replace H := Option.bind_eq_some_iff.mp H
  obtain ⟨⟨t356, t359⟩, A120, H⟩ := H
  replace H : ((spec_MoebiusTurns.f k t352 t353 t354 t355 t356 t359 a2).bind fun bt362 => ((laws_toStream.f k l1_0 l1_1).bind fun bt366 => ((laws_toMoebius.f a0_0 a0_1 a0_2 a0_3).bind fun bt373 => ((impl_MoebiusTurns.f k bt373.1 bt373.2.1 bt373.2.2.1 bt373.2.2.2 bt366.1 bt366.2 a2).bind fun bt377 => ((laws_eqTurnS.f k bt377.1 bt362.1).bind fun t381 => (if t381 = true then (laws_FnExactMoebiusTurns.j0 k a2 bt362.1 bt362.2 bt377.1 bt377.2 (bt377.2 != bt362.2) a0_0 a0_1 a0_2 a0_3 l1_0 l1_1 bt366.1 bt366.2) else (laws_FnExactMoebiusTurns.j0 k a2 bt362.1 bt362.2 bt377.1 bt377.2 true a0_0 a0_1 a0_2 a0_3 l1_0 l1_1 bt366.1 bt366.2))))))) = some true := H
  have A12 := Aside0.mk A120
  clear A120
  replace H := Option.bind_eq_some_iff.mp H
  obtain ⟨⟨t362, t365⟩, A130, H⟩ := H
  replace H : ((laws_toStream.f k l1_0 l1_1).bind fun bt366 => ((laws_toMoebius.f a0_0 a0_1 a0_2 a0_3).bind fun bt373 => ((impl_MoebiusTurns.f k bt373.1 bt373.2.1 bt373.2.2.1 bt373.2.2.2 bt366.1 bt366.2 a2).bind fun bt377 => ((laws_eqTurnS.f k bt377.1 t362).bind fun t381 => (if t381 = true then (laws_FnExactMoebiusTurns.j0 k a2 t362 t365 bt377.1 bt377.2 (bt377.2 != t365) a0_0 a0_1 a0_2 a0_3 l1_0 l1_1 bt366.1 bt366.2) else (laws_FnExactMoebiusTurns.j0 k a2 t362 t365 bt377.1 bt377.2 true a0_0 a0_1 a0_2 a0_3 l1_0 l1_1 bt366.1 bt366.2)))))) = some true := H
  have A13 := Aside0.mk A130
  clear A130
  replace H := Option.bind_eq_some_iff.mp H
  obtain ⟨⟨t366, t369⟩, A140, H⟩ := H
  replace H : ((laws_toMoebius.f a0_0 a0_1 a0_2 a0_3).bind fun bt373 => ((impl_MoebiusTurns.f k bt373.1 bt373.2.1 bt373.2.2.1 bt373.2.2.2 t366 t369 a2).bind fun bt377 => ((laws_eqTurnS.f k bt377.1 t362).bind fun t381 => (if t381 = true then (laws_FnExactMoebiusTurns.j0 k a2 t362 t365 bt377.1 bt377.2 (bt377.2 != t365) a0_0 a0_1 a0_2 a0_3 l1_0 l1_1 t366 t369) else (laws_FnExactMoebiusTurns.j0 k a2 t362 t365 bt377.1 bt377.2 true a0_0 a0_1 a0_2 a0_3 l1_0 l1_1 t366 t369))))) = some true := H
  have A14 := Aside0.mk A140
  clear A140
  replace H := Option.bind_eq_some_iff.mp H
  obtain ⟨⟨t373, t374, t375, t376⟩, A150, H⟩ := H
  replace H : ((impl_MoebiusTurns.f k t373 t374 t375 t376 t366 t369 a2).bind fun bt377 => ((laws_eqTurnS.f k bt377.1 t362).bind fun t381 => (if t381 = true then (laws_FnExactMoebiusTurns.j0 k a2 t362 t365 bt377.1 bt377.2 (bt377.2 != t365) a0_0 a0_1 a0_2 a0_3 l1_0 l1_1 t366 t369) else (laws_FnExactMoebiusTurns.j0 k a2 t362 t365 bt377.1 bt377.2 true a0_0 a0_1 a0_2 a0_3 l1_0 l1_1 t366 t369)))) = some true := H
  have A15 := Aside0.mk A150
  clear A150
  replace H := Option.bind_eq_some_iff.mp H
  obtain ⟨⟨t377, t380⟩, A160, H⟩ := H
  replace H : ((laws_eqTurnS.f k t377 t362).bind fun t381 => (if t381 = true then (laws_FnExactMoebiusTurns.j0 k a2 t362 t365 t377 t380 (t380 != t365) a0_0 a0_1 a0_2 a0_3 l1_0 l1_1 t366 t369) else (laws_FnExactMoebiusTurns.j0 k a2 t362 t365 t377 t380 true a0_0 a0_1 a0_2 a0_3 l1_0 l1_1 t366 t369))) = some true := H
  have A16 := Aside0.mk A160
  clear A160
  have HC17 := Aside0.mk H
  clear H
  go_enter Try.func3, Try.ntmps3
  try go_wp2_with (first | ((with_reducible refine gate_dst (N := 3) rfl ?_); refine box_event ?hg (N := 3) ?hd (cs := #[.int .i64 a0_0, .int .i64 a0_1, .int .i64 a0_2, .int .i64 a0_3]) (t := 23) ?hr ?_; (case hd => rfl); (case hg => rfl); (case hr => first | (go_simp; done) | (go_simp; rfl)); intro gb349 hg w18 hbox hb; have n0_ := Aside0.mk (below_step (by repeat (first | (with_reducible first | exact HB.out | apply below_alloc | apply pw_below_drewN | apply below_drew1) | exact HB.out)) hb); have n1_ := Aside0.mk (hbox); have n2_ := Aside0.mk ((by rw [hg]; exact (below_size (by repeat (first | (with_reducible first | exact HB.out | apply below_alloc | apply pw_below_drewN | apply below_drew1) | exact HB.out))) : w.heap.size ≤ gb349)); have n3_ := Aside0.mk ((by rw [hg]; exact (below_size (by repeat (first | (with_reducible first | exact HB.out | apply below_alloc | apply pw_below_drewN | apply below_drew1) | exact HB.out))) : w.heap.size ≤ gb349)); clear HB; have HB := n0_; have BK349 := n1_; have GW349 := n2_; have GE349 := n3_; clear n0_ n1_ n2_ n3_; clear hb hbox hg) | ((with_reducible refine gate_dst (N := 4) rfl ?_); refine box_event ?hg (N := 4) ?hd (cs := #[.slice A1_0 l1_0.length c1_0, .slice A1_1 l1_1.length c1_1]) (t := 26) ?hr ?_; (case hd => rfl); (case hg => rfl); (case hr => first | (go_simp; done) | (go_simp; rfl)); intro gb350 hg w19 hbox hb; have n0_ := Aside0.mk (blk_below (g := gb349) (o := .cells #[.int .i64 a0_0, .int .i64 a0_1, .int .i64 a0_2, .int .i64 a0_3] 23 (0, 0)) (by (with_reducible repeat (first | refine blk_drewN ?_ _ | refine blk_drew ?_ | refine blk_alloc ?_ _)); exact BK349.out) hb); have n1_ := Aside0.mk (below_step (by repeat (first | (with_reducible first | exact HB.out | apply below_alloc | apply pw_below_drewN | apply below_drew1 | refine below_set ?_ GE349.out) | exact HB.out)) hb); have n2_ := Aside0.mk (hbox); have n3_ := Aside0.mk ((by rw [hg]; exact (below_size (by repeat (first | (with_reducible first | exact HB.out | apply below_alloc | apply pw_below_drewN | apply below_drew1 | refine below_set ?_ GE349.out) | exact HB.out))) : w.heap.size ≤ gb350)); have n4_ := Aside0.mk ((by rw [hg]; exact (below_size (by repeat (first | (with_reducible first | exact HB.out | apply below_alloc | apply pw_below_drewN | apply below_drew1 | refine below_set ?_ GE349.out) | exact HB.out))) : w.heap.size ≤ gb350)); have n5_ := Aside0.mk ((by rw [hg]; exact Nat.ne_of_lt (blk_lt (g := gb349) (o := .cells #[.int .i64 a0_0, .int .i64 a0_1, .int .i64 a0_2, .int .i64 a0_3] 23 (0, 0)) (by (with_reducible repeat (first | refine blk_drewN ?_ _ | refine blk_drew ?_ | refine blk_alloc ?_ _)); exact BK349.out)) : gb349 ≠ gb350)); have n6_ := Aside0.mk ((by rw [hg]; exact Nat.ne_of_gt (blk_lt (g := gb349) (o := .cells #[.int .i64 a0_0, .int .i64 a0_1, .int .i64 a0_2, .int .i64 a0_3] 23 (0, 0)) (by (with_reducible repeat (first | refine blk_drewN ?_ _ | refine blk_drew ?_ | refine blk_alloc ?_ _)); exact BK349.out)) : gb350 ≠ gb349)); clear BK349; clear HB; have BK349 := n0_; have HB := n1_; have BK350 := n2_; have GW350 := n3_; have GE350 := n4_; have NB349_350 := n5_; have NB350_349 := n6_; clear n0_ n1_ n2_ n3_ n4_ n5_ n6_; clear hb hbox hg; have hnb20 := NB350_349.out; have hnc20 := NB349_350.out; have hcz21_0 : w19.cell? ⟨gb350, 0, none⟩ = some (.slice A1_0 l1_0.length c1_0) := (blk_cell BK350.out 0).trans rfl; have hcz21_1 : w19.cell? ⟨gb350, 1, none⟩ = some (.slice A1_1 l1_1.length c1_1) := (blk_cell BK350.out 1).trans rfl; have hfz21_0 := blk_frozen BK350.out 0; have hfz21_1 := blk_frozen BK350.out 1) | ((with_reducible refine gate_callee (f := 7) rfl ?_); refine goesL_ (some 20) rfl rfl Try.func7 (by kernel_rfl) rfl #[.agg #[.slice A1_0 l1_0.length c1_0, .slice A1_1 l1_1.length c1_1], .int .i64 1048576] rfl (by (try simp only [List.map_toArray, List.map_cons, List.map_nil]); first | done | rfl | (simp only [List.length_drop, List.length_take]; rfl)) ?_; (with_reducible refine (laws_szStream.calls _ _ l1_0 _ _ l1_1 1048576 t351 _ ?side1 ?side2 ?side3 ?side4 A4.out).mono ?_); (case side1 => repeat (first | exact (Kd.C_below HR1_0.out HB.out) | (with_reducible refine Kd.C_alloc ?_ _) | (with_reducible refine Kd.C_drewN ?_ _) | (with_reducible refine Kd.C_drew ?_))); (case side2 => exact HC1_0.out); (case side3 => repeat (first | exact (Kd.C_below HR1_1.out HB.out) | (with_reducible refine Kd.C_alloc ?_ _) | (with_reducible refine Kd.C_drewN ?_ _) | (with_reducible refine Kd.C_drew ?_))); (case side4 => exact HC1_1.out); rintro e w22 ⟨rfl, hb⟩; refine ⟨_, rfl, ?_⟩; have n0_ := Aside0.mk (blk_below (g := gb349) (o := .cells #[.int .i64 a0_0, .int .i64 a0_1, .int .i64 a0_2, .int .i64 a0_3] 23 (0, 0)) (by (with_reducible repeat (first | refine blk_drewN ?_ _ | refine blk_drew ?_ | refine blk_alloc ?_ _)); exact BK349.out) hb); have n1_ := Aside0.mk (blk_below (g := gb350) (o := .cells #[.slice A1_0 l1_0.length c1_0, .slice A1_1 l1_1.length c1_1] 26 (0, 0)) (by (with_reducible repeat (first | refine blk_drewN ?_ _ | refine blk_drew ?_ | refine blk_alloc ?_ _)); exact BK350.out) hb); have n2_ := Aside0.mk (below_step (by repeat (first | (with_reducible first | exact HB.out | apply below_alloc | apply pw_below_drewN | apply below_drew1 | refine below_set ?_ GE349.out | refine below_set ?_ GE350.out) | exact HB.out)) hb); clear BK349; clear BK350; clear HB; have BK349 := n0_; have BK350 := n1_; have HB := n2_; clear n0_ n1_ n2_; (try clear hb); (try clear hb2); (try clear hk); (try clear hi)))
  have n0_ := Aside0.mk (blk_drew BK349.out)
  have n1_ := Aside0.mk (blk_drew BK350.out)
  have n2_ := Aside0.mk (below_drew1 HB.out)
  clear BK349
  clear BK350
  clear HB
  have BK349 := n0_
  have BK350 := n1_
  have HB := n2_
  clear n0_ n1_ n2_
  refine start_ (n := 11) (S := fun w' => w'.cell? ⟨gb349, 0, none⟩ = some (.int .i64 a0_0) ∧ w'.cell? ⟨gb349, 1, none⟩ = some (.int .i64 a0_1) ∧ w'.cell? ⟨gb349, 2, none⟩ = some (.int .i64 a0_2) ∧ w'.cell? ⟨gb349, 3, none⟩ = some (.int .i64 a0_3) ∧ w'.cell? ⟨gb350, 0, none⟩ = some (.slice A1_0 l1_0.length c1_0) ∧ w'.cell? ⟨gb350, 1, none⟩ = some (.slice A1_1 l1_1.length c1_1)) (ds := []) #[false, false, false, false, false, false, false, false, false, false, false] (by kernel_rfl) rfl rfl ⟨(blk_cell BK349.out 0).trans rfl, (blk_cell BK349.out 1).trans rfl, (blk_cell BK349.out 2).trans rfl, (blk_cell BK349.out 3).trans rfl, (blk_cell BK350.out 0).trans rfl, (blk_cell BK350.out 1).trans rfl⟩ (fun hHeld => ?_); refine with_tabW laws_FnExactMoebiusTurns.tab5 laws_FnExactMoebiusTurns.bits5 (fun HT_ HW_ => ?_)
  generalize w22.drew = w23 at BK349 BK350 HB hHeld ⊢
  refine pure_ (i := 4) (N := some 28) (v := ?_) (a' := ?_) #[false, false, false, false, true, false, false, false, false, false, false] rfl rfl (any_of HT_.out (by kernel_rfl)) (fun _ _ _ h => h) (Or.inl ⟨by rfl, ?_⟩) ?_ ?_
  rotate_left
  ·
   intro w'
   go_simp
   with_reducible rfl
  rotate_left
  ·
   simp only [Act.put, sA_, sB_, sC_, i64_w, i32_w]
   rfl
  refine take_ (i := 0) (N := some 24) (v := ?_) (a' := ?_) #[true, false, false, false, true, false, false, false, false, false, false] rfl rfl (take_ofW HT_.out HW_.out (by kernel_rfl)) (fun _ _ _ h => h) (Or.inl ⟨by rfl, ?_⟩) hHeld ?_ ?_
  rotate_left
  ·
   rintro w' ⟨s0, s1, s2, s3, s4, s5⟩
   go_simp
   with_reducible rfl
  rotate_left
  ·
   simp only [Act.put, sA_, sB_, sC_, i64_w, i32_w]
   rfl
  refine take_ (i := 2) (N := some 26) (v := ?_) (a' := ?_) #[true, false, true, false, true, false, false, false, false, false, false] rfl rfl (take_ofW HT_.out HW_.out (by kernel_rfl)) (fun _ _ _ h => h) (Or.inl ⟨by rfl, ?_⟩) hHeld ?_ ?_
  rotate_left
  ·
   rintro w' ⟨s0, s1, s2, s3, s4, s5⟩
   go_simp
   with_reducible rfl
  rotate_left
  ·
   simp only [Act.put, sA_, sB_, sC_, i64_w, i32_w]
   rfl
  refine one_ (i := 1) (N := some 25) #[true, true, true, false, true, false, false, false, false, false, false] rfl rfl (one_of HT_.out (by kernel_rfl)) (by decide) (fun K hK => ?_)
  refine goes_ Try.func9 (by kernel_rfl) rfl #[.agg #[.int .i64 a0_0, .int .i64 a0_1, .int .i64 a0_2, .int .i64 a0_3]] (by rfl) rfl rfl (by (try simp only [List.map_toArray, List.map_cons, List.map_nil]); first | done | rfl | (simp only [List.length_drop, List.length_take]; rfl)) ?_
  with_reducible refine (laws_toMoebius.calls a0_0 a0_1 a0_2 a0_3 t352 t353 t354 t355 _ A11.out).mono ?_
  rintro e w24 ⟨rfl, hb⟩
  refine ⟨_, rfl, ?_⟩
  have n0_ := Aside0.mk (blk_below (g := gb349) (o := .cells #[.int .i64 a0_0, .int .i64 a0_1, .int .i64 a0_2, .int .i64 a0_3] 23 (0, 0)) (by (with_reducible repeat (first | refine blk_drewN ?_ _ | refine blk_drew ?_ | refine blk_alloc ?_ _)); exact BK349.out) hb)
  have n1_ := Aside0.mk (blk_below (g := gb350) (o := .cells #[.slice A1_0 l1_0.length c1_0, .slice A1_1 l1_1.length c1_1] 26 (0, 0)) (by (with_reducible repeat (first | refine blk_drewN ?_ _ | refine blk_drew ?_ | refine blk_alloc ?_ _)); exact BK350.out) hb)
  have n2_ := Aside0.mk (below_step (by repeat (first | (with_reducible first | exact HB.out | apply below_alloc | apply pw_below_drewN | apply below_drew1 | refine below_set ?_ GE349.out | refine below_set ?_ GE350.out) | exact HB.out)) hb)
  clear BK349
  clear BK350
  clear HB
  have BK349 := n0_
  have BK350 := n1_
  have HB := n2_
  clear n0_ n1_ n2_
  (try clear hb)
  (try clear hb2)
  (try clear hk)
  (try clear hi)
  refine hK.out _ _ ⟨(blk_cell BK349.out 0).trans rfl, (blk_cell BK349.out 1).trans rfl, (blk_cell BK349.out 2).trans rfl, (blk_cell BK349.out 3).trans rfl, (blk_cell BK350.out 0).trans rfl, (blk_cell BK350.out 1).trans rfl⟩ (fun hHeld => ?_)
  clear hK K
  refine norm_ (a' := ?_) ?_ ?_
  rotate_left
  ·
   show Act.put _ (some 25) _ = _
   simp only [Act.put, sA_, sB_, sC_, i64_w, i32_w]
   rfl
  refine one_ (i := 3) (N := some 27) #[true, true, true, true, true, false, false, false, false, false, false] rfl rfl (one_of HT_.out (by kernel_rfl)) (by decide) (fun K hK => ?_)
  refine goes_ Try.func10 (by kernel_rfl) rfl #[.agg #[.slice A1_0 l1_0.length c1_0, .slice A1_1 l1_1.length c1_1]] (by rfl) rfl rfl (by (try simp only [List.map_toArray, List.map_cons, List.map_nil]); first | done | rfl | (simp only [List.length_drop, List.length_take]; rfl)) ?_
  with_reducible refine (laws_toStream.calls k _ _ l1_0 _ _ l1_1 t356 t359 _ ?side1 ?side2 ?side3 ?side4 A12.out).mono ?_
  (case side1 => repeat (first | exact (Kd.C_below HR1_0.out HB.out) | (with_reducible refine Kd.C_alloc ?_ _) | (with_reducible refine Kd.C_drewN ?_ _) | (with_reducible refine Kd.C_drew ?_)))
  (case side2 => exact HC1_0.out)
  (case side3 => repeat (first | exact (Kd.C_below HR1_1.out HB.out) | (with_reducible refine Kd.C_alloc ?_ _) | (with_reducible refine Kd.C_drewN ?_ _) | (with_reducible refine Kd.C_drew ?_)))
  (case side4 => exact HC1_1.out)
  rintro e w25 ⟨v357, v360, rfl, ho0, ho1, hb⟩
  refine ⟨_, rfl, ?_⟩
  have n0_ := Aside0.mk (Kd.R_lower ho0 (below_size (by repeat (first | (with_reducible first | exact HB.out | apply below_alloc | apply pw_below_drewN | apply below_drew1 | refine below_set ?_ GE349.out | refine below_set ?_ GE350.out) | exact HB.out))))
  have n1_ := Aside0.mk (Kd.R_lower ho1 (below_size (by repeat (first | (with_reducible first | exact HB.out | apply below_alloc | apply pw_below_drewN | apply below_drew1 | refine below_set ?_ GE349.out | refine below_set ?_ GE350.out) | exact HB.out))))
  have n2_ := Aside0.mk (blk_below (g := gb349) (o := .cells #[.int .i64 a0_0, .int .i64 a0_1, .int .i64 a0_2, .int .i64 a0_3] 23 (0, 0)) (by (with_reducible repeat (first | refine blk_drewN ?_ _ | refine blk_drew ?_ | refine blk_alloc ?_ _)); exact BK349.out) hb)
  have n3_ := Aside0.mk (blk_below (g := gb350) (o := .cells #[.slice A1_0 l1_0.length c1_0, .slice A1_1 l1_1.length c1_1] 26 (0, 0)) (by (with_reducible repeat (first | refine blk_drewN ?_ _ | refine blk_drew ?_ | refine blk_alloc ?_ _)); exact BK350.out) hb)
  have n4_ := Aside0.mk (below_step (by repeat (first | (with_reducible first | exact HB.out | apply below_alloc | apply pw_below_drewN | apply below_drew1 | refine below_set ?_ GE349.out | refine below_set ?_ GE350.out) | exact HB.out)) hb)
  clear BK349
  clear BK350
  clear HB
  have HO358 := n0_
  have HO361 := n1_
  have BK349 := n2_
  have BK350 := n3_
  have HB := n4_
  clear n0_ n1_ n2_ n3_ n4_
  (try clear hb)
  (try clear hb2)
  (try clear hk)
  (try clear hi)
  (try clear ho0)
  (try clear ho1)
  obtain ⟨Ao26, co26, eo26⟩ := Kd.R_slice HO358.out
  (first | subst eo26 | (injection eo26 with f1_ f2_ f3_; have f4_ := f1_.symm; have f5_ := f3_.symm; clear f1_ f2_ f3_; subst f4_; subst f5_))
  obtain ⟨Ao27, co27, eo27⟩ := Kd.R_slice HO361.out
  (first | subst eo27 | (injection eo27 with f1_ f2_ f3_; have f4_ := f1_.symm; have f5_ := f3_.symm; clear f1_ f2_ f3_; subst f4_; subst f5_))
  refine hK.out _ _ ⟨(blk_cell BK349.out 0).trans rfl, (blk_cell BK349.out 1).trans rfl, (blk_cell BK349.out 2).trans rfl, (blk_cell BK349.out 3).trans rfl, (blk_cell BK350.out 0).trans rfl, (blk_cell BK350.out 1).trans rfl⟩ (fun hHeld => ?_)
  clear hK K
  refine norm_ (a' := ?_) ?_ ?_
  rotate_left
  ·
   show Act.put _ (some 27) _ = _
   simp only [Act.put, sA_, sB_, sC_, i64_w, i32_w]
   rfl
  refine one_ (i := 5) (N := some 29) #[true, true, true, true, true, true, false, false, false, false, false] rfl rfl (one_of HT_.out (by kernel_rfl)) (by decide) (fun K hK => ?_)
  refine goes_ Try.func8 (by kernel_rfl) rfl #[.agg #[.int .i64 t352, .int .i64 t353, .int .i64 t354, .int .i64 t355], .agg #[.slice Ao26 t356.length co26, .slice Ao27 t359.length co27], .int .i64 a2] (by rfl) rfl rfl (by (try simp only [List.map_toArray, List.map_cons, List.map_nil]); first | done | rfl | (simp only [List.length_drop, List.length_take]; rfl)) ?_
  with_reducible refine (spec_MoebiusTurns.calls k t352 t353 t354 t355 _ _ t356 _ _ t359 a2 t362 t365 _ ?side1 ?side2 ?side3 ?side4 A13.out).mono ?_
  (case side1 => repeat (first | exact (Kd.R_reads' HO358.out).2.2 | (with_reducible refine Kd.C_alloc ?_ _) | (with_reducible refine Kd.C_drewN ?_ _) | (with_reducible refine Kd.C_drew ?_)))
  (case side2 => exact (Kd.R_reads' HO358.out).2.1)
  (case side3 => repeat (first | exact (Kd.R_reads' HO361.out).2.2 | (with_reducible refine Kd.C_alloc ?_ _) | (with_reducible refine Kd.C_drewN ?_ _) | (with_reducible refine Kd.C_drew ?_)))
  (case side4 => exact (Kd.R_reads' HO361.out).2.1)
  rintro e w28 ⟨v363, rfl, ho0, hb⟩
  refine ⟨_, rfl, ?_⟩
  have n0_ := Aside0.mk (Kd.R_below (by (with_reducible repeat (first | apply Kd.R_alloc | apply Kd.R_drewN | apply Kd.R_drew)); exact HO358.out) hb)
  have n1_ := Aside0.mk (Kd.R_below (by (with_reducible repeat (first | apply Kd.R_alloc | apply Kd.R_drewN | apply Kd.R_drew)); exact HO361.out) hb)
  have n2_ := Aside0.mk (Kd.R_lower ho0 (below_size (by repeat (first | (with_reducible first | exact HB.out | apply below_alloc | apply pw_below_drewN | apply below_drew1 | refine below_set ?_ GE349.out | refine below_set ?_ GE350.out) | exact HB.out))))
  have n3_ := Aside0.mk (blk_below (g := gb349) (o := .cells #[.int .i64 a0_0, .int .i64 a0_1, .int .i64 a0_2, .int .i64 a0_3] 23 (0, 0)) (by (with_reducible repeat (first | refine blk_drewN ?_ _ | refine blk_drew ?_ | refine blk_alloc ?_ _)); exact BK349.out) hb)
  have n4_ := Aside0.mk (blk_below (g := gb350) (o := .cells #[.slice A1_0 l1_0.length c1_0, .slice A1_1 l1_1.length c1_1] 26 (0, 0)) (by (with_reducible repeat (first | refine blk_drewN ?_ _ | refine blk_drew ?_ | refine blk_alloc ?_ _)); exact BK350.out) hb)
  have n5_ := Aside0.mk (below_step (by repeat (first | (with_reducible first | exact HB.out | apply below_alloc | apply pw_below_drewN | apply below_drew1 | refine below_set ?_ GE349.out | refine below_set ?_ GE350.out) | exact HB.out)) hb)
  clear HO358
  clear HO361
  clear BK349
  clear BK350
  clear HB
  have HO358 := n0_
  have HO361 := n1_
  have HO364 := n2_
  have BK349 := n3_
  have BK350 := n4_
  have HB := n5_
  clear n0_ n1_ n2_ n3_ n4_ n5_
  (try clear hb)
  (try clear hb2)
  (try clear hk)
  (try clear hi)
  (try clear ho0)
  refine hK.out _ _ ⟨(blk_cell BK349.out 0).trans rfl, (blk_cell BK349.out 1).trans rfl, (blk_cell BK349.out 2).trans rfl, (blk_cell BK349.out 3).trans rfl, (blk_cell BK350.out 0).trans rfl, (blk_cell BK350.out 1).trans rfl⟩ (fun hHeld => ?_)
  clear hK K
  refine norm_ (a' := ?_) ?_ ?_
  rotate_left
  ·
   show Act.put _ (some 29) _ = _
   simp only [Act.put, sA_, sB_, sC_, i64_w, i32_w]
   rfl
  refine pure_ (i := 6) (N := some 23) (v := ?_) (a' := ?_) #[true, true, true, true, true, true, true, false, false, false, false] rfl rfl (any_of HT_.out (by kernel_rfl)) (fun _ _ _ h => h) (Or.inl ⟨by rfl, ?_⟩) ?_ ?_
  rotate_left
  ·
   intro w'
   go_simp
   with_reducible rfl
  rotate_left
  ·
   simp only [Act.put, sA_, sB_, sC_, i64_w, i32_w]
   rfl
  refine pure_ (i := 7) (N := some 30) (v := ?_) (a' := ?_) #[true, true, true, true, true, true, true, true, false, false, false] rfl rfl (any_of HT_.out (by kernel_rfl)) (fun _ _ _ h => h) (Or.inl ⟨by rfl, ?_⟩) ?_ ?_
  rotate_left
  ·
   intro w'
   go_simp
   with_reducible rfl
  rotate_left
  ·
   simp only [Act.put, sA_, sB_, sC_, i64_w, i32_w]
   rfl
  refine pure_ (i := 8) (N := some 31) (v := ?_) (a' := ?_) #[true, true, true, true, true, true, true, true, true, false, false] rfl rfl (any_of HT_.out (by kernel_rfl)) (fun _ _ _ h => h) (Or.inl ⟨by rfl, ?_⟩) ?_ ?_
  rotate_left
  ·
   intro w'
   go_simp
   with_reducible rfl
  rotate_left
  ·
   simp only [Act.put, sA_, sB_, sC_, i64_w, i32_w]
   rfl
  refine pure_ (i := 9) (N := some 8) (v := ?_) (a' := ?_) #[true, true, true, true, true, true, true, true, true, true, false] rfl rfl (any_of HT_.out (by kernel_rfl)) (fun _ _ _ h => h) (Or.inl ⟨by rfl, ?_⟩) ?_ ?_
  rotate_left
  ·
   intro w'
   go_simp
   with_reducible rfl
  rotate_left
  ·
   simp only [Act.put, sA_, sB_, sC_, i64_w, i32_w]
   rfl
  refine pure_ (i := 10) (N := some 9) (v := ?_) (a' := ?_) #[true, true, true, true, true, true, true, true, true, true, true] rfl rfl (any_of HT_.out (by kernel_rfl)) (fun _ _ _ h => h) (Or.inl ⟨by rfl, ?_⟩) ?_ ?_
  rotate_left
  ·
   intro w'
   go_simp
   with_reducible rfl
  rotate_left
  ·
   simp only [Act.put, sA_, sB_, sC_, i64_w, i32_w]
   rfl
  refine done_ (done_of HT_.out (by kernel_rfl)) ?_
  have hcz29_0 : w28.cell? ⟨gb350, 0, none⟩ = some (.slice A1_0 l1_0.length c1_0) := (blk_cell BK350.out 0).trans rfl
  have hcz29_1 : w28.cell? ⟨gb350, 1, none⟩ = some (.slice A1_1 l1_1.length c1_1) := (blk_cell BK350.out 1).trans rfl
  have hfz29_0 := blk_frozen BK350.out 0
  have hfz29_1 := blk_frozen BK350.out 1
  try go_wp2_with (first | ((with_reducible refine gate_callee (f := 10) rfl ?_); refine goesL_ (some 33) rfl rfl Try.func10 (by kernel_rfl) rfl #[.agg #[.slice A1_0 l1_0.length c1_0, .slice A1_1 l1_1.length c1_1]] rfl (by (try simp only [List.map_toArray, List.map_cons, List.map_nil]); first | done | rfl | (simp only [List.length_drop, List.length_take]; rfl)) ?_; (with_reducible refine (laws_toStream.calls k _ _ l1_0 _ _ l1_1 t366 t369 _ ?side1 ?side2 ?side3 ?side4 A14.out).mono ?_); (case side1 => repeat (first | exact (Kd.C_below HR1_0.out HB.out) | (with_reducible refine Kd.C_alloc ?_ _) | (with_reducible refine Kd.C_drewN ?_ _) | (with_reducible refine Kd.C_drew ?_))); (case side2 => exact HC1_0.out); (case side3 => repeat (first | exact (Kd.C_below HR1_1.out HB.out) | (with_reducible refine Kd.C_alloc ?_ _) | (with_reducible refine Kd.C_drewN ?_ _) | (with_reducible refine Kd.C_drew ?_))); (case side4 => exact HC1_1.out); rintro e w30 ⟨v367, v370, rfl, ho0, ho1, hb⟩; refine ⟨_, rfl, ?_⟩; have n0_ := Aside0.mk (Kd.R_mono (Kd.R_told (Kd.R_told (Kd.R_old (by (with_reducible repeat (first | apply Kd.R_alloc | apply Kd.R_drewN | apply Kd.R_drew)); exact HO358.out) hb) (Kd.R_base ho0)) (Kd.R_base ho1)) (fun _ h_ => h_.1)); have n1_ := Aside0.mk (Kd.R_mono (Kd.R_told (Kd.R_told (Kd.R_old (by (with_reducible repeat (first | apply Kd.R_alloc | apply Kd.R_drewN | apply Kd.R_drew)); exact HO361.out) hb) (Kd.R_base ho0)) (Kd.R_base ho1)) (fun _ h_ => h_.1)); have n2_ := Aside0.mk (Kd.R_below (by (with_reducible repeat (first | apply Kd.R_alloc | apply Kd.R_drewN | apply Kd.R_drew)); exact HO364.out) hb); have n3_ := Aside0.mk (Kd.R_lower (Kd.R_new' (Kd.R_new' ho0 (Kd.R_lt (by (with_reducible repeat (first | apply Kd.R_alloc | apply Kd.R_drewN | apply Kd.R_drew)); exact HO358.out))) (Kd.R_lt (by (with_reducible repeat (first | apply Kd.R_alloc | apply Kd.R_drewN | apply Kd.R_drew)); exact HO361.out))) (below_size (by repeat (first | (with_reducible first | exact HB.out | apply below_alloc | apply pw_below_drewN | apply below_drew1 | refine below_set ?_ GE349.out | refine below_set ?_ GE350.out) | exact HB.out)))); have n4_ := Aside0.mk (Kd.R_lower (Kd.R_new' (Kd.R_new' ho1 (Kd.R_lt (by (with_reducible repeat (first | apply Kd.R_alloc | apply Kd.R_drewN | apply Kd.R_drew)); exact HO358.out))) (Kd.R_lt (by (with_reducible repeat (first | apply Kd.R_alloc | apply Kd.R_drewN | apply Kd.R_drew)); exact HO361.out))) (below_size (by repeat (first | (with_reducible first | exact HB.out | apply below_alloc | apply pw_below_drewN | apply below_drew1 | refine below_set ?_ GE349.out | refine below_set ?_ GE350.out) | exact HB.out)))); have n5_ := Aside0.mk (blk_below (g := gb349) (o := .cells #[.int .i64 a0_0, .int .i64 a0_1, .int .i64 a0_2, .int .i64 a0_3] 23 (0, 0)) (by (with_reducible repeat (first | refine blk_drewN ?_ _ | refine blk_drew ?_ | refine blk_alloc ?_ _)); exact BK349.out) hb); have n6_ := Aside0.mk (blk_below (g := gb350) (o := .cells #[.slice A1_0 l1_0.length c1_0, .slice A1_1 l1_1.length c1_1] 26 (0, 0)) (by (with_reducible repeat (first | refine blk_drewN ?_ _ | refine blk_drew ?_ | refine blk_alloc ?_ _)); exact BK350.out) hb); have n7_ := Aside0.mk (below_step (by repeat (first | (with_reducible first | exact HB.out | apply below_alloc | apply pw_below_drewN | apply below_drew1 | refine below_set ?_ GE349.out | refine below_set ?_ GE350.out) | exact HB.out)) hb); clear HO358; clear HO361; clear HO364; clear BK349; clear BK350; clear HB; have HO358 := n0_; have HO361 := n1_; have HO364 := n2_; have HO368 := n3_; have HO371 := n4_; have BK349 := n5_; have BK350 := n6_; have HB := n7_; clear n0_ n1_ n2_ n3_ n4_ n5_ n6_ n7_; (try clear hb); (try clear hb2); (try clear hk); (try clear hi); (try clear ho0); (try clear ho1)) | ((with_reducible refine gate_dst (N := 10) rfl ?_); refine box_event ?hg (N := 10) ?hd (cs := #[.slice none 0 0, .slice none 0 0]) (t := 33) ?hr ?_; (case hd => rfl); (case hg => rfl); (case hr => first | (go_simp; done) | (go_simp; rfl)); intro gb372 hg w31 hbox hb; have n0_ := Aside0.mk (Kd.R_below (by (with_reducible repeat (first | apply Kd.R_alloc | apply Kd.R_drewN | apply Kd.R_drew)); exact HO358.out) hb); have n1_ := Aside0.mk (Kd.R_below (by (with_reducible repeat (first | apply Kd.R_alloc | apply Kd.R_drewN | apply Kd.R_drew)); exact HO361.out) hb); have n2_ := Aside0.mk (Kd.R_below (by (with_reducible repeat (first | apply Kd.R_alloc | apply Kd.R_drewN | apply Kd.R_drew)); exact HO364.out) hb); have n3_ := Aside0.mk (Kd.R_below (by (with_reducible repeat (first | apply Kd.R_alloc | apply Kd.R_drewN | apply Kd.R_drew)); exact HO368.out) hb); have n4_ := Aside0.mk (Kd.R_below (by (with_reducible repeat (first | apply Kd.R_alloc | apply Kd.R_drewN | apply Kd.R_drew)); exact HO371.out) hb); have n5_ := Aside0.mk (blk_below (g := gb349) (o := .cells #[.int .i64 a0_0, .int .i64 a0_1, .int .i64 a0_2, .int .i64 a0_3] 23 (0, 0)) (by (with_reducible repeat (first | refine blk_drewN ?_ _ | refine blk_drew ?_ | refine blk_alloc ?_ _)); exact BK349.out) hb); have n6_ := Aside0.mk (blk_below (g := gb350) (o := .cells #[.slice A1_0 l1_0.length c1_0, .slice A1_1 l1_1.length c1_1] 26 (0, 0)) (by (with_reducible repeat (first | refine blk_drewN ?_ _ | refine blk_drew ?_ | refine blk_alloc ?_ _)); exact BK350.out) hb); have n7_ := Aside0.mk (below_step (by repeat (first | (with_reducible first | exact HB.out | apply below_alloc | apply pw_below_drewN | apply below_drew1 | refine below_set ?_ GE349.out | refine below_set ?_ GE350.out) | exact HB.out)) hb); have n8_ := Aside0.mk (hbox); have n9_ := Aside0.mk ((by rw [hg]; exact (below_size (by repeat (first | (with_reducible first | exact HB.out | apply below_alloc | apply pw_below_drewN | apply below_drew1 | refine below_set ?_ GE349.out | refine below_set ?_ GE350.out) | exact HB.out))) : w.heap.size ≤ gb372)); have n10_ := Aside0.mk ((by rw [hg]; exact (below_size (by repeat (first | (with_reducible first | exact HB.out | apply below_alloc | apply pw_below_drewN | apply below_drew1 | refine below_set ?_ GE349.out | refine below_set ?_ GE350.out) | exact HB.out))) : w.heap.size ≤ gb372)); have n11_ := Aside0.mk ((by rw [hg]; exact Nat.ne_of_lt (blk_lt (g := gb349) (o := .cells #[.int .i64 a0_0, .int .i64 a0_1, .int .i64 a0_2, .int .i64 a0_3] 23 (0, 0)) (by (with_reducible repeat (first | refine blk_drewN ?_ _ | refine blk_drew ?_ | refine blk_alloc ?_ _)); exact BK349.out)) : gb349 ≠ gb372)); have n12_ := Aside0.mk ((by rw [hg]; exact Nat.ne_of_gt (blk_lt (g := gb349) (o := .cells #[.int .i64 a0_0, .int .i64 a0_1, .int .i64 a0_2, .int .i64 a0_3] 23 (0, 0)) (by (with_reducible repeat (first | refine blk_drewN ?_ _ | refine blk_drew ?_ | refine blk_alloc ?_ _)); exact BK349.out)) : gb372 ≠ gb349)); have n13_ := Aside0.mk ((by rw [hg]; exact Nat.ne_of_lt (blk_lt (g := gb350) (o := .cells #[.slice A1_0 l1_0.length c1_0, .slice A1_1 l1_1.length c1_1] 26 (0, 0)) (by (with_reducible repeat (first | refine blk_drewN ?_ _ | refine blk_drew ?_ | refine blk_alloc ?_ _)); exact BK350.out)) : gb350 ≠ gb372)); have n14_ := Aside0.mk ((by rw [hg]; exact Nat.ne_of_gt (blk_lt (g := gb350) (o := .cells #[.slice A1_0 l1_0.length c1_0, .slice A1_1 l1_1.length c1_1] 26 (0, 0)) (by (with_reducible repeat (first | refine blk_drewN ?_ _ | refine blk_drew ?_ | refine blk_alloc ?_ _)); exact BK350.out)) : gb372 ≠ gb350)); clear HO358; clear HO361; clear HO364; clear HO368; clear HO371; clear BK349; clear BK350; clear HB; have HO358 := n0_; have HO361 := n1_; have HO364 := n2_; have HO368 := n3_; have HO371 := n4_; have BK349 := n5_; have BK350 := n6_; have HB := n7_; have BK372 := n8_; have GW372 := n9_; have GE372 := n10_; have NB349_372 := n11_; have NB372_349 := n12_; have NB350_372 := n13_; have NB372_350 := n14_; clear n0_ n1_ n2_ n3_ n4_ n5_ n6_ n7_ n8_ n9_ n10_ n11_ n12_ n13_ n14_; clear hb hbox hg; obtain ⟨Ao32, co32, eo32⟩ := Kd.R_slice HO368.out; subst eo32; have hnb33 := NB372_349.out; have hnc33 := NB349_372.out; have hnb34 := NB372_350.out; have hnc34 := NB350_372.out; have hcz35_0 : w31.cell? ⟨gb372, 0, none⟩ = some (.slice none 0 0) := (blk_cell BK372.out 0).trans rfl; have hcz35_1 : w31.cell? ⟨gb372, 1, none⟩ = some (.slice none 0 0) := (blk_cell BK372.out 1).trans rfl; have hfz35_0 := blk_frozen BK372.out 0; have hfz35_1 := blk_frozen BK372.out 1; obtain ⟨Ao36, co36, eo36⟩ := Kd.R_slice HO371.out; subst eo36))
  have n0_ : Aside0 (Kd.R (Kd.int .i8) 49 ((w31.setCell ⟨gb372, 0, none⟩ (.slice Ao32 t366.length co32)).setCell ⟨gb372, 1, none⟩ (.slice Ao36 t369.length co36)) w.heap.size (fun k_ => some k_ ≠ (.slice Ao27 t359.length co27 : Value).ownBlock ∧ some k_ ≠ (.slice Ao32 t366.length co32 : Value).ownBlock ∧ some k_ ≠ (.slice Ao36 t369.length co36 : Value).ownBlock) (.slice Ao26 t356.length co26) t356) := ⟨by (with_reducible repeat (first | apply Kd.R_alloc | apply Kd.R_drewN | apply Kd.R_drew)); exact Kd.R_mono (Kd.R_far (p := ⟨gb372, 1, none⟩) (Kd.R_far (p := ⟨gb372, 0, none⟩) (Kd.R_types HO358.out BK372.out (by decide)) (fun _ hk => hk.2) (.slice Ao32 t366.length co32)) (fun _ hk => hk.2) (.slice Ao36 t369.length co36)) (fun _ hk => ⟨hk.1.1.1, ⟨hk.1.1.2, hk.1.2⟩⟩)⟩
  have n1_ : Aside0 (Kd.R (Kd.int .i8) 49 ((w31.setCell ⟨gb372, 0, none⟩ (.slice Ao32 t366.length co32)).setCell ⟨gb372, 1, none⟩ (.slice Ao36 t369.length co36)) w.heap.size (fun k_ => some k_ ≠ (.slice Ao26 t356.length co26 : Value).ownBlock ∧ some k_ ≠ (.slice Ao32 t366.length co32 : Value).ownBlock ∧ some k_ ≠ (.slice Ao36 t369.length co36 : Value).ownBlock) (.slice Ao27 t359.length co27) t359) := ⟨by (with_reducible repeat (first | apply Kd.R_alloc | apply Kd.R_drewN | apply Kd.R_drew)); exact Kd.R_mono (Kd.R_far (p := ⟨gb372, 1, none⟩) (Kd.R_far (p := ⟨gb372, 0, none⟩) (Kd.R_types HO361.out BK372.out (by decide)) (fun _ hk => hk.2) (.slice Ao32 t366.length co32)) (fun _ hk => hk.2) (.slice Ao36 t369.length co36)) (fun _ hk => ⟨hk.1.1.1, ⟨hk.1.1.2, hk.1.2⟩⟩)⟩
  have n2_ : Aside0 (Kd.R k51 51 ((w31.setCell ⟨gb372, 0, none⟩ (.slice Ao32 t366.length co32)).setCell ⟨gb372, 1, none⟩ (.slice Ao36 t369.length co36)) w.heap.size (fun _ => True) v363 t362) := ⟨by (with_reducible repeat (first | apply Kd.R_alloc | apply Kd.R_drewN | apply Kd.R_drew)); exact Kd.R_mono (Kd.R_far (p := ⟨gb372, 1, none⟩) (Kd.R_far (p := ⟨gb372, 0, none⟩) (Kd.R_types HO364.out BK372.out (by decide)) (fun _ hk => hk.2) (.slice Ao32 t366.length co32)) (fun _ hk => hk.2) (.slice Ao36 t369.length co36)) (fun _ hk => trivial)⟩
  have n3_ : Aside0 (Kd.R (Kd.int .i8) 49 ((w31.setCell ⟨gb372, 0, none⟩ (.slice Ao32 t366.length co32)).setCell ⟨gb372, 1, none⟩ (.slice Ao36 t369.length co36)) w.heap.size (fun k_ => some k_ ≠ (.slice Ao26 t356.length co26 : Value).ownBlock ∧ some k_ ≠ (.slice Ao27 t359.length co27 : Value).ownBlock ∧ some k_ ≠ (.slice Ao36 t369.length co36 : Value).ownBlock) (.slice Ao32 t366.length co32) t366) := ⟨by (with_reducible repeat (first | apply Kd.R_alloc | apply Kd.R_drewN | apply Kd.R_drew)); exact Kd.R_mono (Kd.R_far (p := ⟨gb372, 1, none⟩) (Kd.R_far (p := ⟨gb372, 0, none⟩) (Kd.R_types HO368.out BK372.out (by decide)) (fun _ hk => hk.2) (.slice Ao32 t366.length co32)) (fun _ hk => hk.2) (.slice Ao36 t369.length co36)) (fun _ hk => ⟨hk.1.1.2, ⟨hk.1.2, hk.1.1.1⟩⟩)⟩
  have n4_ : Aside0 (Kd.R (Kd.int .i8) 49 ((w31.setCell ⟨gb372, 0, none⟩ (.slice Ao32 t366.length co32)).setCell ⟨gb372, 1, none⟩ (.slice Ao36 t369.length co36)) w.heap.size (fun k_ => some k_ ≠ (.slice Ao26 t356.length co26 : Value).ownBlock ∧ some k_ ≠ (.slice Ao27 t359.length co27 : Value).ownBlock ∧ some k_ ≠ (.slice Ao32 t366.length co32 : Value).ownBlock) (.slice Ao36 t369.length co36) t369) := ⟨by (with_reducible repeat (first | apply Kd.R_alloc | apply Kd.R_drewN | apply Kd.R_drew)); exact Kd.R_mono (Kd.R_far (p := ⟨gb372, 1, none⟩) (Kd.R_far (p := ⟨gb372, 0, none⟩) (Kd.R_types HO371.out BK372.out (by decide)) (fun _ hk => hk.2) (.slice Ao32 t366.length co32)) (fun _ hk => hk.2) (.slice Ao36 t369.length co36)) (fun _ hk => ⟨hk.1.1.2, ⟨hk.1.2, hk.1.1.1⟩⟩)⟩
  have n5_ : Aside0 (((w31.setCell ⟨gb372, 0, none⟩ (.slice Ao32 t366.length co32)).setCell ⟨gb372, 1, none⟩ (.slice Ao36 t369.length co36)).heap[gb349]? = some (.cells #[.int .i64 a0_0, .int .i64 a0_1, .int .i64 a0_2, .int .i64 a0_3] 23 (0, 0))) := ⟨by (with_reducible repeat (first | refine blk_drewN ?_ _ | refine blk_drew ?_ | refine blk_alloc ?_ _)); refine blk_far ?_ NB349_372.out _; (with_reducible repeat (first | refine blk_drewN ?_ _ | refine blk_drew ?_ | refine blk_alloc ?_ _)); refine blk_far ?_ NB349_372.out _; (with_reducible repeat (first | refine blk_drewN ?_ _ | refine blk_drew ?_ | refine blk_alloc ?_ _)); exact BK349.out⟩
  have n6_ : Aside0 (((w31.setCell ⟨gb372, 0, none⟩ (.slice Ao32 t366.length co32)).setCell ⟨gb372, 1, none⟩ (.slice Ao36 t369.length co36)).heap[gb350]? = some (.cells #[.slice A1_0 l1_0.length c1_0, .slice A1_1 l1_1.length c1_1] 26 (0, 0))) := ⟨by (with_reducible repeat (first | refine blk_drewN ?_ _ | refine blk_drew ?_ | refine blk_alloc ?_ _)); refine blk_far ?_ NB350_372.out _; (with_reducible repeat (first | refine blk_drewN ?_ _ | refine blk_drew ?_ | refine blk_alloc ?_ _)); refine blk_far ?_ NB350_372.out _; (with_reducible repeat (first | refine blk_drewN ?_ _ | refine blk_drew ?_ | refine blk_alloc ?_ _)); exact BK350.out⟩
  have n7_ : Aside0 (((w31.setCell ⟨gb372, 0, none⟩ (.slice Ao32 t366.length co32)).setCell ⟨gb372, 1, none⟩ (.slice Ao36 t369.length co36)).heap[gb372]? = some (.cells #[.slice Ao32 t366.length co32, .slice Ao36 t369.length co36] 33 (0, 0))) := ⟨by (with_reducible repeat (first | refine blk_drewN ?_ _ | refine blk_drew ?_ | refine blk_alloc ?_ _)); refine blk_put (cs := #[.slice Ao32 t366.length co32, .slice none 0 0]) ?_ 1 _ rfl; (with_reducible repeat (first | refine blk_drewN ?_ _ | refine blk_drew ?_ | refine blk_alloc ?_ _)); refine blk_put (cs := #[.slice none 0 0, .slice none 0 0]) ?_ 0 _ rfl; (with_reducible repeat (first | refine blk_drewN ?_ _ | refine blk_drew ?_ | refine blk_alloc ?_ _)); exact BK372.out⟩
  have n8_ : Aside0 (Below w.heap.size w ((w31.setCell ⟨gb372, 0, none⟩ (.slice Ao32 t366.length co32)).setCell ⟨gb372, 1, none⟩ (.slice Ao36 t369.length co36))) := ⟨by repeat (first | (with_reducible first | exact HB.out | apply below_alloc | apply pw_below_drewN | apply below_drew1 | refine below_set ?_ GE349.out | refine below_set ?_ GE350.out | refine below_set ?_ GE372.out) | exact HB.out)⟩
  (try clear HO358)
  (try clear HO361)
  (try clear HO364)
  (try clear HO368)
  (try clear HO371)
  (try clear BK349)
  (try clear BK350)
  (try clear BK372)
  (try clear HB)
  generalize ((w31.setCell ⟨gb372, 0, none⟩ (.slice Ao32 t366.length co32)).setCell ⟨gb372, 1, none⟩ (.slice Ao36 t369.length co36)) = w37 at n0_ n1_ n2_ n3_ n4_ n5_ n6_ n7_ n8_ ⊢
  have HO358 := n0_
  have HO361 := n1_
  have HO364 := n2_
  have HO368 := n3_
  have HO371 := n4_
  have BK349 := n5_
  have BK350 := n6_
  have BK372 := n7_
  have HB := n8_
  clear n0_ n1_ n2_ n3_ n4_ n5_ n6_ n7_ n8_
  have n0_ := Aside0.mk (Kd.R_drew HO358.out)
  have n1_ := Aside0.mk (Kd.R_drew HO361.out)
  have n2_ := Aside0.mk (Kd.R_drew HO364.out)
  have n3_ := Aside0.mk (Kd.R_drew HO368.out)
  have n4_ := Aside0.mk (Kd.R_drew HO371.out)
  have n5_ := Aside0.mk (blk_drew BK349.out)
  have n6_ := Aside0.mk (blk_drew BK350.out)
  have n7_ := Aside0.mk (blk_drew BK372.out)
  have n8_ := Aside0.mk (below_drew1 HB.out)
  clear HO358
  clear HO361
  clear HO364
  clear HO368
  clear HO371
  clear BK349
  clear BK350
  clear BK372
  clear HB
  have HO358 := n0_
  have HO361 := n1_
  have HO364 := n2_
  have HO368 := n3_
  have HO371 := n4_
  have BK349 := n5_
  have BK350 := n6_
  have BK372 := n7_
  have HB := n8_
  clear n0_ n1_ n2_ n3_ n4_ n5_ n6_ n7_ n8_
  refine start_ (n := 10) (S := fun w' => w'.cell? ⟨gb349, 0, none⟩ = some (.int .i64 a0_0) ∧ w'.cell? ⟨gb349, 1, none⟩ = some (.int .i64 a0_1) ∧ w'.cell? ⟨gb349, 2, none⟩ = some (.int .i64 a0_2) ∧ w'.cell? ⟨gb349, 3, none⟩ = some (.int .i64 a0_3) ∧ w'.cell? ⟨gb372, 0, none⟩ = some (.slice Ao32 t366.length co32) ∧ w'.cell? ⟨gb372, 1, none⟩ = some (.slice Ao36 t369.length co36)) (ds := []) #[false, false, false, false, false, false, false, false, false, false] (by kernel_rfl) rfl rfl ⟨(blk_cell BK349.out 0).trans rfl, (blk_cell BK349.out 1).trans rfl, (blk_cell BK349.out 2).trans rfl, (blk_cell BK349.out 3).trans rfl, (blk_cell BK372.out 0).trans rfl, (blk_cell BK372.out 1).trans rfl⟩ (fun hHeld => ?_); refine with_tabW laws_FnExactMoebiusTurns.tab7 laws_FnExactMoebiusTurns.bits7 (fun HT_ HW_ => ?_)
  generalize w37.drew = w38 at HO358 HO361 HO364 HO368 HO371 BK349 BK350 BK372 HB hHeld ⊢
  refine pure_ (i := 3) (N := some 38) (v := ?_) (a' := ?_) #[false, false, false, true, false, false, false, false, false, false] rfl rfl (any_of HT_.out (by kernel_rfl)) (fun _ _ _ h => h) (Or.inl ⟨by rfl, ?_⟩) ?_ ?_
  rotate_left
  ·
   intro w'
   go_simp
   with_reducible rfl
  rotate_left
  ·
   simp only [Act.put, sA_, sB_, sC_, i64_w, i32_w]
   rfl
  refine take_ (i := 0) (N := some 35) (v := ?_) (a' := ?_) #[true, false, false, true, false, false, false, false, false, false] rfl rfl (take_ofW HT_.out HW_.out (by kernel_rfl)) (fun _ _ _ h => h) (Or.inl ⟨by rfl, ?_⟩) hHeld ?_ ?_
  rotate_left
  ·
   rintro w' ⟨s0, s1, s2, s3, s4, s5⟩
   go_simp
   with_reducible rfl
  rotate_left
  ·
   simp only [Act.put, sA_, sB_, sC_, i64_w, i32_w]
   rfl
  refine take_ (i := 2) (N := some 37) (v := ?_) (a' := ?_) #[true, false, true, true, false, false, false, false, false, false] rfl rfl (take_ofW HT_.out HW_.out (by kernel_rfl)) (fun _ _ _ h => h) (Or.inl ⟨by rfl, ?_⟩) hHeld ?_ ?_
  rotate_left
  ·
   rintro w' ⟨s0, s1, s2, s3, s4, s5⟩
   go_simp
   with_reducible rfl
  rotate_left
  ·
   simp only [Act.put, sA_, sB_, sC_, i64_w, i32_w]
   rfl
  refine one_ (i := 1) (N := some 36) #[true, true, true, true, false, false, false, false, false, false] rfl rfl (one_of HT_.out (by kernel_rfl)) (by decide) (fun K hK => ?_)
  refine goes_ Try.func9 (by kernel_rfl) rfl #[.agg #[.int .i64 a0_0, .int .i64 a0_1, .int .i64 a0_2, .int .i64 a0_3]] (by rfl) rfl rfl (by (try simp only [List.map_toArray, List.map_cons, List.map_nil]); first | done | rfl | (simp only [List.length_drop, List.length_take]; rfl)) ?_
  with_reducible refine (laws_toMoebius.calls a0_0 a0_1 a0_2 a0_3 t373 t374 t375 t376 _ A15.out).mono ?_
  rintro e w39 ⟨rfl, hb⟩
  refine ⟨_, rfl, ?_⟩
  have n0_ := Aside0.mk (Kd.R_below (by (with_reducible repeat (first | apply Kd.R_alloc | apply Kd.R_drewN | apply Kd.R_drew)); exact HO358.out) hb)
  have n1_ := Aside0.mk (Kd.R_below (by (with_reducible repeat (first | apply Kd.R_alloc | apply Kd.R_drewN | apply Kd.R_drew)); exact HO361.out) hb)
  have n2_ := Aside0.mk (Kd.R_below (by (with_reducible repeat (first | apply Kd.R_alloc | apply Kd.R_drewN | apply Kd.R_drew)); exact HO364.out) hb)
  have n3_ := Aside0.mk (Kd.R_below (by (with_reducible repeat (first | apply Kd.R_alloc | apply Kd.R_drewN | apply Kd.R_drew)); exact HO368.out) hb)
  have n4_ := Aside0.mk (Kd.R_below (by (with_reducible repeat (first | apply Kd.R_alloc | apply Kd.R_drewN | apply Kd.R_drew)); exact HO371.out) hb)
  have n5_ := Aside0.mk (blk_below (g := gb349) (o := .cells #[.int .i64 a0_0, .int .i64 a0_1, .int .i64 a0_2, .int .i64 a0_3] 23 (0, 0)) (by (with_reducible repeat (first | refine blk_drewN ?_ _ | refine blk_drew ?_ | refine blk_alloc ?_ _)); exact BK349.out) hb)
  have n6_ := Aside0.mk (blk_below (g := gb350) (o := .cells #[.slice A1_0 l1_0.length c1_0, .slice A1_1 l1_1.length c1_1] 26 (0, 0)) (by (with_reducible repeat (first | refine blk_drewN ?_ _ | refine blk_drew ?_ | refine blk_alloc ?_ _)); exact BK350.out) hb)
  have n7_ := Aside0.mk (blk_below (g := gb372) (o := .cells #[.slice Ao32 t366.length co32, .slice Ao36 t369.length co36] 33 (0, 0)) (by (with_reducible repeat (first | refine blk_drewN ?_ _ | refine blk_drew ?_ | refine blk_alloc ?_ _)); exact BK372.out) hb)
  have n8_ := Aside0.mk (below_step (by repeat (first | (with_reducible first | exact HB.out | apply below_alloc | apply pw_below_drewN | apply below_drew1 | refine below_set ?_ GE349.out | refine below_set ?_ GE350.out | refine below_set ?_ GE372.out) | exact HB.out)) hb)
  clear HO358
  clear HO361
  clear HO364
  clear HO368
  clear HO371
  clear BK349
  clear BK350
  clear BK372
  clear HB
  have HO358 := n0_
  have HO361 := n1_
  have HO364 := n2_
  have HO368 := n3_
  have HO371 := n4_
  have BK349 := n5_
  have BK350 := n6_
  have BK372 := n7_
  have HB := n8_
  clear n0_ n1_ n2_ n3_ n4_ n5_ n6_ n7_ n8_
  (try clear hb)
  (try clear hb2)
  (try clear hk)
  (try clear hi)
  refine hK.out _ _ ⟨(blk_cell BK349.out 0).trans rfl, (blk_cell BK349.out 1).trans rfl, (blk_cell BK349.out 2).trans rfl, (blk_cell BK349.out 3).trans rfl, (blk_cell BK372.out 0).trans rfl, (blk_cell BK372.out 1).trans rfl⟩ (fun hHeld => ?_)
  clear hK K
  refine norm_ (a' := ?_) ?_ ?_
  rotate_left
  ·
   show Act.put _ (some 36) _ = _
   simp only [Act.put, sA_, sB_, sC_, i64_w, i32_w]
   rfl
  refine one_ (i := 4) (N := some 39) #[true, true, true, true, true, false, false, false, false, false] rfl rfl (one_of HT_.out (by kernel_rfl)) (by decide) (fun K hK => ?_)
  refine goes_ Try.func11 (by kernel_rfl) rfl #[.agg #[.int .i64 t373, .int .i64 t374, .int .i64 t375, .int .i64 t376], .agg #[.slice Ao32 t366.length co32, .slice Ao36 t369.length co36], .int .i64 a2] (by rfl) rfl rfl (by (try simp only [List.map_toArray, List.map_cons, List.map_nil]); first | done | rfl | (simp only [List.length_drop, List.length_take]; rfl)) ?_
  with_reducible refine (impl_MoebiusTurns.calls k t373 t374 t375 t376 _ _ t366 _ _ t369 a2 t377 t380 _ ?side1 ?side2 ?side3 ?side4 A16.out).mono ?_
  (case side1 => repeat (first | exact (Kd.R_reads' HO368.out).2.2 | (with_reducible refine Kd.C_alloc ?_ _) | (with_reducible refine Kd.C_drewN ?_ _) | (with_reducible refine Kd.C_drew ?_)))
  (case side2 => exact (Kd.R_reads' HO368.out).2.1)
  (case side3 => repeat (first | exact (Kd.R_reads' HO371.out).2.2 | (with_reducible refine Kd.C_alloc ?_ _) | (with_reducible refine Kd.C_drewN ?_ _) | (with_reducible refine Kd.C_drew ?_)))
  (case side4 => exact (Kd.R_reads' HO371.out).2.1)
  rintro e w40 ⟨v378, rfl, ho0, hb⟩
  refine ⟨_, rfl, ?_⟩
  have n0_ := Aside0.mk (Kd.R_below (by (with_reducible repeat (first | apply Kd.R_alloc | apply Kd.R_drewN | apply Kd.R_drew)); exact HO358.out) hb)
  have n1_ := Aside0.mk (Kd.R_below (by (with_reducible repeat (first | apply Kd.R_alloc | apply Kd.R_drewN | apply Kd.R_drew)); exact HO361.out) hb)
  have n2_ := Aside0.mk (Kd.R_elder' (by (with_reducible repeat (first | apply Kd.R_alloc | apply Kd.R_drewN | apply Kd.R_drew)); exact HO364.out) (Kd.R_base ho0) hb)
  have n3_ := Aside0.mk (Kd.R_below (by (with_reducible repeat (first | apply Kd.R_alloc | apply Kd.R_drewN | apply Kd.R_drew)); exact HO368.out) hb)
  have n4_ := Aside0.mk (Kd.R_below (by (with_reducible repeat (first | apply Kd.R_alloc | apply Kd.R_drewN | apply Kd.R_drew)); exact HO371.out) hb)
  have n5_ := Aside0.mk (Kd.R_lower (Kd.R_new' ho0 (Kd.R_lt (by (with_reducible repeat (first | apply Kd.R_alloc | apply Kd.R_drewN | apply Kd.R_drew)); exact HO364.out))) (below_size (by repeat (first | (with_reducible first | exact HB.out | apply below_alloc | apply pw_below_drewN | apply below_drew1 | refine below_set ?_ GE349.out | refine below_set ?_ GE350.out | refine below_set ?_ GE372.out) | exact HB.out))))
  have n6_ := Aside0.mk (blk_below (g := gb349) (o := .cells #[.int .i64 a0_0, .int .i64 a0_1, .int .i64 a0_2, .int .i64 a0_3] 23 (0, 0)) (by (with_reducible repeat (first | refine blk_drewN ?_ _ | refine blk_drew ?_ | refine blk_alloc ?_ _)); exact BK349.out) hb)
  have n7_ := Aside0.mk (blk_below (g := gb350) (o := .cells #[.slice A1_0 l1_0.length c1_0, .slice A1_1 l1_1.length c1_1] 26 (0, 0)) (by (with_reducible repeat (first | refine blk_drewN ?_ _ | refine blk_drew ?_ | refine blk_alloc ?_ _)); exact BK350.out) hb)
  have n8_ := Aside0.mk (blk_below (g := gb372) (o := .cells #[.slice Ao32 t366.length co32, .slice Ao36 t369.length co36] 33 (0, 0)) (by (with_reducible repeat (first | refine blk_drewN ?_ _ | refine blk_drew ?_ | refine blk_alloc ?_ _)); exact BK372.out) hb)
  have n9_ := Aside0.mk (below_step (by repeat (first | (with_reducible first | exact HB.out | apply below_alloc | apply pw_below_drewN | apply below_drew1 | refine below_set ?_ GE349.out | refine below_set ?_ GE350.out | refine below_set ?_ GE372.out) | exact HB.out)) hb)
  clear HO358
  clear HO361
  clear HO364
  clear HO368
  clear HO371
  clear BK349
  clear BK350
  clear BK372
  clear HB
  have HO358 := n0_
  have HO361 := n1_
  have HO364 := n2_
  have HO368 := n3_
  have HO371 := n4_
  have HO379 := n5_
  have BK349 := n6_
  have BK350 := n7_
  have BK372 := n8_
  have HB := n9_
  clear n0_ n1_ n2_ n3_ n4_ n5_ n6_ n7_ n8_ n9_
  (try clear hb)
  (try clear hb2)
  (try clear hk)
  (try clear hi)
  (try clear ho0)
  refine hK.out _ _ ⟨(blk_cell BK349.out 0).trans rfl, (blk_cell BK349.out 1).trans rfl, (blk_cell BK349.out 2).trans rfl, (blk_cell BK349.out 3).trans rfl, (blk_cell BK372.out 0).trans rfl, (blk_cell BK372.out 1).trans rfl⟩ (fun hHeld => ?_)
  clear hK K
  refine norm_ (a' := ?_) ?_ ?_
  rotate_left
  ·
   show Act.put _ (some 39) _ = _
   simp only [Act.put, sA_, sB_, sC_, i64_w, i32_w]
   rfl
  refine pure_ (i := 5) (N := some 34) (v := ?_) (a' := ?_) #[true, true, true, true, true, true, false, false, false, false] rfl rfl (any_of HT_.out (by kernel_rfl)) (fun _ _ _ h => h) (Or.inl ⟨by rfl, ?_⟩) ?_ ?_
  rotate_left
  ·
   intro w'
   go_simp
   with_reducible rfl
  rotate_left
  ·
   simp only [Act.put, sA_, sB_, sC_, i64_w, i32_w]
   rfl
  refine pure_ (i := 6) (N := some 40) (v := ?_) (a' := ?_) #[true, true, true, true, true, true, true, false, false, false] rfl rfl (any_of HT_.out (by kernel_rfl)) (fun _ _ _ h => h) (Or.inl ⟨by rfl, ?_⟩) ?_ ?_
  rotate_left
  ·
   intro w'
   go_simp
   with_reducible rfl
  rotate_left
  ·
   simp only [Act.put, sA_, sB_, sC_, i64_w, i32_w]
   rfl
  refine pure_ (i := 7) (N := some 41) (v := ?_) (a' := ?_) #[true, true, true, true, true, true, true, true, false, false] rfl rfl (any_of HT_.out (by kernel_rfl)) (fun _ _ _ h => h) (Or.inl ⟨by rfl, ?_⟩) ?_ ?_
  rotate_left
  ·
   intro w'
   go_simp
   with_reducible rfl
  rotate_left
  ·
   simp only [Act.put, sA_, sB_, sC_, i64_w, i32_w]
   rfl
  refine pure_ (i := 8) (N := some 11) (v := ?_) (a' := ?_) #[true, true, true, true, true, true, true, true, true, false] rfl rfl (any_of HT_.out (by kernel_rfl)) (fun _ _ _ h => h) (Or.inl ⟨by rfl, ?_⟩) ?_ ?_
  rotate_left
  ·
   intro w'
   go_simp
   with_reducible rfl
  rotate_left
  ·
   simp only [Act.put, sA_, sB_, sC_, i64_w, i32_w]
   rfl
  refine pure_ (i := 9) (N := some 12) (v := ?_) (a' := ?_) #[true, true, true, true, true, true, true, true, true, true] rfl rfl (any_of HT_.out (by kernel_rfl)) (fun _ _ _ h => h) (Or.inl ⟨by rfl, ?_⟩) ?_ ?_
  rotate_left
  ·
   intro w'
   go_simp
   with_reducible rfl
  rotate_left
  ·
   simp only [Act.put, sA_, sB_, sC_, i64_w, i32_w]
   rfl
  refine done_ (done_of HT_.out (by kernel_rfl)) ?_
  go_upto_region 8 with (fail)
  go_cut [50] (fun v50 wc => ∃ (kq : Nat) (x50_16 : Bool), v50 = .bool x50_16 ∧ Aside0 (laws_FnExactMoebiusTurns.j0 kq a2 t362 t365 t377 t380 x50_16 a0_0 a0_1 a0_2 a0_3 l1_0 l1_1 t366 t369 = some true) ∧ Aside0 (kq ≤ k) ∧ Aside0 (Kd.R k51 51 wc w.heap.size (fun k_ => some k_ ≠ (v378 : Value).ownBlock) v363 t362) ∧ Aside0 (Kd.R k51 51 wc w.heap.size (fun k_ => some k_ ≠ (v363 : Value).ownBlock) v378 t377) ∧ Aside0 (Kd.R (Kd.int .i8) 49 wc w.heap.size (fun k_ => some k_ ≠ ((.slice Ao36 t369.length co36) : Value).ownBlock) (.slice Ao32 t366.length co32) t366) ∧ Aside0 (Kd.R (Kd.int .i8) 49 wc w.heap.size (fun k_ => some k_ ≠ ((.slice Ao32 t366.length co32) : Value).ownBlock) (.slice Ao36 t369.length co36) t369) ∧ Aside0 (wc.heap[gb349]? = some (.cells #[.int .i64 a0_0, .int .i64 a0_1, .int .i64 a0_2, .int .i64 a0_3] 23 (0, 0))) ∧ Aside0 (wc.heap[gb350]? = some (.cells #[(.slice A1_0 l1_0.length c1_0), (.slice A1_1 l1_1.length c1_1)] 26 (0, 0))) ∧ Aside0 (wc.heap[gb372]? = some (.cells #[(.slice Ao32 t366.length co32), (.slice Ao36 t369.length co36)] 33 (0, 0))) ∧ Aside0 (Below w.heap.size w wc))
  case first =>
   have H := HC17.out
   clear HC17
   replace H := Option.bind_eq_some_iff.mp H
   obtain ⟨t381, A410, H⟩ := H
   replace H : (if t381 = true then (laws_FnExactMoebiusTurns.j0 k a2 t362 t365 t377 t380 (t380 != t365) a0_0 a0_1 a0_2 a0_3 l1_0 l1_1 t366 t369) else (laws_FnExactMoebiusTurns.j0 k a2 t362 t365 t377 t380 true a0_0 a0_1 a0_2 a0_3 l1_0 l1_1 t366 t369)) = some true := H
   have A41 := Aside0.mk A410
   clear A410
   by_cases c42 : t381 = true
   ·
    subst c42
    have H1 : (laws_FnExactMoebiusTurns.j0 k a2 t362 t365 t377 t380 (t380 != t365) a0_0 a0_1 a0_2 a0_3 l1_0 l1_1 t366 t369) = some true := by rw [if_pos rfl] at H; exact H
    clear H
    have H := H1
    clear H1
    have H' := Aside0.mk H
    clear H
    obtain ⟨Ao43, co43, eo43⟩ := Kd.R_slice HO379.out
    subst eo43
    obtain ⟨Ao44, co44, eo44⟩ := Kd.R_slice HO364.out
    subst eo44
    go_wp2_with (first | ((with_reducible refine gate_callee (f := 12) rfl ?_); refine goesL_ (some 44) rfl rfl Try.func12 (by kernel_rfl) rfl #[.slice Ao43 t377.length co43, .slice Ao44 t362.length co44] rfl (by (try simp only [List.map_toArray, List.map_cons, List.map_nil]); first | done | rfl | (simp only [List.length_drop, List.length_take]; rfl)) ?_; (with_reducible refine (laws_eqTurnS.calls k _ _ t377 _ _ t362 true _ ?side1 ?side2 ?side3 ?side4 A41.out).mono ?_); (case side1 => repeat (first | exact (Kd.R_reads' HO379.out).2.2 | (with_reducible refine Kd.C_alloc ?_ _) | (with_reducible refine Kd.C_drewN ?_ _) | (with_reducible refine Kd.C_drew ?_))); (case side2 => exact (Kd.R_reads' HO379.out).2.1); (case side3 => repeat (first | exact (Kd.R_reads' HO364.out).2.2 | (with_reducible refine Kd.C_alloc ?_ _) | (with_reducible refine Kd.C_drewN ?_ _) | (with_reducible refine Kd.C_drew ?_))); (case side4 => exact (Kd.R_reads' HO364.out).2.1); rintro e w45 ⟨rfl, hb⟩; refine ⟨_, rfl, ?_⟩; have n0_ := Aside0.mk (Kd.R_below (by (with_reducible repeat (first | apply Kd.R_alloc | apply Kd.R_drewN | apply Kd.R_drew)); exact HO358.out) hb); have n1_ := Aside0.mk (Kd.R_below (by (with_reducible repeat (first | apply Kd.R_alloc | apply Kd.R_drewN | apply Kd.R_drew)); exact HO361.out) hb); have n2_ := Aside0.mk (Kd.R_below (by (with_reducible repeat (first | apply Kd.R_alloc | apply Kd.R_drewN | apply Kd.R_drew)); exact HO364.out) hb); have n3_ := Aside0.mk (Kd.R_below (by (with_reducible repeat (first | apply Kd.R_alloc | apply Kd.R_drewN | apply Kd.R_drew)); exact HO368.out) hb); have n4_ := Aside0.mk (Kd.R_below (by (with_reducible repeat (first | apply Kd.R_alloc | apply Kd.R_drewN | apply Kd.R_drew)); exact HO371.out) hb); have n5_ := Aside0.mk (Kd.R_below (by (with_reducible repeat (first | apply Kd.R_alloc | apply Kd.R_drewN | apply Kd.R_drew)); exact HO379.out) hb); have n6_ := Aside0.mk (blk_below (g := gb349) (o := .cells #[.int .i64 a0_0, .int .i64 a0_1, .int .i64 a0_2, .int .i64 a0_3] 23 (0, 0)) (by (with_reducible repeat (first | refine blk_drewN ?_ _ | refine blk_drew ?_ | refine blk_alloc ?_ _)); exact BK349.out) hb); have n7_ := Aside0.mk (blk_below (g := gb350) (o := .cells #[.slice A1_0 l1_0.length c1_0, .slice A1_1 l1_1.length c1_1] 26 (0, 0)) (by (with_reducible repeat (first | refine blk_drewN ?_ _ | refine blk_drew ?_ | refine blk_alloc ?_ _)); exact BK350.out) hb); have n8_ := Aside0.mk (blk_below (g := gb372) (o := .cells #[.slice Ao32 t366.length co32, .slice Ao36 t369.length co36] 33 (0, 0)) (by (with_reducible repeat (first | refine blk_drewN ?_ _ | refine blk_drew ?_ | refine blk_alloc ?_ _)); exact BK372.out) hb); have n9_ := Aside0.mk (below_step (by repeat (first | (with_reducible first | exact HB.out | apply below_alloc | apply pw_below_drewN | apply below_drew1 | refine below_set ?_ GE349.out | refine below_set ?_ GE350.out | refine below_set ?_ GE372.out) | exact HB.out)) hb); clear HO358; clear HO361; clear HO364; clear HO368; clear HO371; clear HO379; clear BK349; clear BK350; clear BK372; clear HB; have HO358 := n0_; have HO361 := n1_; have HO364 := n2_; have HO368 := n3_; have HO371 := n4_; have HO379 := n5_; have BK349 := n6_; have BK350 := n7_; have BK372 := n8_; have HB := n9_; clear n0_ n1_ n2_ n3_ n4_ n5_ n6_ n7_ n8_ n9_; (try clear hb); (try clear hb2); (try clear hk); (try clear hi)))
    go_meet
    case rel => exact ⟨_, ((t380 != t365)), (by first | rfl | (simp; done) | (simp [*]; done)), H', ⟨by first | omega | exact Nat.le_refl _⟩, ⟨by (with_reducible repeat (first | apply Kd.R_alloc | apply Kd.R_drewN | apply Kd.R_drew)); exact Kd.R_mono HO364.out (fun _ hk => hk.2)⟩, ⟨by (with_reducible repeat (first | apply Kd.R_alloc | apply Kd.R_drewN | apply Kd.R_drew)); exact Kd.R_mono HO379.out (fun _ hk => hk.2)⟩, ⟨by (with_reducible repeat (first | apply Kd.R_alloc | apply Kd.R_drewN | apply Kd.R_drew)); exact Kd.R_mono HO368.out (fun _ hk => hk.2.2)⟩, ⟨by (with_reducible repeat (first | apply Kd.R_alloc | apply Kd.R_drewN | apply Kd.R_drew)); exact Kd.R_mono HO371.out (fun _ hk => hk.2.2)⟩, ⟨by (with_reducible repeat (first | refine blk_drewN ?_ _ | refine blk_drew ?_ | refine blk_alloc ?_ _)); exact BK349.out⟩, ⟨by (with_reducible repeat (first | refine blk_drewN ?_ _ | refine blk_drew ?_ | refine blk_alloc ?_ _)); exact BK350.out⟩, ⟨by (with_reducible repeat (first | refine blk_drewN ?_ _ | refine blk_drew ?_ | refine blk_alloc ?_ _)); exact BK372.out⟩, ⟨by repeat (first | (with_reducible first | exact HB.out | apply below_alloc | apply pw_below_drewN | apply below_drew1 | refine below_set ?_ GE349.out | refine below_set ?_ GE350.out | refine below_set ?_ GE372.out) | exact HB.out)⟩⟩
   ·
    replace c42 := Bool.eq_false_iff.mpr c42
    subst c42
    have H1 : (laws_FnExactMoebiusTurns.j0 k a2 t362 t365 t377 t380 true a0_0 a0_1 a0_2 a0_3 l1_0 l1_1 t366 t369) = some true := by rw [if_neg (show ¬ (false = true) by decide)] at H; exact H
    clear H
    have H := H1
    clear H1
    have H' := Aside0.mk H
    clear H
    obtain ⟨Ao46, co46, eo46⟩ := Kd.R_slice HO379.out
    subst eo46
    obtain ⟨Ao47, co47, eo47⟩ := Kd.R_slice HO364.out
    subst eo47
    go_wp2_with (first | ((with_reducible refine gate_callee (f := 12) rfl ?_); refine goesL_ (some 44) rfl rfl Try.func12 (by kernel_rfl) rfl #[.slice Ao46 t377.length co46, .slice Ao47 t362.length co47] rfl (by (try simp only [List.map_toArray, List.map_cons, List.map_nil]); first | done | rfl | (simp only [List.length_drop, List.length_take]; rfl)) ?_; (with_reducible refine (laws_eqTurnS.calls k _ _ t377 _ _ t362 false _ ?side1 ?side2 ?side3 ?side4 A41.out).mono ?_); (case side1 => repeat (first | exact (Kd.R_reads' HO379.out).2.2 | (with_reducible refine Kd.C_alloc ?_ _) | (with_reducible refine Kd.C_drewN ?_ _) | (with_reducible refine Kd.C_drew ?_))); (case side2 => exact (Kd.R_reads' HO379.out).2.1); (case side3 => repeat (first | exact (Kd.R_reads' HO364.out).2.2 | (with_reducible refine Kd.C_alloc ?_ _) | (with_reducible refine Kd.C_drewN ?_ _) | (with_reducible refine Kd.C_drew ?_))); (case side4 => exact (Kd.R_reads' HO364.out).2.1); rintro e w48 ⟨rfl, hb⟩; refine ⟨_, rfl, ?_⟩; have n0_ := Aside0.mk (Kd.R_below (by (with_reducible repeat (first | apply Kd.R_alloc | apply Kd.R_drewN | apply Kd.R_drew)); exact HO358.out) hb); have n1_ := Aside0.mk (Kd.R_below (by (with_reducible repeat (first | apply Kd.R_alloc | apply Kd.R_drewN | apply Kd.R_drew)); exact HO361.out) hb); have n2_ := Aside0.mk (Kd.R_below (by (with_reducible repeat (first | apply Kd.R_alloc | apply Kd.R_drewN | apply Kd.R_drew)); exact HO364.out) hb); have n3_ := Aside0.mk (Kd.R_below (by (with_reducible repeat (first | apply Kd.R_alloc | apply Kd.R_drewN | apply Kd.R_drew)); exact HO368.out) hb); have n4_ := Aside0.mk (Kd.R_below (by (with_reducible repeat (first | apply Kd.R_alloc | apply Kd.R_drewN | apply Kd.R_drew)); exact HO371.out) hb); have n5_ := Aside0.mk (Kd.R_below (by (with_reducible repeat (first | apply Kd.R_alloc | apply Kd.R_drewN | apply Kd.R_drew)); exact HO379.out) hb); have n6_ := Aside0.mk (blk_below (g := gb349) (o := .cells #[.int .i64 a0_0, .int .i64 a0_1, .int .i64 a0_2, .int .i64 a0_3] 23 (0, 0)) (by (with_reducible repeat (first | refine blk_drewN ?_ _ | refine blk_drew ?_ | refine blk_alloc ?_ _)); exact BK349.out) hb); have n7_ := Aside0.mk (blk_below (g := gb350) (o := .cells #[.slice A1_0 l1_0.length c1_0, .slice A1_1 l1_1.length c1_1] 26 (0, 0)) (by (with_reducible repeat (first | refine blk_drewN ?_ _ | refine blk_drew ?_ | refine blk_alloc ?_ _)); exact BK350.out) hb); have n8_ := Aside0.mk (blk_below (g := gb372) (o := .cells #[.slice Ao32 t366.length co32, .slice Ao36 t369.length co36] 33 (0, 0)) (by (with_reducible repeat (first | refine blk_drewN ?_ _ | refine blk_drew ?_ | refine blk_alloc ?_ _)); exact BK372.out) hb); have n9_ := Aside0.mk (below_step (by repeat (first | (with_reducible first | exact HB.out | apply below_alloc | apply pw_below_drewN | apply below_drew1 | refine below_set ?_ GE349.out | refine below_set ?_ GE350.out | refine below_set ?_ GE372.out) | exact HB.out)) hb); clear HO358; clear HO361; clear HO364; clear HO368; clear HO371; clear HO379; clear BK349; clear BK350; clear BK372; clear HB; have HO358 := n0_; have HO361 := n1_; have HO364 := n2_; have HO368 := n3_; have HO371 := n4_; have HO379 := n5_; have BK349 := n6_; have BK350 := n7_; have BK372 := n8_; have HB := n9_; clear n0_ n1_ n2_ n3_ n4_ n5_ n6_ n7_ n8_ n9_; (try clear hb); (try clear hb2); (try clear hk); (try clear hi)))
    go_meet
    case rel => exact ⟨_, (true), (by first | rfl | (simp; done) | (simp [*]; done)), H', ⟨by first | omega | exact Nat.le_refl _⟩, ⟨by (with_reducible repeat (first | apply Kd.R_alloc | apply Kd.R_drewN | apply Kd.R_drew)); exact Kd.R_mono HO364.out (fun _ hk => hk.2)⟩, ⟨by (with_reducible repeat (first | apply Kd.R_alloc | apply Kd.R_drewN | apply Kd.R_drew)); exact Kd.R_mono HO379.out (fun _ hk => hk.2)⟩, ⟨by (with_reducible repeat (first | apply Kd.R_alloc | apply Kd.R_drewN | apply Kd.R_drew)); exact Kd.R_mono HO368.out (fun _ hk => hk.2.2)⟩, ⟨by (with_reducible repeat (first | apply Kd.R_alloc | apply Kd.R_drewN | apply Kd.R_drew)); exact Kd.R_mono HO371.out (fun _ hk => hk.2.2)⟩, ⟨by (with_reducible repeat (first | refine blk_drewN ?_ _ | refine blk_drew ?_ | refine blk_alloc ?_ _)); exact BK349.out⟩, ⟨by (with_reducible repeat (first | refine blk_drewN ?_ _ | refine blk_drew ?_ | refine blk_alloc ?_ _)); exact BK350.out⟩, ⟨by (with_reducible repeat (first | refine blk_drewN ?_ _ | refine blk_drew ?_ | refine blk_alloc ?_ _)); exact BK372.out⟩, ⟨by repeat (first | (with_reducible first | exact HB.out | apply below_alloc | apply pw_below_drewN | apply below_drew1 | refine below_set ?_ GE349.out | refine below_set ?_ GE350.out | refine below_set ?_ GE372.out) | exact HB.out)⟩⟩
  case rest =>
   clear HC17
   try clear c1
   try clear c2
   try clear p2
   try clear c3
   try clear c4
   try clear c5
   try clear c5b0
   try clear c7
   try clear c8
   try clear c9
   try clear c10
   try clear c11
   try clear c12
   try clear c20
   try clear c33
   try clear c34
   try clear c42
   try clear hcz21_0
   try clear hcz21_1
   try clear hcz29_0
   try clear hcz29_1
   try clear hcz35_0
   try clear hcz35_1
   try clear hcz9_0
   try clear hcz9_1
   try clear hfz21_0
   try clear hfz21_1
   try clear hfz29_0
   try clear hfz29_1
   try clear hfz35_0
   try clear hfz35_1
   try clear hfz9_0
   try clear hfz9_1
   obtain ⟨kq, x50_16, rfl, HA, HJ16, HO_8, HO_11, HO_373000, HO_373001, BK349, BK350, BK372, HB⟩ := hcut
   cases kq with
   | zero => exact absurd HA.out (by simp [laws_FnExactMoebiusTurns.j0])
   | succ kj16 =>
    have H := HA.out
    clear HA
    simp only [laws_FnExactMoebiusTurns.j0] at H
    by_cases c49 : x50_16 = true
    ·
     subst c49
     have H1 : (some false) = some true := by rw [if_pos rfl] at H; exact H
     clear H
     have H := H1
     clear H1
     exact absurd H (by decide)
    ·
     replace c49 := Bool.eq_false_iff.mpr c49
     subst c49
     have H1 : ((laws_toStream.f kj16 l1_0 l1_1).bind fun bt382 => ((laws_eqStream.f kj16 t366 t369 bt382.1 bt382.2).bind fun t388 => (if t388 = true then ((laws_markStream.f kj16 t366 t369 1).bind fun bt389 => (if bt389.1 < 0 then (laws_FnExactMoebiusTurns.j1 kj16 a2 t362 t365 t377 true a0_0 a0_1 a0_2 a0_3 l1_0 l1_1) else ((laws_eqTurnS.f kj16 t377 t362).bind fun t392 => (if t392 = true then (laws_FnExactMoebiusTurns.j1 kj16 a2 t362 t365 t377 (t380 != t365) a0_0 a0_1 a0_2 a0_3 l1_0 l1_1) else (laws_FnExactMoebiusTurns.j1 kj16 a2 t362 t365 t377 true a0_0 a0_1 a0_2 a0_3 l1_0 l1_1))))) else (some false)))) = some true := by rw [if_neg (show ¬ (false = true) by decide)] at H; exact H
     clear H
     have H := H1
     clear H1
     replace H := Option.bind_eq_some_iff.mp H
     obtain ⟨⟨t382, t385⟩, A500, H⟩ := H
     replace H : ((laws_eqStream.f kj16 t366 t369 t382 t385).bind fun t388 => (if t388 = true then ((laws_markStream.f kj16 t366 t369 1).bind fun bt389 => (if bt389.1 < 0 then (laws_FnExactMoebiusTurns.j1 kj16 a2 t362 t365 t377 true a0_0 a0_1 a0_2 a0_3 l1_0 l1_1) else ((laws_eqTurnS.f kj16 t377 t362).bind fun t392 => (if t392 = true then (laws_FnExactMoebiusTurns.j1 kj16 a2 t362 t365 t377 (t380 != t365) a0_0 a0_1 a0_2 a0_3 l1_0 l1_1) else (laws_FnExactMoebiusTurns.j1 kj16 a2 t362 t365 t377 true a0_0 a0_1 a0_2 a0_3 l1_0 l1_1))))) else (some false))) = some true := H
     have A50 := Aside0.mk A500
     clear A500
     replace H := Option.bind_eq_some_iff.mp H
     obtain ⟨t388, A510, H⟩ := H
     replace H : (if t388 = true then ((laws_markStream.f kj16 t366 t369 1).bind fun bt389 => (if bt389.1 < 0 then (laws_FnExactMoebiusTurns.j1 kj16 a2 t362 t365 t377 true a0_0 a0_1 a0_2 a0_3 l1_0 l1_1) else ((laws_eqTurnS.f kj16 t377 t362).bind fun t392 => (if t392 = true then (laws_FnExactMoebiusTurns.j1 kj16 a2 t362 t365 t377 (t380 != t365) a0_0 a0_1 a0_2 a0_3 l1_0 l1_1) else (laws_FnExactMoebiusTurns.j1 kj16 a2 t362 t365 t377 true a0_0 a0_1 a0_2 a0_3 l1_0 l1_1))))) else (some false)) = some true := H
     have A51 := Aside0.mk A510
     clear A510
     by_cases c52 : t388 = true
     ·
      subst c52
      have H1 : ((laws_markStream.f kj16 t366 t369 1).bind fun bt389 => (if bt389.1 < 0 then (laws_FnExactMoebiusTurns.j1 kj16 a2 t362 t365 t377 true a0_0 a0_1 a0_2 a0_3 l1_0 l1_1) else ((laws_eqTurnS.f kj16 t377 t362).bind fun t392 => (if t392 = true then (laws_FnExactMoebiusTurns.j1 kj16 a2 t362 t365 t377 (t380 != t365) a0_0 a0_1 a0_2 a0_3 l1_0 l1_1) else (laws_FnExactMoebiusTurns.j1 kj16 a2 t362 t365 t377 true a0_0 a0_1 a0_2 a0_3 l1_0 l1_1))))) = some true := by rw [if_pos rfl] at H; exact H
      clear H
      have H := H1
      clear H1
      replace H := Option.bind_eq_some_iff.mp H
      obtain ⟨⟨t389, t390, t391⟩, A530, H⟩ := H
      replace H : (if t389 < 0 then (laws_FnExactMoebiusTurns.j1 kj16 a2 t362 t365 t377 true a0_0 a0_1 a0_2 a0_3 l1_0 l1_1) else ((laws_eqTurnS.f kj16 t377 t362).bind fun t392 => (if t392 = true then (laws_FnExactMoebiusTurns.j1 kj16 a2 t362 t365 t377 (t380 != t365) a0_0 a0_1 a0_2 a0_3 l1_0 l1_1) else (laws_FnExactMoebiusTurns.j1 kj16 a2 t362 t365 t377 true a0_0 a0_1 a0_2 a0_3 l1_0 l1_1)))) = some true := H
      have A53 := Aside0.mk A530
      clear A530
      have HC54 := Aside0.mk H
      clear H
      try go_wp2
      have n0_ := Aside0.mk (Kd.R_drew HO_8.out)
      have n1_ := Aside0.mk (Kd.R_drew HO_11.out)
      have n2_ := Aside0.mk (Kd.R_drew HO_373000.out)
      have n3_ := Aside0.mk (Kd.R_drew HO_373001.out)
      have n4_ := Aside0.mk (blk_drew BK349.out)
      have n5_ := Aside0.mk (blk_drew BK350.out)
      have n6_ := Aside0.mk (blk_drew BK372.out)
      have n7_ := Aside0.mk (below_drew1 HB.out)
      clear HO_8
      clear HO_11
      clear HO_373000
      clear HO_373001
      clear BK349
      clear BK350
      clear BK372
      clear HB
      have HO_8 := n0_
      have HO_11 := n1_
      have HO_373000 := n2_
      have HO_373001 := n3_
      have BK349 := n4_
      have BK350 := n5_
      have BK372 := n6_
      have HB := n7_
      clear n0_ n1_ n2_ n3_ n4_ n5_ n6_ n7_
      refine start_ (n := 5) (S := fun w' => w'.cell? ⟨gb372, 0, none⟩ = some (.slice Ao32 t366.length co32) ∧ w'.cell? ⟨gb372, 1, none⟩ = some (.slice Ao36 t369.length co36) ∧ w'.cell? ⟨gb350, 0, none⟩ = some (.slice A1_0 l1_0.length c1_0) ∧ w'.cell? ⟨gb350, 1, none⟩ = some (.slice A1_1 l1_1.length c1_1)) (ds := []) #[false, false, false, false, false] (by kernel_rfl) rfl rfl ⟨(blk_cell BK372.out 0).trans rfl, (blk_cell BK372.out 1).trans rfl, (blk_cell BK350.out 0).trans rfl, (blk_cell BK350.out 1).trans rfl⟩ (fun hHeld => ?_)
      generalize wc.drew = w55 at HO_8 HO_11 HO_373000 HO_373001 BK349 BK350 BK372 HB hHeld ⊢
      refine take_ (i := 0) (N := some 51) (v := ?_) (a' := ?_) #[true, false, false, false, false] rfl rfl (by kernel_rfl) (fun _ _ _ h => h) (Or.inl ⟨by rfl, ?_⟩) hHeld ?_ ?_
      rotate_left
      ·
       rintro w' ⟨s0, s1, s2, s3⟩
       go_simp
       with_reducible rfl
      rotate_left
      ·
       simp only [Act.put, sA_, sB_, sC_, i64_w, i32_w]
       rfl
      refine take_ (i := 1) (N := some 52) (v := ?_) (a' := ?_) #[true, true, false, false, false] rfl rfl (by kernel_rfl) (fun _ _ _ h => h) (Or.inl ⟨by rfl, ?_⟩) hHeld ?_ ?_
      rotate_left
      ·
       rintro w' ⟨s0, s1, s2, s3⟩
       go_simp
       with_reducible rfl
      rotate_left
      ·
       simp only [Act.put, sA_, sB_, sC_, i64_w, i32_w]
       rfl
      refine one_ (i := 2) (N := some 53) #[true, true, true, false, false] rfl rfl (by kernel_rfl) (by decide) (fun K hK => ?_)
      refine goes_ Try.func10 (by kernel_rfl) rfl #[.agg #[.slice A1_0 l1_0.length c1_0, .slice A1_1 l1_1.length c1_1]] (by rfl) rfl rfl (by (try simp only [List.map_toArray, List.map_cons, List.map_nil]); first | done | rfl | (simp only [List.length_drop, List.length_take]; rfl)) ?_
      with_reducible refine (laws_toStream.calls kj16 _ _ l1_0 _ _ l1_1 t382 t385 _ ?side1 ?side2 ?side3 ?side4 A50.out).mono ?_
      (case side1 => repeat (first | exact (Kd.C_below HR1_0.out HB.out) | (with_reducible refine Kd.C_alloc ?_ _) | (with_reducible refine Kd.C_drewN ?_ _) | (with_reducible refine Kd.C_drew ?_)))
      (case side2 => exact HC1_0.out)
      (case side3 => repeat (first | exact (Kd.C_below HR1_1.out HB.out) | (with_reducible refine Kd.C_alloc ?_ _) | (with_reducible refine Kd.C_drewN ?_ _) | (with_reducible refine Kd.C_drew ?_)))
      (case side4 => exact HC1_1.out)
      rintro e w56 ⟨v383, v386, rfl, ho0, ho1, hb⟩
      refine ⟨_, rfl, ?_⟩
      have n0_ := Aside0.mk (Kd.R_below (by (with_reducible repeat (first | apply Kd.R_alloc | apply Kd.R_drewN | apply Kd.R_drew)); exact HO_8.out) hb)
      have n1_ := Aside0.mk (Kd.R_below (by (with_reducible repeat (first | apply Kd.R_alloc | apply Kd.R_drewN | apply Kd.R_drew)); exact HO_11.out) hb)
      have n2_ := Aside0.mk (Kd.R_mono (Kd.R_told (Kd.R_told (Kd.R_old (by (with_reducible repeat (first | apply Kd.R_alloc | apply Kd.R_drewN | apply Kd.R_drew)); exact HO_373000.out) hb) (Kd.R_base ho0)) (Kd.R_base ho1)) (fun _ h_ => h_.1))
      have n3_ := Aside0.mk (Kd.R_mono (Kd.R_told (Kd.R_told (Kd.R_old (by (with_reducible repeat (first | apply Kd.R_alloc | apply Kd.R_drewN | apply Kd.R_drew)); exact HO_373001.out) hb) (Kd.R_base ho0)) (Kd.R_base ho1)) (fun _ h_ => h_.1))
      have n4_ := Aside0.mk (Kd.R_lower (Kd.R_new' (Kd.R_new' ho0 (Kd.R_lt (by (with_reducible repeat (first | apply Kd.R_alloc | apply Kd.R_drewN | apply Kd.R_drew)); exact HO_373000.out))) (Kd.R_lt (by (with_reducible repeat (first | apply Kd.R_alloc | apply Kd.R_drewN | apply Kd.R_drew)); exact HO_373001.out))) (below_size (by repeat (first | (with_reducible first | exact HB.out | apply below_alloc | apply pw_below_drewN | apply below_drew1 | refine below_set ?_ GE349.out | refine below_set ?_ GE350.out | refine below_set ?_ GE372.out) | exact HB.out))))
      have n5_ := Aside0.mk (Kd.R_lower (Kd.R_new' (Kd.R_new' ho1 (Kd.R_lt (by (with_reducible repeat (first | apply Kd.R_alloc | apply Kd.R_drewN | apply Kd.R_drew)); exact HO_373000.out))) (Kd.R_lt (by (with_reducible repeat (first | apply Kd.R_alloc | apply Kd.R_drewN | apply Kd.R_drew)); exact HO_373001.out))) (below_size (by repeat (first | (with_reducible first | exact HB.out | apply below_alloc | apply pw_below_drewN | apply below_drew1 | refine below_set ?_ GE349.out | refine below_set ?_ GE350.out | refine below_set ?_ GE372.out) | exact HB.out))))
      have n6_ := Aside0.mk (blk_below (g := gb349) (o := .cells #[.int .i64 a0_0, .int .i64 a0_1, .int .i64 a0_2, .int .i64 a0_3] 23 (0, 0)) (by (with_reducible repeat (first | refine blk_drewN ?_ _ | refine blk_drew ?_ | refine blk_alloc ?_ _)); exact BK349.out) hb)
      have n7_ := Aside0.mk (blk_below (g := gb350) (o := .cells #[.slice A1_0 l1_0.length c1_0, .slice A1_1 l1_1.length c1_1] 26 (0, 0)) (by (with_reducible repeat (first | refine blk_drewN ?_ _ | refine blk_drew ?_ | refine blk_alloc ?_ _)); exact BK350.out) hb)
      have n8_ := Aside0.mk (blk_below (g := gb372) (o := .cells #[.slice Ao32 t366.length co32, .slice Ao36 t369.length co36] 33 (0, 0)) (by (with_reducible repeat (first | refine blk_drewN ?_ _ | refine blk_drew ?_ | refine blk_alloc ?_ _)); exact BK372.out) hb)
      have n9_ := Aside0.mk (below_step (by repeat (first | (with_reducible first | exact HB.out | apply below_alloc | apply pw_below_drewN | apply below_drew1 | refine below_set ?_ GE349.out | refine below_set ?_ GE350.out | refine below_set ?_ GE372.out) | exact HB.out)) hb)
      clear HO_8
      clear HO_11
      clear HO_373000
      clear HO_373001
      clear BK349
      clear BK350
      clear BK372
      clear HB
      have HO_8 := n0_
      have HO_11 := n1_
      have HO_373000 := n2_
      have HO_373001 := n3_
      have HO384 := n4_
      have HO387 := n5_
      have BK349 := n6_
      have BK350 := n7_
      have BK372 := n8_
      have HB := n9_
      clear n0_ n1_ n2_ n3_ n4_ n5_ n6_ n7_ n8_ n9_
      (try clear hb)
      (try clear hb2)
      (try clear hk)
      (try clear hi)
      (try clear ho0)
      (try clear ho1)
      obtain ⟨Ao57, co57, eo57⟩ := Kd.R_slice HO384.out
      (first | subst eo57 | (injection eo57 with f1_ f2_ f3_; have f4_ := f1_.symm; have f5_ := f3_.symm; clear f1_ f2_ f3_; subst f4_; subst f5_))
      obtain ⟨Ao58, co58, eo58⟩ := Kd.R_slice HO387.out
      (first | subst eo58 | (injection eo58 with f1_ f2_ f3_; have f4_ := f1_.symm; have f5_ := f3_.symm; clear f1_ f2_ f3_; subst f4_; subst f5_))
      refine hK.out _ _ ⟨(blk_cell BK372.out 0).trans rfl, (blk_cell BK372.out 1).trans rfl, (blk_cell BK350.out 0).trans rfl, (blk_cell BK350.out 1).trans rfl⟩ (fun hHeld => ?_)
      clear hK K
      refine norm_ (a' := ?_) ?_ ?_
      rotate_left
      ·
       show Act.put _ (some 53) _ = _
       simp only [Act.put, sA_, sB_, sC_, i64_w, i32_w]
       rfl
      refine one_ (i := 3) (N := some 54) #[true, true, true, true, false] rfl rfl (by kernel_rfl) (by decide) (fun K hK => ?_)
      refine goes_ Try.func13 (by kernel_rfl) rfl #[.agg #[.slice Ao32 t366.length co32, .slice Ao36 t369.length co36], .agg #[.slice Ao57 t382.length co57, .slice Ao58 t385.length co58]] (by rfl) rfl rfl (by (try simp only [List.map_toArray, List.map_cons, List.map_nil]); first | done | rfl | (simp only [List.length_drop, List.length_take]; rfl)) ?_
      with_reducible refine (laws_eqStream.calls kj16 _ _ t366 _ _ t369 _ _ t382 _ _ t385 true _ ?side1 ?side2 ?side3 ?side4 ?side5 ?side6 ?side7 ?side8 A51.out).mono ?_
      (case side1 => repeat (first | exact (Kd.R_reads' HO_373000.out).2.2 | (with_reducible refine Kd.C_alloc ?_ _) | (with_reducible refine Kd.C_drewN ?_ _) | (with_reducible refine Kd.C_drew ?_)))
      (case side2 => exact (Kd.R_reads' HO_373000.out).2.1)
      (case side3 => repeat (first | exact (Kd.R_reads' HO_373001.out).2.2 | (with_reducible refine Kd.C_alloc ?_ _) | (with_reducible refine Kd.C_drewN ?_ _) | (with_reducible refine Kd.C_drew ?_)))
      (case side4 => exact (Kd.R_reads' HO_373001.out).2.1)
      (case side5 => repeat (first | exact (Kd.R_reads' HO384.out).2.2 | (with_reducible refine Kd.C_alloc ?_ _) | (with_reducible refine Kd.C_drewN ?_ _) | (with_reducible refine Kd.C_drew ?_)))
      (case side6 => exact (Kd.R_reads' HO384.out).2.1)
      (case side7 => repeat (first | exact (Kd.R_reads' HO387.out).2.2 | (with_reducible refine Kd.C_alloc ?_ _) | (with_reducible refine Kd.C_drewN ?_ _) | (with_reducible refine Kd.C_drew ?_)))
      (case side8 => exact (Kd.R_reads' HO387.out).2.1)
      rintro e w59 ⟨rfl, hb⟩
      refine ⟨_, rfl, ?_⟩
      have n0_ := Aside0.mk (Kd.R_below (by (with_reducible repeat (first | apply Kd.R_alloc | apply Kd.R_drewN | apply Kd.R_drew)); exact HO_8.out) hb)
      have n1_ := Aside0.mk (Kd.R_below (by (with_reducible repeat (first | apply Kd.R_alloc | apply Kd.R_drewN | apply Kd.R_drew)); exact HO_11.out) hb)
      have n2_ := Aside0.mk (Kd.R_below (by (with_reducible repeat (first | apply Kd.R_alloc | apply Kd.R_drewN | apply Kd.R_drew)); exact HO_373000.out) hb)
      have n3_ := Aside0.mk (Kd.R_below (by (with_reducible repeat (first | apply Kd.R_alloc | apply Kd.R_drewN | apply Kd.R_drew)); exact HO_373001.out) hb)
      have n4_ := Aside0.mk (Kd.R_below (by (with_reducible repeat (first | apply Kd.R_alloc | apply Kd.R_drewN | apply Kd.R_drew)); exact HO384.out) hb)
      have n5_ := Aside0.mk (Kd.R_below (by (with_reducible repeat (first | apply Kd.R_alloc | apply Kd.R_drewN | apply Kd.R_drew)); exact HO387.out) hb)
      have n6_ := Aside0.mk (blk_below (g := gb349) (o := .cells #[.int .i64 a0_0, .int .i64 a0_1, .int .i64 a0_2, .int .i64 a0_3] 23 (0, 0)) (by (with_reducible repeat (first | refine blk_drewN ?_ _ | refine blk_drew ?_ | refine blk_alloc ?_ _)); exact BK349.out) hb)
      have n7_ := Aside0.mk (blk_below (g := gb350) (o := .cells #[.slice A1_0 l1_0.length c1_0, .slice A1_1 l1_1.length c1_1] 26 (0, 0)) (by (with_reducible repeat (first | refine blk_drewN ?_ _ | refine blk_drew ?_ | refine blk_alloc ?_ _)); exact BK350.out) hb)
      have n8_ := Aside0.mk (blk_below (g := gb372) (o := .cells #[.slice Ao32 t366.length co32, .slice Ao36 t369.length co36] 33 (0, 0)) (by (with_reducible repeat (first | refine blk_drewN ?_ _ | refine blk_drew ?_ | refine blk_alloc ?_ _)); exact BK372.out) hb)
      have n9_ := Aside0.mk (below_step (by repeat (first | (with_reducible first | exact HB.out | apply below_alloc | apply pw_below_drewN | apply below_drew1 | refine below_set ?_ GE349.out | refine below_set ?_ GE350.out | refine below_set ?_ GE372.out) | exact HB.out)) hb)
      clear HO_8
      clear HO_11
      clear HO_373000
      clear HO_373001
      clear HO384
      clear HO387
      clear BK349
      clear BK350
      clear BK372
      clear HB
      have HO_8 := n0_
      have HO_11 := n1_
      have HO_373000 := n2_
      have HO_373001 := n3_
      have HO384 := n4_
      have HO387 := n5_
      have BK349 := n6_
      have BK350 := n7_
      have BK372 := n8_
      have HB := n9_
      clear n0_ n1_ n2_ n3_ n4_ n5_ n6_ n7_ n8_ n9_
      (try clear hb)
      (try clear hb2)
      (try clear hk)
      (try clear hi)
      refine hK.out _ _ ⟨(blk_cell BK372.out 0).trans rfl, (blk_cell BK372.out 1).trans rfl, (blk_cell BK350.out 0).trans rfl, (blk_cell BK350.out 1).trans rfl⟩ (fun hHeld => ?_)
      clear hK K
      refine norm_ (a' := ?_) ?_ ?_
      rotate_left
      ·
       show Act.put _ (some 54) _ = _
       simp only [Act.put, sA_, sB_, sC_, i64_w, i32_w]
       rfl
      refine pure_ (i := 4) (N := some 55) (v := ?_) (a' := ?_) #[true, true, true, true, true] rfl rfl (by kernel_rfl) (fun _ _ _ h => h) (Or.inl ⟨by rfl, ?_⟩) ?_ ?_
      rotate_left
      ·
       intro w'
       go_simp
       with_reducible rfl
      rotate_left
      ·
       simp only [Act.put, sA_, sB_, sC_, i64_w, i32_w]
       rfl
      refine done_ (by kernel_rfl) ?_
      have hnb60 := NB372_349.out
      have hnc60 := NB349_372.out
      have hnb61 := NB372_350.out
      have hnc61 := NB350_372.out
      have hcz62_0 : w59.cell? ⟨gb372, 0, none⟩ = some (.slice Ao32 t366.length co32) := (blk_cell BK372.out 0).trans rfl
      have hcz62_1 : w59.cell? ⟨gb372, 1, none⟩ = some (.slice Ao36 t369.length co36) := (blk_cell BK372.out 1).trans rfl
      have hfz62_0 := blk_frozen BK372.out 0
      have hfz62_1 := blk_frozen BK372.out 1
      go_upto_region 14 with (first | ((with_reducible refine gate_callee (f := 14) rfl ?_); refine goesL_ (some 58) rfl rfl Try.func14 (by kernel_rfl) rfl #[.agg #[.slice Ao32 t366.length co32, .slice Ao36 t369.length co36], .int .i64 1] rfl (by (try simp only [List.map_toArray, List.map_cons, List.map_nil]); first | done | rfl | (simp only [List.length_drop, List.length_take]; rfl)) ?_; (with_reducible refine (laws_markStream.calls kj16 (fun k_ => some k_ = (.slice Ao32 t366.length co32 : Value).ownBlock) (.slice Ao32 t366.length co32) t366 (fun k_ => some k_ = (.slice Ao36 t369.length co36 : Value).ownBlock) (.slice Ao36 t369.length co36) t369 1 t389 t390 t391 w _ ?side1 ?side2 ?side3 ?side4 ?side5 A53.out).mono ?_); (case side1 => repeat (first | (with_reducible first | exact HB.out | apply below_alloc | apply pw_below_drewN | apply below_drew1 | refine below_set ?_ GE349.out | refine below_set ?_ GE350.out | refine below_set ?_ GE372.out) | exact HB.out)); (case side2 => exact Kd.R_tight rfl HO_373000.out); (case side3 => exact fun k_ e_ => (HO_373000.out.1 k_ e_.symm).1.1); (case side4 => exact Kd.R_tight rfl HO_373001.out); (case side5 => exact fun k_ e_ => (HO_373001.out.1 k_ e_.symm).1.1); rintro e w63 ⟨rfl, hy0, hy1, hb, hkp⟩; refine ⟨_, rfl, ?_⟩; have n0_ := Aside0.mk (Kd.R_mono (ok' := fun k_ => some k_ ≠ (v378 : Value).ownBlock) (Kd.R_keptB ((Kd.R_apart' (Kd.R_apart' HO_8.out (Kd.R_typed HO_373000.out) (by decide)) (Kd.R_typed HO_373001.out) (by decide))) hkp (fun k_ hk_ hs_ => Or.elim hs_ (fun e_ => (hk_.1.2) e_) (fun e_ => (hk_.2) e_))) (fun k_ hk_ => hk_.1.1.1)); have n1_ := Aside0.mk (Kd.R_mono (ok' := fun k_ => some k_ ≠ (v363 : Value).ownBlock) (Kd.R_keptB ((Kd.R_apart' (Kd.R_apart' HO_11.out (Kd.R_typed HO_373000.out) (by decide)) (Kd.R_typed HO_373001.out) (by decide))) hkp (fun k_ hk_ hs_ => Or.elim hs_ (fun e_ => (hk_.1.2) e_) (fun e_ => (hk_.2) e_))) (fun k_ hk_ => hk_.1.1.1)); have n2_ := Aside0.mk (Kd.R_reok rfl hy0 (fun k_ e_ => HO_373000.out.1 k_ e_)); have n3_ := Aside0.mk (Kd.R_reok rfl hy1 (fun k_ e_ => HO_373001.out.1 k_ e_)); have n4_ := Aside0.mk (blk_kept (by (with_reducible repeat (first | refine blk_drewN ?_ _ | refine blk_drew ?_ | refine blk_alloc ?_ _)); exact BK349.out) hkp (fun hs_ => Or.elim hs_ (fun e_ => (fun e_ => (Kd.R_ne HO_373000.out BK349.out (by decide)) e_) e_) (fun e_ => (fun e_ => (Kd.R_ne HO_373001.out BK349.out (by decide)) e_) e_))); have n5_ := Aside0.mk (blk_kept (by (with_reducible repeat (first | refine blk_drewN ?_ _ | refine blk_drew ?_ | refine blk_alloc ?_ _)); exact BK350.out) hkp (fun hs_ => Or.elim hs_ (fun e_ => (fun e_ => (Kd.R_ne HO_373000.out BK350.out (by decide)) e_) e_) (fun e_ => (fun e_ => (Kd.R_ne HO_373001.out BK350.out (by decide)) e_) e_))); have n6_ := Aside0.mk (blk_kept (by (with_reducible repeat (first | refine blk_drewN ?_ _ | refine blk_drew ?_ | refine blk_alloc ?_ _)); exact BK372.out) hkp (fun hs_ => Or.elim hs_ (fun e_ => (fun e_ => (Kd.R_ne HO_373000.out BK372.out (by decide)) e_) e_) (fun e_ => (fun e_ => (Kd.R_ne HO_373001.out BK372.out (by decide)) e_) e_))); have n7_ := Aside0.mk (Kd.R_mono (ok' := fun k_ => some k_ ≠ (.slice Ao32 t366.length co32 : Value).ownBlock ∧ some k_ ≠ (.slice Ao36 t369.length co36 : Value).ownBlock ∧ some k_ ≠ (.slice Ao58 t385.length co58 : Value).ownBlock) (Kd.R_keptB (HO384.out) hkp (fun k_ hk_ hs_ => Or.elim hs_ (fun e_ => (hk_.1.2) e_) (fun e_ => (hk_.2) e_))) (fun k_ hk_ => ⟨hk_.1.1.2, hk_.1.2, hk_.1.1.1⟩)); have n8_ := Aside0.mk (Kd.R_mono (ok' := fun k_ => some k_ ≠ (.slice Ao32 t366.length co32 : Value).ownBlock ∧ some k_ ≠ (.slice Ao36 t369.length co36 : Value).ownBlock ∧ some k_ ≠ (.slice Ao57 t382.length co57 : Value).ownBlock) (Kd.R_keptB (HO387.out) hkp (fun k_ hk_ hs_ => Or.elim hs_ (fun e_ => (hk_.1.2) e_) (fun e_ => (hk_.2) e_))) (fun k_ hk_ => ⟨hk_.1.1.2, hk_.1.2, hk_.1.1.1⟩)); have n9_ := Aside0.mk (hb); clear HO_8; clear HO_11; clear HO_373000; clear HO_373001; clear BK349; clear BK350; clear BK372; clear HO384; clear HO387; clear HB; have HO_8 := n0_; have HO_11 := n1_; have HO_373000 := n2_; have HO_373001 := n3_; have BK349 := n4_; have BK350 := n5_; have BK372 := n6_; have HO384 := n7_; have HO387 := n8_; have HB := n9_; clear n0_ n1_ n2_ n3_ n4_ n5_ n6_ n7_ n8_ n9_; (try clear hb); (try clear hkp); (try clear hy0); (try clear hy1)))
      (try simp only [Act.put, sA_, sB_, sC_])
      go_cut [71] (fun v71 wc => ∃ (kq : Nat) (x71_53 : Bool), v71 = .bool x71_53 ∧ Aside0 (laws_FnExactMoebiusTurns.j1 kq a2 t362 t365 t377 x71_53 a0_0 a0_1 a0_2 a0_3 l1_0 l1_1 = some true) ∧ Aside0 (kq ≤ kj16) ∧ Aside0 (Kd.R k51 51 wc w.heap.size (fun k_ => some k_ ≠ (v378 : Value).ownBlock) v363 t362) ∧ Aside0 (Kd.R k51 51 wc w.heap.size (fun k_ => some k_ ≠ (v363 : Value).ownBlock) v378 t377) ∧ Aside0 (Kd.R (Kd.int .i8) 49 wc w.heap.size (fun k_ => some k_ ≠ ((.slice Ao36 t369.length co36) : Value).ownBlock) (.slice Ao32 t366.length co32) t390) ∧ Aside0 (Kd.R (Kd.int .i8) 49 wc w.heap.size (fun k_ => some k_ ≠ ((.slice Ao32 t366.length co32) : Value).ownBlock) (.slice Ao36 t369.length co36) t391) ∧ Aside0 (wc.heap[gb349]? = some (.cells #[.int .i64 a0_0, .int .i64 a0_1, .int .i64 a0_2, .int .i64 a0_3] 23 (0, 0))) ∧ Aside0 (wc.heap[gb350]? = some (.cells #[(.slice A1_0 l1_0.length c1_0), (.slice A1_1 l1_1.length c1_1)] 26 (0, 0))) ∧ Aside0 (wc.heap[gb372]? = some (.cells #[(.slice Ao32 t366.length co32), (.slice Ao36 t369.length co36)] 33 (0, 0))) ∧ Aside0 (Below w.heap.size w wc))
      case first =>
       have H := HC54.out
       clear HC54
       by_cases c64 : t389 < 0
       ·
        rw [if_pos c64] at H
        have c64b0 : decide (t389 < 0) = true := decide_eq_true c64
        clear c64
        (first | rw [c64b0] | (simp only [i64_w, i32_w]; rw [c64b0]) | skip)
        have H' := Aside0.mk H
        clear H
        go_wp2
        go_meet
        case rel => exact ⟨_, (true), (by first | rfl | (simp; done) | (simp [*]; done)), H', ⟨by have := HJ16.out; first | omega | exact Nat.le_refl _⟩, ⟨by (with_reducible repeat (first | apply Kd.R_alloc | apply Kd.R_drewN | apply Kd.R_drew)); exact HO_8.out⟩, ⟨by (with_reducible repeat (first | apply Kd.R_alloc | apply Kd.R_drewN | apply Kd.R_drew)); exact HO_11.out⟩, ⟨by (with_reducible repeat (first | apply Kd.R_alloc | apply Kd.R_drewN | apply Kd.R_drew)); exact Kd.R_mono HO_373000.out (fun _ hk => hk.1.1)⟩, ⟨by (with_reducible repeat (first | apply Kd.R_alloc | apply Kd.R_drewN | apply Kd.R_drew)); exact Kd.R_mono HO_373001.out (fun _ hk => hk.1.1)⟩, ⟨by (with_reducible repeat (first | refine blk_drewN ?_ _ | refine blk_drew ?_ | refine blk_alloc ?_ _)); exact BK349.out⟩, ⟨by (with_reducible repeat (first | refine blk_drewN ?_ _ | refine blk_drew ?_ | refine blk_alloc ?_ _)); exact BK350.out⟩, ⟨by (with_reducible repeat (first | refine blk_drewN ?_ _ | refine blk_drew ?_ | refine blk_alloc ?_ _)); exact BK372.out⟩, ⟨by repeat (first | (with_reducible first | exact HB.out | apply below_alloc | apply pw_below_drewN | apply below_drew1 | refine below_set ?_ GE349.out | refine below_set ?_ GE350.out | refine below_set ?_ GE372.out) | exact HB.out)⟩⟩
       ·
        rw [if_neg c64] at H
        have c64b0 : decide (t389 < 0) = false := decide_eq_false c64
        clear c64
        (first | rw [c64b0] | (simp only [i64_w, i32_w]; rw [c64b0]) | skip)
        replace H := Option.bind_eq_some_iff.mp H
        obtain ⟨t392, A650, H⟩ := H
        replace H : (if t392 = true then (laws_FnExactMoebiusTurns.j1 kj16 a2 t362 t365 t377 (t380 != t365) a0_0 a0_1 a0_2 a0_3 l1_0 l1_1) else (laws_FnExactMoebiusTurns.j1 kj16 a2 t362 t365 t377 true a0_0 a0_1 a0_2 a0_3 l1_0 l1_1)) = some true := H
        have A65 := Aside0.mk A650
        clear A650
        by_cases c66 : t392 = true
        ·
         subst c66
         have H1 : (laws_FnExactMoebiusTurns.j1 kj16 a2 t362 t365 t377 (t380 != t365) a0_0 a0_1 a0_2 a0_3 l1_0 l1_1) = some true := by rw [if_pos rfl] at H; exact H
         clear H
         have H := H1
         clear H1
         have H' := Aside0.mk H
         clear H
         obtain ⟨Ao67, co67, eo67⟩ := Kd.R_slice HO_11.out
         subst eo67
         obtain ⟨Ao68, co68, eo68⟩ := Kd.R_slice HO_8.out
         subst eo68
         go_wp2_with (first | (go_at_call 12; (with_reducible refine (laws_eqTurnS.calls kj16 _ _ t377 _ _ t362 true _ ?side1 ?side2 ?side3 ?side4 A65.out).mono ?_); (case side1 => repeat (first | exact (Kd.R_reads' HO_11.out).2.2 | (with_reducible refine Kd.C_alloc ?_ _) | (with_reducible refine Kd.C_drewN ?_ _) | (with_reducible refine Kd.C_drew ?_))); (case side2 => exact (Kd.R_reads' HO_11.out).2.1); (case side3 => repeat (first | exact (Kd.R_reads' HO_8.out).2.2 | (with_reducible refine Kd.C_alloc ?_ _) | (with_reducible refine Kd.C_drewN ?_ _) | (with_reducible refine Kd.C_drew ?_))); (case side4 => exact (Kd.R_reads' HO_8.out).2.1); rintro e w69 ⟨rfl, hb⟩; have n0_ := Aside0.mk (Kd.R_below (by (with_reducible repeat (first | apply Kd.R_alloc | apply Kd.R_drewN | apply Kd.R_drew)); exact HO_8.out) hb); have n1_ := Aside0.mk (Kd.R_below (by (with_reducible repeat (first | apply Kd.R_alloc | apply Kd.R_drewN | apply Kd.R_drew)); exact HO_11.out) hb); have n2_ := Aside0.mk (Kd.R_below (by (with_reducible repeat (first | apply Kd.R_alloc | apply Kd.R_drewN | apply Kd.R_drew)); exact HO_373000.out) hb); have n3_ := Aside0.mk (Kd.R_below (by (with_reducible repeat (first | apply Kd.R_alloc | apply Kd.R_drewN | apply Kd.R_drew)); exact HO_373001.out) hb); have n4_ := Aside0.mk (Kd.R_below (by (with_reducible repeat (first | apply Kd.R_alloc | apply Kd.R_drewN | apply Kd.R_drew)); exact HO384.out) hb); have n5_ := Aside0.mk (Kd.R_below (by (with_reducible repeat (first | apply Kd.R_alloc | apply Kd.R_drewN | apply Kd.R_drew)); exact HO387.out) hb); have n6_ := Aside0.mk (blk_below (g := gb349) (o := .cells #[.int .i64 a0_0, .int .i64 a0_1, .int .i64 a0_2, .int .i64 a0_3] 23 (0, 0)) (by (with_reducible repeat (first | refine blk_drewN ?_ _ | refine blk_drew ?_ | refine blk_alloc ?_ _)); exact BK349.out) hb); have n7_ := Aside0.mk (blk_below (g := gb350) (o := .cells #[.slice A1_0 l1_0.length c1_0, .slice A1_1 l1_1.length c1_1] 26 (0, 0)) (by (with_reducible repeat (first | refine blk_drewN ?_ _ | refine blk_drew ?_ | refine blk_alloc ?_ _)); exact BK350.out) hb); have n8_ := Aside0.mk (blk_below (g := gb372) (o := .cells #[.slice Ao32 t366.length co32, .slice Ao36 t369.length co36] 33 (0, 0)) (by (with_reducible repeat (first | refine blk_drewN ?_ _ | refine blk_drew ?_ | refine blk_alloc ?_ _)); exact BK372.out) hb); have n9_ := Aside0.mk (below_step (by repeat (first | (with_reducible first | exact HB.out | apply below_alloc | apply pw_below_drewN | apply below_drew1 | refine below_set ?_ GE349.out | refine below_set ?_ GE350.out | refine below_set ?_ GE372.out) | exact HB.out)) hb); clear HO_8; clear HO_11; clear HO_373000; clear HO_373001; clear HO384; clear HO387; clear BK349; clear BK350; clear BK372; clear HB; have HO_8 := n0_; have HO_11 := n1_; have HO_373000 := n2_; have HO_373001 := n3_; have HO384 := n4_; have HO387 := n5_; have BK349 := n6_; have BK350 := n7_; have BK372 := n8_; have HB := n9_; clear n0_ n1_ n2_ n3_ n4_ n5_ n6_ n7_ n8_ n9_; (try clear hb); (try clear hb2); (try clear hk); (try clear hi)))
         go_meet
         case rel => exact ⟨_, ((t380 != t365)), (by first | rfl | (simp; done) | (simp [*]; done)), H', ⟨by have := HJ16.out; first | omega | exact Nat.le_refl _⟩, ⟨by (with_reducible repeat (first | apply Kd.R_alloc | apply Kd.R_drewN | apply Kd.R_drew)); exact HO_8.out⟩, ⟨by (with_reducible repeat (first | apply Kd.R_alloc | apply Kd.R_drewN | apply Kd.R_drew)); exact HO_11.out⟩, ⟨by (with_reducible repeat (first | apply Kd.R_alloc | apply Kd.R_drewN | apply Kd.R_drew)); exact Kd.R_mono HO_373000.out (fun _ hk => hk.1.1)⟩, ⟨by (with_reducible repeat (first | apply Kd.R_alloc | apply Kd.R_drewN | apply Kd.R_drew)); exact Kd.R_mono HO_373001.out (fun _ hk => hk.1.1)⟩, ⟨by (with_reducible repeat (first | refine blk_drewN ?_ _ | refine blk_drew ?_ | refine blk_alloc ?_ _)); exact BK349.out⟩, ⟨by (with_reducible repeat (first | refine blk_drewN ?_ _ | refine blk_drew ?_ | refine blk_alloc ?_ _)); exact BK350.out⟩, ⟨by (with_reducible repeat (first | refine blk_drewN ?_ _ | refine blk_drew ?_ | refine blk_alloc ?_ _)); exact BK372.out⟩, ⟨by repeat (first | (with_reducible first | exact HB.out | apply below_alloc | apply pw_below_drewN | apply below_drew1 | refine below_set ?_ GE349.out | refine below_set ?_ GE350.out | refine below_set ?_ GE372.out) | exact HB.out)⟩⟩
        ·
         replace c66 := Bool.eq_false_iff.mpr c66
         subst c66
         have H1 : (laws_FnExactMoebiusTurns.j1 kj16 a2 t362 t365 t377 true a0_0 a0_1 a0_2 a0_3 l1_0 l1_1) = some true := by rw [if_neg (show ¬ (false = true) by decide)] at H; exact H
         clear H
         have H := H1
         clear H1
         have H' := Aside0.mk H
         clear H
         obtain ⟨Ao70, co70, eo70⟩ := Kd.R_slice HO_11.out
         subst eo70
         obtain ⟨Ao71, co71, eo71⟩ := Kd.R_slice HO_8.out
         subst eo71
         go_wp2_with (first | (go_at_call 12; (with_reducible refine (laws_eqTurnS.calls kj16 _ _ t377 _ _ t362 false _ ?side1 ?side2 ?side3 ?side4 A65.out).mono ?_); (case side1 => repeat (first | exact (Kd.R_reads' HO_11.out).2.2 | (with_reducible refine Kd.C_alloc ?_ _) | (with_reducible refine Kd.C_drewN ?_ _) | (with_reducible refine Kd.C_drew ?_))); (case side2 => exact (Kd.R_reads' HO_11.out).2.1); (case side3 => repeat (first | exact (Kd.R_reads' HO_8.out).2.2 | (with_reducible refine Kd.C_alloc ?_ _) | (with_reducible refine Kd.C_drewN ?_ _) | (with_reducible refine Kd.C_drew ?_))); (case side4 => exact (Kd.R_reads' HO_8.out).2.1); rintro e w72 ⟨rfl, hb⟩; have n0_ := Aside0.mk (Kd.R_below (by (with_reducible repeat (first | apply Kd.R_alloc | apply Kd.R_drewN | apply Kd.R_drew)); exact HO_8.out) hb); have n1_ := Aside0.mk (Kd.R_below (by (with_reducible repeat (first | apply Kd.R_alloc | apply Kd.R_drewN | apply Kd.R_drew)); exact HO_11.out) hb); have n2_ := Aside0.mk (Kd.R_below (by (with_reducible repeat (first | apply Kd.R_alloc | apply Kd.R_drewN | apply Kd.R_drew)); exact HO_373000.out) hb); have n3_ := Aside0.mk (Kd.R_below (by (with_reducible repeat (first | apply Kd.R_alloc | apply Kd.R_drewN | apply Kd.R_drew)); exact HO_373001.out) hb); have n4_ := Aside0.mk (Kd.R_below (by (with_reducible repeat (first | apply Kd.R_alloc | apply Kd.R_drewN | apply Kd.R_drew)); exact HO384.out) hb); have n5_ := Aside0.mk (Kd.R_below (by (with_reducible repeat (first | apply Kd.R_alloc | apply Kd.R_drewN | apply Kd.R_drew)); exact HO387.out) hb); have n6_ := Aside0.mk (blk_below (g := gb349) (o := .cells #[.int .i64 a0_0, .int .i64 a0_1, .int .i64 a0_2, .int .i64 a0_3] 23 (0, 0)) (by (with_reducible repeat (first | refine blk_drewN ?_ _ | refine blk_drew ?_ | refine blk_alloc ?_ _)); exact BK349.out) hb); have n7_ := Aside0.mk (blk_below (g := gb350) (o := .cells #[.slice A1_0 l1_0.length c1_0, .slice A1_1 l1_1.length c1_1] 26 (0, 0)) (by (with_reducible repeat (first | refine blk_drewN ?_ _ | refine blk_drew ?_ | refine blk_alloc ?_ _)); exact BK350.out) hb); have n8_ := Aside0.mk (blk_below (g := gb372) (o := .cells #[.slice Ao32 t366.length co32, .slice Ao36 t369.length co36] 33 (0, 0)) (by (with_reducible repeat (first | refine blk_drewN ?_ _ | refine blk_drew ?_ | refine blk_alloc ?_ _)); exact BK372.out) hb); have n9_ := Aside0.mk (below_step (by repeat (first | (with_reducible first | exact HB.out | apply below_alloc | apply pw_below_drewN | apply below_drew1 | refine below_set ?_ GE349.out | refine below_set ?_ GE350.out | refine below_set ?_ GE372.out) | exact HB.out)) hb); clear HO_8; clear HO_11; clear HO_373000; clear HO_373001; clear HO384; clear HO387; clear BK349; clear BK350; clear BK372; clear HB; have HO_8 := n0_; have HO_11 := n1_; have HO_373000 := n2_; have HO_373001 := n3_; have HO384 := n4_; have HO387 := n5_; have BK349 := n6_; have BK350 := n7_; have BK372 := n8_; have HB := n9_; clear n0_ n1_ n2_ n3_ n4_ n5_ n6_ n7_ n8_ n9_; (try clear hb); (try clear hb2); (try clear hk); (try clear hi)))
         go_meet
         case rel => exact ⟨_, (true), (by first | rfl | (simp; done) | (simp [*]; done)), H', ⟨by have := HJ16.out; first | omega | exact Nat.le_refl _⟩, ⟨by (with_reducible repeat (first | apply Kd.R_alloc | apply Kd.R_drewN | apply Kd.R_drew)); exact HO_8.out⟩, ⟨by (with_reducible repeat (first | apply Kd.R_alloc | apply Kd.R_drewN | apply Kd.R_drew)); exact HO_11.out⟩, ⟨by (with_reducible repeat (first | apply Kd.R_alloc | apply Kd.R_drewN | apply Kd.R_drew)); exact Kd.R_mono HO_373000.out (fun _ hk => hk.1.1)⟩, ⟨by (with_reducible repeat (first | apply Kd.R_alloc | apply Kd.R_drewN | apply Kd.R_drew)); exact Kd.R_mono HO_373001.out (fun _ hk => hk.1.1)⟩, ⟨by (with_reducible repeat (first | refine blk_drewN ?_ _ | refine blk_drew ?_ | refine blk_alloc ?_ _)); exact BK349.out⟩, ⟨by (with_reducible repeat (first | refine blk_drewN ?_ _ | refine blk_drew ?_ | refine blk_alloc ?_ _)); exact BK350.out⟩, ⟨by (with_reducible repeat (first | refine blk_drewN ?_ _ | refine blk_drew ?_ | refine blk_alloc ?_ _)); exact BK372.out⟩, ⟨by repeat (first | (with_reducible first | exact HB.out | apply below_alloc | apply pw_below_drewN | apply below_drew1 | refine below_set ?_ GE349.out | refine below_set ?_ GE350.out | refine below_set ?_ GE372.out) | exact HB.out)⟩⟩
      case rest =>
       clear HC54
       try clear c1
       try clear c2
       try clear p2
       try clear c3
       try clear c4
       try clear c5
       try clear c5b0
       try clear c6
       try clear c7
       try clear c8
       try clear c9
       try clear c10
       try clear c11
       try clear c12
       try clear c13
       try clear c14
       try clear c20
       try clear c33
       try clear c34
       try clear c42
       try clear c49
       try clear c52
       try clear c60
       try clear c61
       try clear c64
       try clear c64b0
       try clear c66
       try clear hcz21_0
       try clear hcz21_1
       try clear hcz29_0
       try clear hcz29_1
       try clear hcz35_0
       try clear hcz35_1
       try clear hcz62_0
       try clear hcz62_1
       try clear hcz9_0
       try clear hcz9_1
       try clear hfz21_0
       try clear hfz21_1
       try clear hfz29_0
       try clear hfz29_1
       try clear hfz35_0
       try clear hfz35_1
       try clear hfz62_0
       try clear hfz62_1
       try clear hfz9_0
       try clear hfz9_1
       try clear p2
       obtain ⟨kq, x71_53, rfl, HA, HJ53, HO_8, HO_11, HO_373000, HO_373001, BK349, BK350, BK372, HB⟩ := hcut
       have hl373000_53 := (Kd.R_reads' HO_373000.out).1
       rw [hl373000_53] at HO_373000
       (try simp only [hl373000_53])
       (try simp only [hl373000_53] at BK349)
       (try simp only [hl373000_53] at BK350)
       (try simp only [hl373000_53] at BK372)
       (try simp only [hl373000_53] at HO_8)
       (try simp only [hl373000_53] at HO_11)
       (try simp only [hl373000_53] at HO_373001)
       have hl373001_53 := (Kd.R_reads' HO_373001.out).1
       rw [hl373001_53] at HO_373001
       (try simp only [hl373001_53])
       (try simp only [hl373001_53] at BK349)
       (try simp only [hl373001_53] at BK350)
       (try simp only [hl373001_53] at BK372)
       (try simp only [hl373001_53] at HO_8)
       (try simp only [hl373001_53] at HO_11)
       (try simp only [hl373001_53] at HO_373000)
       cases kq with
       | zero => exact absurd HA.out (by simp [laws_FnExactMoebiusTurns.j1])
       | succ kj53 =>
        have H := HA.out
        clear HA
        simp only [laws_FnExactMoebiusTurns.j1] at H
        by_cases c73 : x71_53 = true
        ·
         subst c73
         have H1 : (some false) = some true := by rw [if_pos rfl] at H; exact H
         clear H
         have H := H1
         clear H1
         exact absurd H (by decide)
        ·
         replace c73 := Bool.eq_false_iff.mpr c73
         subst c73
         have H1 : ((laws_markTurnS.f kj53 t377 1).bind fun bt393 => ((laws_heldTurnS.f kj53 bt393.2 1).bind fun t395 => (if t395 < 0 then (some false) else (if t395 = bt393.1 then ((laws_toMoebius.f a0_0 a0_1 a0_2 a0_3).bind fun bt396 => ((laws_toStream.f kj53 l1_0 l1_1).bind fun bt400 => ((impl_MoebiusTurns.f kj53 bt396.1 bt396.2.1 bt396.2.2.1 bt396.2.2.2 bt400.1 bt400.2 a2).bind fun bt406 => ((laws_eqTurnS.f kj53 bt406.1 t362).bind fun t410 => (if t410 = true then (laws_FnExactMoebiusTurns.j2 kj53 bt393.2 bt393.1 (bt406.2 != t365)) else (laws_FnExactMoebiusTurns.j2 kj53 bt393.2 bt393.1 true)))))) else (some false))))) = some true := by rw [if_neg (show ¬ (false = true) by decide)] at H; exact H
         clear H
         have H := H1
         clear H1
         replace H := Option.bind_eq_some_iff.mp H
         obtain ⟨⟨t393, t394⟩, A740, H⟩ := H
         replace H : ((laws_heldTurnS.f kj53 t394 1).bind fun t395 => (if t395 < 0 then (some false) else (if t395 = t393 then ((laws_toMoebius.f a0_0 a0_1 a0_2 a0_3).bind fun bt396 => ((laws_toStream.f kj53 l1_0 l1_1).bind fun bt400 => ((impl_MoebiusTurns.f kj53 bt396.1 bt396.2.1 bt396.2.2.1 bt396.2.2.2 bt400.1 bt400.2 a2).bind fun bt406 => ((laws_eqTurnS.f kj53 bt406.1 t362).bind fun t410 => (if t410 = true then (laws_FnExactMoebiusTurns.j2 kj53 t394 t393 (bt406.2 != t365)) else (laws_FnExactMoebiusTurns.j2 kj53 t394 t393 true)))))) else (some false)))) = some true := H
         have A74 := Aside0.mk A740
         clear A740
         replace H := Option.bind_eq_some_iff.mp H
         obtain ⟨t395, A750, H⟩ := H
         replace H : (if t395 < 0 then (some false) else (if t395 = t393 then ((laws_toMoebius.f a0_0 a0_1 a0_2 a0_3).bind fun bt396 => ((laws_toStream.f kj53 l1_0 l1_1).bind fun bt400 => ((impl_MoebiusTurns.f kj53 bt396.1 bt396.2.1 bt396.2.2.1 bt396.2.2.2 bt400.1 bt400.2 a2).bind fun bt406 => ((laws_eqTurnS.f kj53 bt406.1 t362).bind fun t410 => (if t410 = true then (laws_FnExactMoebiusTurns.j2 kj53 t394 t393 (bt406.2 != t365)) else (laws_FnExactMoebiusTurns.j2 kj53 t394 t393 true)))))) else (some false))) = some true := H
         have A75 := Aside0.mk A750
         clear A750
         by_cases c76 : t395 < 0
         ·
          rw [if_pos c76] at H
          have c76b0 : decide (t395 < 0) = true := decide_eq_true c76
          clear c76
          exact absurd H (by decide)
         ·
          rw [if_neg c76] at H
          have c76b0 : decide (t395 < 0) = false := decide_eq_false c76
          clear c76
          by_cases c77 : t395 = t393
          ·
           rw [if_pos c77] at H
           have c77b0 : (t395 == t393) = true := beq_iff_eq.mpr c77
           have c77b1 : (t395 != t393) = false := bne_eq_false_iff_eq.mpr c77
           clear c77
           replace H := Option.bind_eq_some_iff.mp H
           obtain ⟨⟨t396, t397, t398, t399⟩, A780, H⟩ := H
           replace H : ((laws_toStream.f kj53 l1_0 l1_1).bind fun bt400 => ((impl_MoebiusTurns.f kj53 t396 t397 t398 t399 bt400.1 bt400.2 a2).bind fun bt406 => ((laws_eqTurnS.f kj53 bt406.1 t362).bind fun t410 => (if t410 = true then (laws_FnExactMoebiusTurns.j2 kj53 t394 t393 (bt406.2 != t365)) else (laws_FnExactMoebiusTurns.j2 kj53 t394 t393 true))))) = some true := H
           have A78 := Aside0.mk A780
           clear A780
           replace H := Option.bind_eq_some_iff.mp H
           obtain ⟨⟨t400, t403⟩, A790, H⟩ := H
           replace H : ((impl_MoebiusTurns.f kj53 t396 t397 t398 t399 t400 t403 a2).bind fun bt406 => ((laws_eqTurnS.f kj53 bt406.1 t362).bind fun t410 => (if t410 = true then (laws_FnExactMoebiusTurns.j2 kj53 t394 t393 (bt406.2 != t365)) else (laws_FnExactMoebiusTurns.j2 kj53 t394 t393 true)))) = some true := H
           have A79 := Aside0.mk A790
           clear A790
           replace H := Option.bind_eq_some_iff.mp H
           obtain ⟨⟨t406, t409⟩, A800, H⟩ := H
           replace H : ((laws_eqTurnS.f kj53 t406 t362).bind fun t410 => (if t410 = true then (laws_FnExactMoebiusTurns.j2 kj53 t394 t393 (t409 != t365)) else (laws_FnExactMoebiusTurns.j2 kj53 t394 t393 true))) = some true := H
           have A80 := Aside0.mk A800
           clear A800
           have HC81 := Aside0.mk H
           clear H
           obtain ⟨Ao82, co82, eo82⟩ := Kd.R_slice HO_11.out
           subst eo82
           try go_wp2_with (first | ((with_reducible refine gate_callee (f := 15) rfl ?_); refine goesL_ (some 74) rfl rfl Try.func15 (by kernel_rfl) rfl #[.slice Ao82 t377.length co82, .int .i64 1] rfl (by (try simp only [List.map_toArray, List.map_cons, List.map_nil]); first | done | rfl | (simp only [List.length_drop, List.length_take]; rfl)) ?_; (with_reducible refine (laws_markTurnS.calls kj53 (fun k_ => some k_ = (.slice Ao82 t377.length co82 : Value).ownBlock) (.slice Ao82 t377.length co82) t377 1 t393 t394 w _ ?side1 ?side2 A74.out).mono ?_); (case side1 => repeat (first | (with_reducible first | exact HB.out | apply below_alloc | apply pw_below_drewN | apply below_drew1 | refine below_set ?_ GE349.out | refine below_set ?_ GE350.out | refine below_set ?_ GE372.out) | exact HB.out)); (case side2 => exact Kd.R_tight rfl HO_11.out); rintro e w83 ⟨rfl, hy0, hb, hkp⟩; refine ⟨_, rfl, ?_⟩; have n0_ := Aside0.mk (Kd.R_mono (ok' := fun k_ => some k_ ≠ (.slice Ao82 t377.length co82 : Value).ownBlock) (Kd.R_keptB (HO_8.out) hkp (fun k_ hk_ hs_ => (hk_) hs_)) (fun k_ hk_ => hk_.1)); have n1_ := Aside0.mk (Kd.R_reok rfl hy0 (fun k_ e_ => HO_11.out.1 k_ e_)); have n2_ := Aside0.mk (Kd.R_mono (ok' := fun k_ => some k_ ≠ (.slice Ao36 t391.length co36 : Value).ownBlock) (Kd.R_keptB ((Kd.R_apart' HO_373000.out (Kd.R_typed HO_11.out) (by decide))) hkp (fun k_ hk_ hs_ => (hk_.2) hs_)) (fun k_ hk_ => hk_.1.1)); have n3_ := Aside0.mk (Kd.R_mono (ok' := fun k_ => some k_ ≠ (.slice Ao32 t390.length co32 : Value).ownBlock) (Kd.R_keptB ((Kd.R_apart' HO_373001.out (Kd.R_typed HO_11.out) (by decide))) hkp (fun k_ hk_ hs_ => (hk_.2) hs_)) (fun k_ hk_ => hk_.1.1)); have n4_ := Aside0.mk (blk_kept (by (with_reducible repeat (first | refine blk_drewN ?_ _ | refine blk_drew ?_ | refine blk_alloc ?_ _)); exact BK349.out) hkp (fun hs_ => (fun e_ => (Kd.R_ne HO_11.out BK349.out (by decide)) e_) hs_)); have n5_ := Aside0.mk (blk_kept (by (with_reducible repeat (first | refine blk_drewN ?_ _ | refine blk_drew ?_ | refine blk_alloc ?_ _)); exact BK350.out) hkp (fun hs_ => (fun e_ => (Kd.R_ne HO_11.out BK350.out (by decide)) e_) hs_)); have n6_ := Aside0.mk (blk_kept (by (with_reducible repeat (first | refine blk_drewN ?_ _ | refine blk_drew ?_ | refine blk_alloc ?_ _)); exact BK372.out) hkp (fun hs_ => (fun e_ => (Kd.R_ne HO_11.out BK372.out (by decide)) e_) hs_)); have n7_ := Aside0.mk (hb); clear HO_8; clear HO_11; clear HO_373000; clear HO_373001; clear BK349; clear BK350; clear BK372; clear HB; have HO_8 := n0_; have HO_11 := n1_; have HO_373000 := n2_; have HO_373001 := n3_; have BK349 := n4_; have BK350 := n5_; have BK372 := n6_; have HB := n7_; clear n0_ n1_ n2_ n3_ n4_ n5_ n6_ n7_; (try clear hb); (try clear hkp); (try clear hy0)) | ((with_reducible refine gate_callee (f := 16) rfl ?_); refine goesL_ (some 77) rfl rfl Try.func16 (by kernel_rfl) rfl #[.slice Ao82 t394.length co82, .int .i64 1] rfl (by (try simp only [List.map_toArray, List.map_cons, List.map_nil]); first | done | (rw [show t394.length = t377.length from (Kd.R_reads' HO_11.out).1.symm] <;> rfl) | rfl | (simp only [List.length_drop, List.length_take]; rfl)) ?_; (with_reducible refine (laws_heldTurnS.calls kj53 _ _ t394 1 t395 _ ?side1 ?side2 A75.out).mono ?_); (case side1 => repeat (first | exact (Kd.R_reads' HO_11.out).2.2 | (with_reducible refine Kd.C_alloc ?_ _) | (with_reducible refine Kd.C_drewN ?_ _) | (with_reducible refine Kd.C_drew ?_))); (case side2 => rw [show t394.length = t377.length from (Kd.R_reads' HO_11.out).1.symm]; exact (Kd.R_reads' HO_11.out).2.1); rintro e w' ⟨rfl, ⟨nd, rfl⟩⟩; refine ⟨_, rfl, ?_⟩))
           (try (rw [drewN_self w83]; generalize hq_ : World.drewN w83 _ = w83; have n0_ : Aside0 (Kd.R k51 51 w83 w.heap.size (fun k_ => some k_ ≠ (v363 : Value).ownBlock) (.slice Ao82 t377.length co82) t394) := ⟨by rw [← hq_]; exact (by (with_reducible repeat (first | apply Kd.R_alloc | apply Kd.R_drewN | apply Kd.R_drew)); exact HO_11.out)⟩; have n1_ : Aside0 (Kd.R (Kd.int .i8) 49 w83 w.heap.size (fun k_ => some k_ ≠ (.slice Ao36 t391.length co36 : Value).ownBlock) (.slice Ao32 t390.length co32) t390) := ⟨by rw [← hq_]; exact (by (with_reducible repeat (first | apply Kd.R_alloc | apply Kd.R_drewN | apply Kd.R_drew)); exact HO_373000.out)⟩; have n2_ : Aside0 (Kd.R (Kd.int .i8) 49 w83 w.heap.size (fun k_ => some k_ ≠ (.slice Ao32 t390.length co32 : Value).ownBlock) (.slice Ao36 t391.length co36) t391) := ⟨by rw [← hq_]; exact (by (with_reducible repeat (first | apply Kd.R_alloc | apply Kd.R_drewN | apply Kd.R_drew)); exact HO_373001.out)⟩; have n3_ : Aside0 (Kd.R k51 51 w83 w.heap.size (fun k_ => some k_ ≠ (.slice Ao82 t377.length co82 : Value).ownBlock) v363 t362) := ⟨by rw [← hq_]; exact (by (with_reducible repeat (first | apply Kd.R_alloc | apply Kd.R_drewN | apply Kd.R_drew)); exact HO_8.out)⟩; have n4_ : Aside0 (w83.heap[gb349]? = some (.cells #[.int .i64 a0_0, .int .i64 a0_1, .int .i64 a0_2, .int .i64 a0_3] 23 (0, 0))) := ⟨by rw [← hq_]; exact (by (with_reducible repeat (first | refine blk_drewN ?_ _ | refine blk_drew ?_ | refine blk_alloc ?_ _)); exact BK349.out)⟩; have n5_ : Aside0 (w83.heap[gb350]? = some (.cells #[.slice A1_0 l1_0.length c1_0, .slice A1_1 l1_1.length c1_1] 26 (0, 0))) := ⟨by rw [← hq_]; exact (by (with_reducible repeat (first | refine blk_drewN ?_ _ | refine blk_drew ?_ | refine blk_alloc ?_ _)); exact BK350.out)⟩; have n6_ : Aside0 (w83.heap[gb372]? = some (.cells #[.slice Ao32 t390.length co32, .slice Ao36 t391.length co36] 33 (0, 0))) := ⟨by rw [← hq_]; exact (by (with_reducible repeat (first | refine blk_drewN ?_ _ | refine blk_drew ?_ | refine blk_alloc ?_ _)); exact BK372.out)⟩; have n7_ : Aside0 (Below w.heap.size w w83) := ⟨by rw [← hq_]; exact (by repeat (first | (with_reducible first | exact HB.out | apply below_alloc | apply pw_below_drewN | apply below_drew1 | refine below_set ?_ GE349.out | refine below_set ?_ GE350.out | refine below_set ?_ GE372.out) | exact HB.out))⟩; clear HO_11 HO_373000 HO_373001 HO_8 BK349 BK350 BK372 HB hq_; have HO_11 := n0_; have HO_373000 := n1_; have HO_373001 := n2_; have HO_8 := n3_; have BK349 := n4_; have BK350 := n5_; have BK372 := n6_; have HB := n7_; clear n0_ n1_ n2_ n3_ n4_ n5_ n6_ n7_))
           have n0_ := Aside0.mk (Kd.R_drew HO_8.out)
           have n1_ := Aside0.mk (Kd.R_drew HO_11.out)
           have n2_ := Aside0.mk (Kd.R_drew HO_373000.out)
           have n3_ := Aside0.mk (Kd.R_drew HO_373001.out)
           have n4_ := Aside0.mk (blk_drew BK349.out)
           have n5_ := Aside0.mk (blk_drew BK350.out)
           have n6_ := Aside0.mk (blk_drew BK372.out)
           have n7_ := Aside0.mk (below_drew1 HB.out)
           clear HO_8
           clear HO_11
           clear HO_373000
           clear HO_373001
           clear BK349
           clear BK350
           clear BK372
           clear HB
           have HO_8 := n0_
           have HO_11 := n1_
           have HO_373000 := n2_
           have HO_373001 := n3_
           have BK349 := n4_
           have BK350 := n5_
           have BK372 := n6_
           have HB := n7_
           clear n0_ n1_ n2_ n3_ n4_ n5_ n6_ n7_
           refine start_ (n := 11) (S := fun w' => w'.cell? ⟨gb349, 0, none⟩ = some (.int .i64 a0_0) ∧ w'.cell? ⟨gb349, 1, none⟩ = some (.int .i64 a0_1) ∧ w'.cell? ⟨gb349, 2, none⟩ = some (.int .i64 a0_2) ∧ w'.cell? ⟨gb349, 3, none⟩ = some (.int .i64 a0_3) ∧ w'.cell? ⟨gb350, 0, none⟩ = some (.slice A1_0 l1_0.length c1_0) ∧ w'.cell? ⟨gb350, 1, none⟩ = some (.slice A1_1 l1_1.length c1_1)) (ds := []) #[false, false, false, false, false, false, false, false, false, false, false] (by kernel_rfl) rfl rfl ⟨(blk_cell BK349.out 0).trans rfl, (blk_cell BK349.out 1).trans rfl, (blk_cell BK349.out 2).trans rfl, (blk_cell BK349.out 3).trans rfl, (blk_cell BK350.out 0).trans rfl, (blk_cell BK350.out 1).trans rfl⟩ (fun hHeld => ?_); refine with_tabW laws_FnExactMoebiusTurns.tab24 laws_FnExactMoebiusTurns.bits24 (fun HT_ HW_ => ?_)
           generalize w83.drew = w84 at HO_8 HO_11 HO_373000 HO_373001 BK349 BK350 BK372 HB hHeld ⊢
           refine pure_ (i := 4) (N := some 88) (v := ?_) (a' := ?_) #[false, false, false, false, true, false, false, false, false, false, false] rfl rfl (any_of HT_.out (by kernel_rfl)) (fun _ _ _ h => h) (Or.inl ⟨by rfl, ?_⟩) ?_ ?_
           rotate_left
           ·
            intro w'
            go_simp
            with_reducible rfl
           rotate_left
           ·
            simp only [Act.put, sA_, sB_, sC_, i64_w, i32_w]
            rfl
           refine take_ (i := 0) (N := some 84) (v := ?_) (a' := ?_) #[true, false, false, false, true, false, false, false, false, false, false] rfl rfl (take_ofW HT_.out HW_.out (by kernel_rfl)) (fun _ _ _ h => h) (Or.inl ⟨by rfl, ?_⟩) hHeld ?_ ?_
           rotate_left
           ·
            rintro w' ⟨s0, s1, s2, s3, s4, s5⟩
            go_simp
            with_reducible rfl
           rotate_left
           ·
            simp only [Act.put, sA_, sB_, sC_, i64_w, i32_w]
            rfl
           refine take_ (i := 2) (N := some 86) (v := ?_) (a' := ?_) #[true, false, true, false, true, false, false, false, false, false, false] rfl rfl (take_ofW HT_.out HW_.out (by kernel_rfl)) (fun _ _ _ h => h) (Or.inl ⟨by rfl, ?_⟩) hHeld ?_ ?_
           rotate_left
           ·
            rintro w' ⟨s0, s1, s2, s3, s4, s5⟩
            go_simp
            with_reducible rfl
           rotate_left
           ·
            simp only [Act.put, sA_, sB_, sC_, i64_w, i32_w]
            rfl
           refine one_ (i := 1) (N := some 85) #[true, true, true, false, true, false, false, false, false, false, false] rfl rfl (one_of HT_.out (by kernel_rfl)) (by decide) (fun K hK => ?_)
           refine goes_ Try.func9 (by kernel_rfl) rfl #[.agg #[.int .i64 a0_0, .int .i64 a0_1, .int .i64 a0_2, .int .i64 a0_3]] (by rfl) rfl rfl (by (try simp only [List.map_toArray, List.map_cons, List.map_nil]); first | done | rfl | (simp only [List.length_drop, List.length_take]; rfl)) ?_
           with_reducible refine (laws_toMoebius.calls a0_0 a0_1 a0_2 a0_3 t396 t397 t398 t399 _ A78.out).mono ?_
           rintro e w85 ⟨rfl, hb⟩
           refine ⟨_, rfl, ?_⟩
           have n0_ := Aside0.mk (Kd.R_below (by (with_reducible repeat (first | apply Kd.R_alloc | apply Kd.R_drewN | apply Kd.R_drew)); exact HO_8.out) hb)
           have n1_ := Aside0.mk (Kd.R_below (by (with_reducible repeat (first | apply Kd.R_alloc | apply Kd.R_drewN | apply Kd.R_drew)); exact HO_11.out) hb)
           have n2_ := Aside0.mk (Kd.R_below (by (with_reducible repeat (first | apply Kd.R_alloc | apply Kd.R_drewN | apply Kd.R_drew)); exact HO_373000.out) hb)
           have n3_ := Aside0.mk (Kd.R_below (by (with_reducible repeat (first | apply Kd.R_alloc | apply Kd.R_drewN | apply Kd.R_drew)); exact HO_373001.out) hb)
           have n4_ := Aside0.mk (blk_below (g := gb349) (o := .cells #[.int .i64 a0_0, .int .i64 a0_1, .int .i64 a0_2, .int .i64 a0_3] 23 (0, 0)) (by (with_reducible repeat (first | refine blk_drewN ?_ _ | refine blk_drew ?_ | refine blk_alloc ?_ _)); exact BK349.out) hb)
           have n5_ := Aside0.mk (blk_below (g := gb350) (o := .cells #[.slice A1_0 l1_0.length c1_0, .slice A1_1 l1_1.length c1_1] 26 (0, 0)) (by (with_reducible repeat (first | refine blk_drewN ?_ _ | refine blk_drew ?_ | refine blk_alloc ?_ _)); exact BK350.out) hb)
           have n6_ := Aside0.mk (blk_below (g := gb372) (o := .cells #[.slice Ao32 t390.length co32, .slice Ao36 t391.length co36] 33 (0, 0)) (by (with_reducible repeat (first | refine blk_drewN ?_ _ | refine blk_drew ?_ | refine blk_alloc ?_ _)); exact BK372.out) hb)
           have n7_ := Aside0.mk (below_step (by repeat (first | (with_reducible first | exact HB.out | apply below_alloc | apply pw_below_drewN | apply below_drew1 | refine below_set ?_ GE349.out | refine below_set ?_ GE350.out | refine below_set ?_ GE372.out) | exact HB.out)) hb)
           clear HO_8
           clear HO_11
           clear HO_373000
           clear HO_373001
           clear BK349
           clear BK350
           clear BK372
           clear HB
           have HO_8 := n0_
           have HO_11 := n1_
           have HO_373000 := n2_
           have HO_373001 := n3_
           have BK349 := n4_
           have BK350 := n5_
           have BK372 := n6_
           have HB := n7_
           clear n0_ n1_ n2_ n3_ n4_ n5_ n6_ n7_
           (try clear hb)
           (try clear hb2)
           (try clear hk)
           (try clear hi)
           refine hK.out _ _ ⟨(blk_cell BK349.out 0).trans rfl, (blk_cell BK349.out 1).trans rfl, (blk_cell BK349.out 2).trans rfl, (blk_cell BK349.out 3).trans rfl, (blk_cell BK350.out 0).trans rfl, (blk_cell BK350.out 1).trans rfl⟩ (fun hHeld => ?_)
           clear hK K
           refine norm_ (a' := ?_) ?_ ?_
           rotate_left
           ·
            show Act.put _ (some 85) _ = _
            simp only [Act.put, sA_, sB_, sC_, i64_w, i32_w]
            rfl
           refine one_ (i := 3) (N := some 87) #[true, true, true, true, true, false, false, false, false, false, false] rfl rfl (one_of HT_.out (by kernel_rfl)) (by decide) (fun K hK => ?_)
           refine goes_ Try.func10 (by kernel_rfl) rfl #[.agg #[.slice A1_0 l1_0.length c1_0, .slice A1_1 l1_1.length c1_1]] (by rfl) rfl rfl (by (try simp only [List.map_toArray, List.map_cons, List.map_nil]); first | done | rfl | (simp only [List.length_drop, List.length_take]; rfl)) ?_
           with_reducible refine (laws_toStream.calls kj53 _ _ l1_0 _ _ l1_1 t400 t403 _ ?side1 ?side2 ?side3 ?side4 A79.out).mono ?_
           (case side1 => repeat (first | exact (Kd.C_below HR1_0.out HB.out) | (with_reducible refine Kd.C_alloc ?_ _) | (with_reducible refine Kd.C_drewN ?_ _) | (with_reducible refine Kd.C_drew ?_)))
           (case side2 => exact HC1_0.out)
           (case side3 => repeat (first | exact (Kd.C_below HR1_1.out HB.out) | (with_reducible refine Kd.C_alloc ?_ _) | (with_reducible refine Kd.C_drewN ?_ _) | (with_reducible refine Kd.C_drew ?_)))
           (case side4 => exact HC1_1.out)
           rintro e w86 ⟨v401, v404, rfl, ho0, ho1, hb⟩
           refine ⟨_, rfl, ?_⟩
           have n0_ := Aside0.mk (Kd.R_below (by (with_reducible repeat (first | apply Kd.R_alloc | apply Kd.R_drewN | apply Kd.R_drew)); exact HO_8.out) hb)
           have n1_ := Aside0.mk (Kd.R_below (by (with_reducible repeat (first | apply Kd.R_alloc | apply Kd.R_drewN | apply Kd.R_drew)); exact HO_11.out) hb)
           have n2_ := Aside0.mk (Kd.R_mono (Kd.R_told (Kd.R_told (Kd.R_old (by (with_reducible repeat (first | apply Kd.R_alloc | apply Kd.R_drewN | apply Kd.R_drew)); exact HO_373000.out) hb) (Kd.R_base ho0)) (Kd.R_base ho1)) (fun _ h_ => h_.1))
           have n3_ := Aside0.mk (Kd.R_mono (Kd.R_told (Kd.R_told (Kd.R_old (by (with_reducible repeat (first | apply Kd.R_alloc | apply Kd.R_drewN | apply Kd.R_drew)); exact HO_373001.out) hb) (Kd.R_base ho0)) (Kd.R_base ho1)) (fun _ h_ => h_.1))
           have n4_ := Aside0.mk (Kd.R_lower (Kd.R_new' (Kd.R_new' ho0 (Kd.R_lt (by (with_reducible repeat (first | apply Kd.R_alloc | apply Kd.R_drewN | apply Kd.R_drew)); exact HO_373000.out))) (Kd.R_lt (by (with_reducible repeat (first | apply Kd.R_alloc | apply Kd.R_drewN | apply Kd.R_drew)); exact HO_373001.out))) (below_size (by repeat (first | (with_reducible first | exact HB.out | apply below_alloc | apply pw_below_drewN | apply below_drew1 | refine below_set ?_ GE349.out | refine below_set ?_ GE350.out | refine below_set ?_ GE372.out) | exact HB.out))))
           have n5_ := Aside0.mk (Kd.R_lower (Kd.R_new' (Kd.R_new' ho1 (Kd.R_lt (by (with_reducible repeat (first | apply Kd.R_alloc | apply Kd.R_drewN | apply Kd.R_drew)); exact HO_373000.out))) (Kd.R_lt (by (with_reducible repeat (first | apply Kd.R_alloc | apply Kd.R_drewN | apply Kd.R_drew)); exact HO_373001.out))) (below_size (by repeat (first | (with_reducible first | exact HB.out | apply below_alloc | apply pw_below_drewN | apply below_drew1 | refine below_set ?_ GE349.out | refine below_set ?_ GE350.out | refine below_set ?_ GE372.out) | exact HB.out))))
           have n6_ := Aside0.mk (blk_below (g := gb349) (o := .cells #[.int .i64 a0_0, .int .i64 a0_1, .int .i64 a0_2, .int .i64 a0_3] 23 (0, 0)) (by (with_reducible repeat (first | refine blk_drewN ?_ _ | refine blk_drew ?_ | refine blk_alloc ?_ _)); exact BK349.out) hb)
           have n7_ := Aside0.mk (blk_below (g := gb350) (o := .cells #[.slice A1_0 l1_0.length c1_0, .slice A1_1 l1_1.length c1_1] 26 (0, 0)) (by (with_reducible repeat (first | refine blk_drewN ?_ _ | refine blk_drew ?_ | refine blk_alloc ?_ _)); exact BK350.out) hb)
           have n8_ := Aside0.mk (blk_below (g := gb372) (o := .cells #[.slice Ao32 t390.length co32, .slice Ao36 t391.length co36] 33 (0, 0)) (by (with_reducible repeat (first | refine blk_drewN ?_ _ | refine blk_drew ?_ | refine blk_alloc ?_ _)); exact BK372.out) hb)
           have n9_ := Aside0.mk (below_step (by repeat (first | (with_reducible first | exact HB.out | apply below_alloc | apply pw_below_drewN | apply below_drew1 | refine below_set ?_ GE349.out | refine below_set ?_ GE350.out | refine below_set ?_ GE372.out) | exact HB.out)) hb)
           clear HO_8
           clear HO_11
           clear HO_373000
           clear HO_373001
           clear BK349
           clear BK350
           clear BK372
           clear HB
           have HO_8 := n0_
           have HO_11 := n1_
           have HO_373000 := n2_
           have HO_373001 := n3_
           have HO402 := n4_
           have HO405 := n5_
           have BK349 := n6_
           have BK350 := n7_
           have BK372 := n8_
           have HB := n9_
           clear n0_ n1_ n2_ n3_ n4_ n5_ n6_ n7_ n8_ n9_
           (try clear hb)
           (try clear hb2)
           (try clear hk)
           (try clear hi)
           (try clear ho0)
           (try clear ho1)
           obtain ⟨Ao87, co87, eo87⟩ := Kd.R_slice HO402.out
           (first | subst eo87 | (injection eo87 with f1_ f2_ f3_; have f4_ := f1_.symm; have f5_ := f3_.symm; clear f1_ f2_ f3_; subst f4_; subst f5_))
           obtain ⟨Ao88, co88, eo88⟩ := Kd.R_slice HO405.out
           (first | subst eo88 | (injection eo88 with f1_ f2_ f3_; have f4_ := f1_.symm; have f5_ := f3_.symm; clear f1_ f2_ f3_; subst f4_; subst f5_))
           refine hK.out _ _ ⟨(blk_cell BK349.out 0).trans rfl, (blk_cell BK349.out 1).trans rfl, (blk_cell BK349.out 2).trans rfl, (blk_cell BK349.out 3).trans rfl, (blk_cell BK350.out 0).trans rfl, (blk_cell BK350.out 1).trans rfl⟩ (fun hHeld => ?_)
           clear hK K
           refine norm_ (a' := ?_) ?_ ?_
           rotate_left
           ·
            show Act.put _ (some 87) _ = _
            simp only [Act.put, sA_, sB_, sC_, i64_w, i32_w]
            rfl
           refine one_ (i := 5) (N := some 89) #[true, true, true, true, true, true, false, false, false, false, false] rfl rfl (one_of HT_.out (by kernel_rfl)) (by decide) (fun K hK => ?_)
           refine goes_ Try.func11 (by kernel_rfl) rfl #[.agg #[.int .i64 t396, .int .i64 t397, .int .i64 t398, .int .i64 t399], .agg #[.slice Ao87 t400.length co87, .slice Ao88 t403.length co88], .int .i64 a2] (by rfl) rfl rfl (by (try simp only [List.map_toArray, List.map_cons, List.map_nil]); first | done | rfl | (simp only [List.length_drop, List.length_take]; rfl)) ?_
           with_reducible refine (impl_MoebiusTurns.calls kj53 t396 t397 t398 t399 _ _ t400 _ _ t403 a2 t406 t409 _ ?side1 ?side2 ?side3 ?side4 A80.out).mono ?_
           (case side1 => repeat (first | exact (Kd.R_reads' HO402.out).2.2 | (with_reducible refine Kd.C_alloc ?_ _) | (with_reducible refine Kd.C_drewN ?_ _) | (with_reducible refine Kd.C_drew ?_)))
           (case side2 => exact (Kd.R_reads' HO402.out).2.1)
           (case side3 => repeat (first | exact (Kd.R_reads' HO405.out).2.2 | (with_reducible refine Kd.C_alloc ?_ _) | (with_reducible refine Kd.C_drewN ?_ _) | (with_reducible refine Kd.C_drew ?_)))
           (case side4 => exact (Kd.R_reads' HO405.out).2.1)
           rintro e w89 ⟨v407, rfl, ho0, hb⟩
           refine ⟨_, rfl, ?_⟩
           have n0_ := Aside0.mk (Kd.R_elder' (by (with_reducible repeat (first | apply Kd.R_alloc | apply Kd.R_drewN | apply Kd.R_drew)); exact HO_8.out) (Kd.R_base ho0) hb)
           have n1_ := Aside0.mk (Kd.R_elder' (by (with_reducible repeat (first | apply Kd.R_alloc | apply Kd.R_drewN | apply Kd.R_drew)); exact HO_11.out) (Kd.R_base ho0) hb)
           have n2_ := Aside0.mk (Kd.R_below (by (with_reducible repeat (first | apply Kd.R_alloc | apply Kd.R_drewN | apply Kd.R_drew)); exact HO_373000.out) hb)
           have n3_ := Aside0.mk (Kd.R_below (by (with_reducible repeat (first | apply Kd.R_alloc | apply Kd.R_drewN | apply Kd.R_drew)); exact HO_373001.out) hb)
           have n4_ := Aside0.mk (Kd.R_below (by (with_reducible repeat (first | apply Kd.R_alloc | apply Kd.R_drewN | apply Kd.R_drew)); exact HO402.out) hb)
           have n5_ := Aside0.mk (Kd.R_below (by (with_reducible repeat (first | apply Kd.R_alloc | apply Kd.R_drewN | apply Kd.R_drew)); exact HO405.out) hb)
           have n6_ := Aside0.mk (Kd.R_lower (Kd.R_new' (Kd.R_new' ho0 (Kd.R_lt (by (with_reducible repeat (first | apply Kd.R_alloc | apply Kd.R_drewN | apply Kd.R_drew)); exact HO_8.out))) (Kd.R_lt (by (with_reducible repeat (first | apply Kd.R_alloc | apply Kd.R_drewN | apply Kd.R_drew)); exact HO_11.out))) (below_size (by repeat (first | (with_reducible first | exact HB.out | apply below_alloc | apply pw_below_drewN | apply below_drew1 | refine below_set ?_ GE349.out | refine below_set ?_ GE350.out | refine below_set ?_ GE372.out) | exact HB.out))))
           have n7_ := Aside0.mk (blk_below (g := gb349) (o := .cells #[.int .i64 a0_0, .int .i64 a0_1, .int .i64 a0_2, .int .i64 a0_3] 23 (0, 0)) (by (with_reducible repeat (first | refine blk_drewN ?_ _ | refine blk_drew ?_ | refine blk_alloc ?_ _)); exact BK349.out) hb)
           have n8_ := Aside0.mk (blk_below (g := gb350) (o := .cells #[.slice A1_0 l1_0.length c1_0, .slice A1_1 l1_1.length c1_1] 26 (0, 0)) (by (with_reducible repeat (first | refine blk_drewN ?_ _ | refine blk_drew ?_ | refine blk_alloc ?_ _)); exact BK350.out) hb)
           have n9_ := Aside0.mk (blk_below (g := gb372) (o := .cells #[.slice Ao32 t390.length co32, .slice Ao36 t391.length co36] 33 (0, 0)) (by (with_reducible repeat (first | refine blk_drewN ?_ _ | refine blk_drew ?_ | refine blk_alloc ?_ _)); exact BK372.out) hb)
           have n10_ := Aside0.mk (below_step (by repeat (first | (with_reducible first | exact HB.out | apply below_alloc | apply pw_below_drewN | apply below_drew1 | refine below_set ?_ GE349.out | refine below_set ?_ GE350.out | refine below_set ?_ GE372.out) | exact HB.out)) hb)
           clear HO_8
           clear HO_11
           clear HO_373000
           clear HO_373001
           clear HO402
           clear HO405
           clear BK349
           clear BK350
           clear BK372
           clear HB
           have HO_8 := n0_
           have HO_11 := n1_
           have HO_373000 := n2_
           have HO_373001 := n3_
           have HO402 := n4_
           have HO405 := n5_
           have HO408 := n6_
           have BK349 := n7_
           have BK350 := n8_
           have BK372 := n9_
           have HB := n10_
           clear n0_ n1_ n2_ n3_ n4_ n5_ n6_ n7_ n8_ n9_ n10_
           (try clear hb)
           (try clear hb2)
           (try clear hk)
           (try clear hi)
           (try clear ho0)
           refine hK.out _ _ ⟨(blk_cell BK349.out 0).trans rfl, (blk_cell BK349.out 1).trans rfl, (blk_cell BK349.out 2).trans rfl, (blk_cell BK349.out 3).trans rfl, (blk_cell BK350.out 0).trans rfl, (blk_cell BK350.out 1).trans rfl⟩ (fun hHeld => ?_)
           clear hK K
           refine norm_ (a' := ?_) ?_ ?_
           rotate_left
           ·
            show Act.put _ (some 89) _ = _
            simp only [Act.put, sA_, sB_, sC_, i64_w, i32_w]
            rfl
           refine pure_ (i := 6) (N := some 83) (v := ?_) (a' := ?_) #[true, true, true, true, true, true, true, false, false, false, false] rfl rfl (any_of HT_.out (by kernel_rfl)) (fun _ _ _ h => h) (Or.inl ⟨by rfl, ?_⟩) ?_ ?_
           rotate_left
           ·
            intro w'
            go_simp
            with_reducible rfl
           rotate_left
           ·
            simp only [Act.put, sA_, sB_, sC_, i64_w, i32_w]
            rfl
           refine pure_ (i := 7) (N := some 90) (v := ?_) (a' := ?_) #[true, true, true, true, true, true, true, true, false, false, false] rfl rfl (any_of HT_.out (by kernel_rfl)) (fun _ _ _ h => h) (Or.inl ⟨by rfl, ?_⟩) ?_ ?_
           rotate_left
           ·
            intro w'
            go_simp
            with_reducible rfl
           rotate_left
           ·
            simp only [Act.put, sA_, sB_, sC_, i64_w, i32_w]
            rfl
           refine pure_ (i := 8) (N := some 91) (v := ?_) (a' := ?_) #[true, true, true, true, true, true, true, true, true, false, false] rfl rfl (any_of HT_.out (by kernel_rfl)) (fun _ _ _ h => h) (Or.inl ⟨by rfl, ?_⟩) ?_ ?_
           rotate_left
           ·
            intro w'
            go_simp
            with_reducible rfl
           rotate_left
           ·
            simp only [Act.put, sA_, sB_, sC_, i64_w, i32_w]
            rfl
           refine pure_ (i := 9) (N := some 16) (v := ?_) (a' := ?_) #[true, true, true, true, true, true, true, true, true, true, false] rfl rfl (any_of HT_.out (by kernel_rfl)) (fun _ _ _ h => h) (Or.inl ⟨by rfl, ?_⟩) ?_ ?_
           rotate_left
           ·
            intro w'
            go_simp
            with_reducible rfl
           rotate_left
           ·
            simp only [Act.put, sA_, sB_, sC_, i64_w, i32_w]
            rfl
           refine pure_ (i := 10) (N := some 17) (v := ?_) (a' := ?_) #[true, true, true, true, true, true, true, true, true, true, true] rfl rfl (any_of HT_.out (by kernel_rfl)) (fun _ _ _ h => h) (Or.inl ⟨by rfl, ?_⟩) ?_ ?_
           rotate_left
           ·
            intro w'
            go_simp
            with_reducible rfl
           rotate_left
           ·
            simp only [Act.put, sA_, sB_, sC_, i64_w, i32_w]
            rfl
           refine done_ (done_of HT_.out (by kernel_rfl)) ?_
           go_upto_region 25 with (fail)
           go_cut [100] (fun v100 wc => ∃ (kq : Nat) (x100_80 : Bool), v100 = .bool x100_80 ∧ Aside0 (laws_FnExactMoebiusTurns.j2 kq t394 t393 x100_80 = some true) ∧ Aside0 (kq ≤ kj53) ∧ Aside0 (Kd.R k51 51 wc w.heap.size (fun _ => True) (.slice Ao82 t377.length co82) t394) ∧ Aside0 (Kd.R (Kd.int .i8) 49 wc w.heap.size (fun k_ => some k_ ≠ ((.slice Ao36 t391.length co36) : Value).ownBlock) (.slice Ao32 t390.length co32) t390) ∧ Aside0 (Kd.R (Kd.int .i8) 49 wc w.heap.size (fun k_ => some k_ ≠ ((.slice Ao32 t390.length co32) : Value).ownBlock) (.slice Ao36 t391.length co36) t391) ∧ Aside0 (wc.heap[gb349]? = some (.cells #[.int .i64 a0_0, .int .i64 a0_1, .int .i64 a0_2, .int .i64 a0_3] 23 (0, 0))) ∧ Aside0 (wc.heap[gb350]? = some (.cells #[(.slice A1_0 l1_0.length c1_0), (.slice A1_1 l1_1.length c1_1)] 26 (0, 0))) ∧ Aside0 (wc.heap[gb372]? = some (.cells #[(.slice Ao32 t390.length co32), (.slice Ao36 t391.length co36)] 33 (0, 0))) ∧ Aside0 (Below w.heap.size w wc))
           case first =>
            have H := HC81.out
            clear HC81
            replace H := Option.bind_eq_some_iff.mp H
            obtain ⟨t410, A900, H⟩ := H
            replace H : (if t410 = true then (laws_FnExactMoebiusTurns.j2 kj53 t394 t393 (t409 != t365)) else (laws_FnExactMoebiusTurns.j2 kj53 t394 t393 true)) = some true := H
            have A90 := Aside0.mk A900
            clear A900
            by_cases c91 : t410 = true
            ·
             subst c91
             have H1 : (laws_FnExactMoebiusTurns.j2 kj53 t394 t393 (t409 != t365)) = some true := by rw [if_pos rfl] at H; exact H
             clear H
             have H := H1
             clear H1
             have H' := Aside0.mk H
             clear H
             obtain ⟨Ao92, co92, eo92⟩ := Kd.R_slice HO408.out
             subst eo92
             obtain ⟨Ao93, co93, eo93⟩ := Kd.R_slice HO_8.out
             subst eo93
             go_wp2_with (first | ((with_reducible refine gate_callee (f := 12) rfl ?_); refine goesL_ (some 94) rfl rfl Try.func12 (by kernel_rfl) rfl #[.slice Ao92 t406.length co92, .slice Ao93 t362.length co93] rfl (by (try simp only [List.map_toArray, List.map_cons, List.map_nil]); first | done | rfl | (simp only [List.length_drop, List.length_take]; rfl)) ?_; (with_reducible refine (laws_eqTurnS.calls kj53 _ _ t406 _ _ t362 true _ ?side1 ?side2 ?side3 ?side4 A90.out).mono ?_); (case side1 => repeat (first | exact (Kd.R_reads' HO408.out).2.2 | (with_reducible refine Kd.C_alloc ?_ _) | (with_reducible refine Kd.C_drewN ?_ _) | (with_reducible refine Kd.C_drew ?_))); (case side2 => exact (Kd.R_reads' HO408.out).2.1); (case side3 => repeat (first | exact (Kd.R_reads' HO_8.out).2.2 | (with_reducible refine Kd.C_alloc ?_ _) | (with_reducible refine Kd.C_drewN ?_ _) | (with_reducible refine Kd.C_drew ?_))); (case side4 => exact (Kd.R_reads' HO_8.out).2.1); rintro e w94 ⟨rfl, hb⟩; refine ⟨_, rfl, ?_⟩; have n0_ := Aside0.mk (Kd.R_below (by (with_reducible repeat (first | apply Kd.R_alloc | apply Kd.R_drewN | apply Kd.R_drew)); exact HO_8.out) hb); have n1_ := Aside0.mk (Kd.R_below (by (with_reducible repeat (first | apply Kd.R_alloc | apply Kd.R_drewN | apply Kd.R_drew)); exact HO_11.out) hb); have n2_ := Aside0.mk (Kd.R_below (by (with_reducible repeat (first | apply Kd.R_alloc | apply Kd.R_drewN | apply Kd.R_drew)); exact HO_373000.out) hb); have n3_ := Aside0.mk (Kd.R_below (by (with_reducible repeat (first | apply Kd.R_alloc | apply Kd.R_drewN | apply Kd.R_drew)); exact HO_373001.out) hb); have n4_ := Aside0.mk (Kd.R_below (by (with_reducible repeat (first | apply Kd.R_alloc | apply Kd.R_drewN | apply Kd.R_drew)); exact HO402.out) hb); have n5_ := Aside0.mk (Kd.R_below (by (with_reducible repeat (first | apply Kd.R_alloc | apply Kd.R_drewN | apply Kd.R_drew)); exact HO405.out) hb); have n6_ := Aside0.mk (Kd.R_below (by (with_reducible repeat (first | apply Kd.R_alloc | apply Kd.R_drewN | apply Kd.R_drew)); exact HO408.out) hb); have n7_ := Aside0.mk (blk_below (g := gb349) (o := .cells #[.int .i64 a0_0, .int .i64 a0_1, .int .i64 a0_2, .int .i64 a0_3] 23 (0, 0)) (by (with_reducible repeat (first | refine blk_drewN ?_ _ | refine blk_drew ?_ | refine blk_alloc ?_ _)); exact BK349.out) hb); have n8_ := Aside0.mk (blk_below (g := gb350) (o := .cells #[.slice A1_0 l1_0.length c1_0, .slice A1_1 l1_1.length c1_1] 26 (0, 0)) (by (with_reducible repeat (first | refine blk_drewN ?_ _ | refine blk_drew ?_ | refine blk_alloc ?_ _)); exact BK350.out) hb); have n9_ := Aside0.mk (blk_below (g := gb372) (o := .cells #[.slice Ao32 t390.length co32, .slice Ao36 t391.length co36] 33 (0, 0)) (by (with_reducible repeat (first | refine blk_drewN ?_ _ | refine blk_drew ?_ | refine blk_alloc ?_ _)); exact BK372.out) hb); have n10_ := Aside0.mk (below_step (by repeat (first | (with_reducible first | exact HB.out | apply below_alloc | apply pw_below_drewN | apply below_drew1 | refine below_set ?_ GE349.out | refine below_set ?_ GE350.out | refine below_set ?_ GE372.out) | exact HB.out)) hb); clear HO_8; clear HO_11; clear HO_373000; clear HO_373001; clear HO402; clear HO405; clear HO408; clear BK349; clear BK350; clear BK372; clear HB; have HO_8 := n0_; have HO_11 := n1_; have HO_373000 := n2_; have HO_373001 := n3_; have HO402 := n4_; have HO405 := n5_; have HO408 := n6_; have BK349 := n7_; have BK350 := n8_; have BK372 := n9_; have HB := n10_; clear n0_ n1_ n2_ n3_ n4_ n5_ n6_ n7_ n8_ n9_ n10_; (try clear hb); (try clear hb2); (try clear hk); (try clear hi)))
             go_meet
             case rel => exact ⟨_, ((t409 != t365)), (by first | rfl | (simp; done) | (simp [*]; done)), H', ⟨by have := HJ16.out; have := HJ53.out; first | omega | exact Nat.le_refl _⟩, ⟨by (try simp only [hl373000_53]); (try simp only [hl373001_53]); (with_reducible repeat (first | apply Kd.R_alloc | apply Kd.R_drewN | apply Kd.R_drew)); exact Kd.R_mono HO_11.out (fun _ hk => trivial)⟩, ⟨by (try simp only [hl373000_53]); (try simp only [hl373001_53]); (with_reducible repeat (first | apply Kd.R_alloc | apply Kd.R_drewN | apply Kd.R_drew)); exact Kd.R_mono HO_373000.out (fun _ hk => hk.1.1)⟩, ⟨by (try simp only [hl373000_53]); (try simp only [hl373001_53]); (with_reducible repeat (first | apply Kd.R_alloc | apply Kd.R_drewN | apply Kd.R_drew)); exact Kd.R_mono HO_373001.out (fun _ hk => hk.1.1)⟩, ⟨by (try simp only [hl373000_53]); (try simp only [hl373001_53]); (with_reducible repeat (first | refine blk_drewN ?_ _ | refine blk_drew ?_ | refine blk_alloc ?_ _)); exact BK349.out⟩, ⟨by (try simp only [hl373000_53]); (try simp only [hl373001_53]); (with_reducible repeat (first | refine blk_drewN ?_ _ | refine blk_drew ?_ | refine blk_alloc ?_ _)); exact BK350.out⟩, ⟨by (try simp only [hl373000_53]); (try simp only [hl373001_53]); (with_reducible repeat (first | refine blk_drewN ?_ _ | refine blk_drew ?_ | refine blk_alloc ?_ _)); exact BK372.out⟩, ⟨by repeat (first | (with_reducible first | exact HB.out | apply below_alloc | apply pw_below_drewN | apply below_drew1 | refine below_set ?_ GE349.out | refine below_set ?_ GE350.out | refine below_set ?_ GE372.out) | exact HB.out)⟩⟩
            ·
             replace c91 := Bool.eq_false_iff.mpr c91
             subst c91
             have H1 : (laws_FnExactMoebiusTurns.j2 kj53 t394 t393 true) = some true := by rw [if_neg (show ¬ (false = true) by decide)] at H; exact H
             clear H
             have H := H1
             clear H1
             have H' := Aside0.mk H
             clear H
             obtain ⟨Ao95, co95, eo95⟩ := Kd.R_slice HO408.out
             subst eo95
             obtain ⟨Ao96, co96, eo96⟩ := Kd.R_slice HO_8.out
             subst eo96
             go_wp2_with (first | ((with_reducible refine gate_callee (f := 12) rfl ?_); refine goesL_ (some 94) rfl rfl Try.func12 (by kernel_rfl) rfl #[.slice Ao95 t406.length co95, .slice Ao96 t362.length co96] rfl (by (try simp only [List.map_toArray, List.map_cons, List.map_nil]); first | done | rfl | (simp only [List.length_drop, List.length_take]; rfl)) ?_; (with_reducible refine (laws_eqTurnS.calls kj53 _ _ t406 _ _ t362 false _ ?side1 ?side2 ?side3 ?side4 A90.out).mono ?_); (case side1 => repeat (first | exact (Kd.R_reads' HO408.out).2.2 | (with_reducible refine Kd.C_alloc ?_ _) | (with_reducible refine Kd.C_drewN ?_ _) | (with_reducible refine Kd.C_drew ?_))); (case side2 => exact (Kd.R_reads' HO408.out).2.1); (case side3 => repeat (first | exact (Kd.R_reads' HO_8.out).2.2 | (with_reducible refine Kd.C_alloc ?_ _) | (with_reducible refine Kd.C_drewN ?_ _) | (with_reducible refine Kd.C_drew ?_))); (case side4 => exact (Kd.R_reads' HO_8.out).2.1); rintro e w97 ⟨rfl, hb⟩; refine ⟨_, rfl, ?_⟩; have n0_ := Aside0.mk (Kd.R_below (by (with_reducible repeat (first | apply Kd.R_alloc | apply Kd.R_drewN | apply Kd.R_drew)); exact HO_8.out) hb); have n1_ := Aside0.mk (Kd.R_below (by (with_reducible repeat (first | apply Kd.R_alloc | apply Kd.R_drewN | apply Kd.R_drew)); exact HO_11.out) hb); have n2_ := Aside0.mk (Kd.R_below (by (with_reducible repeat (first | apply Kd.R_alloc | apply Kd.R_drewN | apply Kd.R_drew)); exact HO_373000.out) hb); have n3_ := Aside0.mk (Kd.R_below (by (with_reducible repeat (first | apply Kd.R_alloc | apply Kd.R_drewN | apply Kd.R_drew)); exact HO_373001.out) hb); have n4_ := Aside0.mk (Kd.R_below (by (with_reducible repeat (first | apply Kd.R_alloc | apply Kd.R_drewN | apply Kd.R_drew)); exact HO402.out) hb); have n5_ := Aside0.mk (Kd.R_below (by (with_reducible repeat (first | apply Kd.R_alloc | apply Kd.R_drewN | apply Kd.R_drew)); exact HO405.out) hb); have n6_ := Aside0.mk (Kd.R_below (by (with_reducible repeat (first | apply Kd.R_alloc | apply Kd.R_drewN | apply Kd.R_drew)); exact HO408.out) hb); have n7_ := Aside0.mk (blk_below (g := gb349) (o := .cells #[.int .i64 a0_0, .int .i64 a0_1, .int .i64 a0_2, .int .i64 a0_3] 23 (0, 0)) (by (with_reducible repeat (first | refine blk_drewN ?_ _ | refine blk_drew ?_ | refine blk_alloc ?_ _)); exact BK349.out) hb); have n8_ := Aside0.mk (blk_below (g := gb350) (o := .cells #[.slice A1_0 l1_0.length c1_0, .slice A1_1 l1_1.length c1_1] 26 (0, 0)) (by (with_reducible repeat (first | refine blk_drewN ?_ _ | refine blk_drew ?_ | refine blk_alloc ?_ _)); exact BK350.out) hb); have n9_ := Aside0.mk (blk_below (g := gb372) (o := .cells #[.slice Ao32 t390.length co32, .slice Ao36 t391.length co36] 33 (0, 0)) (by (with_reducible repeat (first | refine blk_drewN ?_ _ | refine blk_drew ?_ | refine blk_alloc ?_ _)); exact BK372.out) hb); have n10_ := Aside0.mk (below_step (by repeat (first | (with_reducible first | exact HB.out | apply below_alloc | apply pw_below_drewN | apply below_drew1 | refine below_set ?_ GE349.out | refine below_set ?_ GE350.out | refine below_set ?_ GE372.out) | exact HB.out)) hb); clear HO_8; clear HO_11; clear HO_373000; clear HO_373001; clear HO402; clear HO405; clear HO408; clear BK349; clear BK350; clear BK372; clear HB; have HO_8 := n0_; have HO_11 := n1_; have HO_373000 := n2_; have HO_373001 := n3_; have HO402 := n4_; have HO405 := n5_; have HO408 := n6_; have BK349 := n7_; have BK350 := n8_; have BK372 := n9_; have HB := n10_; clear n0_ n1_ n2_ n3_ n4_ n5_ n6_ n7_ n8_ n9_ n10_; (try clear hb); (try clear hb2); (try clear hk); (try clear hi)))
             go_meet
             case rel => exact ⟨_, (true), (by first | rfl | (simp; done) | (simp [*]; done)), H', ⟨by have := HJ16.out; have := HJ53.out; first | omega | exact Nat.le_refl _⟩, ⟨by (try simp only [hl373000_53]); (try simp only [hl373001_53]); (with_reducible repeat (first | apply Kd.R_alloc | apply Kd.R_drewN | apply Kd.R_drew)); exact Kd.R_mono HO_11.out (fun _ hk => trivial)⟩, ⟨by (try simp only [hl373000_53]); (try simp only [hl373001_53]); (with_reducible repeat (first | apply Kd.R_alloc | apply Kd.R_drewN | apply Kd.R_drew)); exact Kd.R_mono HO_373000.out (fun _ hk => hk.1.1)⟩, ⟨by (try simp only [hl373000_53]); (try simp only [hl373001_53]); (with_reducible repeat (first | apply Kd.R_alloc | apply Kd.R_drewN | apply Kd.R_drew)); exact Kd.R_mono HO_373001.out (fun _ hk => hk.1.1)⟩, ⟨by (try simp only [hl373000_53]); (try simp only [hl373001_53]); (with_reducible repeat (first | refine blk_drewN ?_ _ | refine blk_drew ?_ | refine blk_alloc ?_ _)); exact BK349.out⟩, ⟨by (try simp only [hl373000_53]); (try simp only [hl373001_53]); (with_reducible repeat (first | refine blk_drewN ?_ _ | refine blk_drew ?_ | refine blk_alloc ?_ _)); exact BK350.out⟩, ⟨by (try simp only [hl373000_53]); (try simp only [hl373001_53]); (with_reducible repeat (first | refine blk_drewN ?_ _ | refine blk_drew ?_ | refine blk_alloc ?_ _)); exact BK372.out⟩, ⟨by repeat (first | (with_reducible first | exact HB.out | apply below_alloc | apply pw_below_drewN | apply below_drew1 | refine below_set ?_ GE349.out | refine below_set ?_ GE350.out | refine below_set ?_ GE372.out) | exact HB.out)⟩⟩
           case rest =>
            clear HC81
            try clear c1
            try clear c2
            try clear p2
            try clear c3
            try clear c4
            try clear c5
            try clear c5b0
            try clear c6
            try clear c7
            try clear c8
            try clear c9
            try clear c10
            try clear c11
            try clear c12
            try clear c13
            try clear c14
            try clear c15
            try clear c16
            try clear c20
            try clear c33
            try clear c34
            try clear c42
            try clear c49
            try clear c52
            try clear c60
            try clear c61
            try clear c64
            try clear c64b0
            try clear c66
            try clear c73
            try clear c76
            try clear c76b0
            try clear c77
            try clear c77b0
            try clear c77b1
            try clear c91
            try clear hcz21_0
            try clear hcz21_1
            try clear hcz29_0
            try clear hcz29_1
            try clear hcz35_0
            try clear hcz35_1
            try clear hcz62_0
            try clear hcz62_1
            try clear hcz9_0
            try clear hcz9_1
            try clear hfz21_0
            try clear hfz21_1
            try clear hfz29_0
            try clear hfz29_1
            try clear hfz35_0
            try clear hfz35_1
            try clear hfz62_0
            try clear hfz62_1
            try clear hfz9_0
            try clear hfz9_1
            try clear p2
            obtain ⟨kq, x100_80, rfl, HA, HJ80, HO_11, HO_373000, HO_373001, BK349, BK350, BK372, HB⟩ := hcut
            have hl11_80 := (Kd.R_reads' HO_11.out).1
            rw [hl11_80] at HO_11
            (try simp only [hl11_80])
            (try simp only [hl11_80] at BK349)
            (try simp only [hl11_80] at BK350)
            (try simp only [hl11_80] at BK372)
            (try simp only [hl11_80] at HO_373000)
            (try simp only [hl11_80] at HO_373001)
            cases kq with
            | zero => exact absurd HA.out (by simp [laws_FnExactMoebiusTurns.j2])
            | succ kj80 =>
             have H := HA.out
             clear HA
             simp only [laws_FnExactMoebiusTurns.j2] at H
             by_cases c98 : x100_80 = true
             ·
              subst c98
              have H1 : (some false) = some true := by rw [if_pos rfl] at H; exact H
              clear H
              have H := H1
              clear H1
              exact absurd H (by decide)
             ·
              replace c98 := Bool.eq_false_iff.mpr c98
              subst c98
              have H1 : ((laws_heldTurnS.f kj80 t394 1).bind fun t411 => (if t411 < 0 then (some false) else (if t411 = t393 then (some true) else (some false)))) = some true := by rw [if_neg (show ¬ (false = true) by decide)] at H; exact H
              clear H
              have H := H1
              clear H1
              replace H := Option.bind_eq_some_iff.mp H
              obtain ⟨t411, A990, H⟩ := H
              replace H : (if t411 < 0 then (some false) else (if t411 = t393 then (some true) else (some false))) = some true := H
              have A99 := Aside0.mk A990
              clear A990
              by_cases c100 : t411 < 0
              ·
               rw [if_pos c100] at H
               have c100b0 : decide (t411 < 0) = true := decide_eq_true c100
               clear c100
               exact absurd H (by decide)
              ·
               rw [if_neg c100] at H
               have c100b0 : decide (t411 < 0) = false := decide_eq_false c100
               clear c100
               by_cases c101 : t411 = t393
               ·
                rw [if_pos c101] at H
                have c101b0 : (t411 == t393) = true := beq_iff_eq.mpr c101
                have c101b1 : (t411 != t393) = false := bne_eq_false_iff_eq.mpr c101
                clear c101
                clear H
                go_wp2_with (first | ((with_reducible refine gate_callee (f := 16) rfl ?_); refine goesL_ (some 103) rfl rfl Try.func16 (by kernel_rfl) rfl #[.slice Ao82 t394.length co82, .int .i64 1] rfl (by (try simp only [List.map_toArray, List.map_cons, List.map_nil]); first | done | rfl | (simp only [List.length_drop, List.length_take]; rfl)) ?_; (with_reducible refine (laws_heldTurnS.calls kj80 _ _ t394 1 t411 _ ?side1 ?side2 A99.out).mono ?_); (case side1 => repeat (first | exact (Kd.R_reads' HO_11.out).2.2 | (with_reducible refine Kd.C_alloc ?_ _) | (with_reducible refine Kd.C_drewN ?_ _) | (with_reducible refine Kd.C_drew ?_))); (case side2 => exact (Kd.R_reads' HO_11.out).2.1); rintro e w' ⟨rfl, ⟨nd, rfl⟩⟩; refine ⟨_, rfl, ?_⟩))
                go_ret
                exact ⟨by first | rfl | (simp [errW_none, errW_some] <;> rfl) | (simp [*, errW_none, errW_some] <;> rfl), by repeat (first | (with_reducible first | exact HB.out | apply below_alloc | apply pw_below_drewN | apply below_drew1 | refine below_set ?_ GE349.out | refine below_set ?_ GE350.out | refine below_set ?_ GE372.out) | exact HB.out)⟩
               ·
                rw [if_neg c101] at H
                have c101b0 : (t411 == t393) = false := beq_eq_false_iff_ne.mpr c101
                have c101b1 : (t411 != t393) = true := bne_iff_ne.mpr c101
                exact absurd H (by decide)
          ·
           rw [if_neg c77] at H
           have c77b0 : (t395 == t393) = false := beq_eq_false_iff_ne.mpr c77
           have c77b1 : (t395 != t393) = true := bne_iff_ne.mpr c77
           exact absurd H (by decide)
     ·
      replace c52 := Bool.eq_false_iff.mpr c52
      subst c52
      have H1 : (some false) = some true := by rw [if_neg (show ¬ (false = true) by decide)] at H; exact H
      clear H
      have H := H1
      clear H1
      exact absurd H (by decide)
end Go.Proofs.Ytififhihgkbafaa.PM

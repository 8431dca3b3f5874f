import Derived.Test.YtenhgmddpkiliaaPBx0
import Derived.Test.YtenhgmddpkiliaaPBx1
import Derived.Test.YtenhgmddpkiliaaPBx11
import Derived.Test.YtenhgmddpkiliaaPBx2
import Derived.Test.YtenhgmddpkiliaaPBx5
import Derived.Test.YtenhgmddpkiliaaPBx6
import Derived.Test.YtenhgmddpkiliaaPBx7
import Derived.Test.YtenhgmddpkiliaaPBx9
namespace Go.Proofs.Ytenhgmddpkiliaa.PB
open Go.RowKit Go.Proofs.YtenhgmddpkiliaaW.PrintWords Go.Proofs.YtenhgmddpkiliaaW.PrintLast Go.Proofs.YtenhgmddpkiliaaW.PrintMore Go.Proofs.YtenhgmddpkiliaaRP
attribute [local go_sem] max2_int min2_int max_two min_two max_three min_three max_four min_four Go.Proofs.YtenhgmddpkiliaaRP.max_eight Go.Proofs.YtenhgmddpkiliaaRP.tmod_len   -- for this text's walks alone
set_option linter.unusedVariables false
set_option linter.unusedSimpArgs false
theorem z12_1_ {P : Prop} (h : P := by repeat (first | (with_reducible first | exact HB.out | apply below_alloc | apply pw_below_drewN | apply below_drew1 | refine below_set ?_ GE436.out) | exact HB.out)) : P := h
theorem z12_2_ {P : Prop} (h : P := by (with_reducible repeat (first | refine blk_drewN ?_ _ | refine blk_drew ?_ | refine blk_alloc ?_ _)); exact BK436.out) : P := h
theorem z12_3_ {P : Prop} (h : P := by (try simp only [List.map_toArray, List.map_cons, List.map_nil]); first | done | rfl | (simp only [List.length_drop, List.length_take]; rfl)) : P := h
theorem z12_4_ {P : Prop} (h : P := by (with_reducible repeat (first | apply Kd.R_alloc | apply Kd.R_drewN | apply Kd.R_drew)); exact HO_14.out) : P := h
theorem z12_5_ {P : Prop} (h : P := by (with_reducible repeat (first | apply Kd.R_alloc | apply Kd.R_drewN | apply Kd.R_drew)); exact HO_13.out) : P := h
theorem z12_6_ {P : Prop} (h : P := by (with_reducible repeat (first | apply Kd.R_alloc | apply Kd.R_drewN | apply Kd.R_drew)); exact HO_9.out) : P := h
theorem z12_7_ {P : Prop} (h : P := by (with_reducible repeat (first | apply Kd.R_alloc | apply Kd.R_drewN | apply Kd.R_drew)); exact HO_8.out) : P := h
theorem z12_8_ {P : Prop} (h : P := by (with_reducible repeat (first | apply Kd.R_alloc | apply Kd.R_drewN | apply Kd.R_drew)); exact HO442.out) : P := h
theorem z12_9_ {P : Prop} (h : P := by repeat (first | (with_reducible first | exact HB.out | apply below_alloc | apply pw_below_drewN | apply below_drew1) | exact HB.out)) : P := h
theorem z12_10_ {P : Prop} (h : P := by (with_reducible repeat (first | apply Kd.R_alloc | apply Kd.R_drewN | apply Kd.R_drew)); exact HO445.out) : P := h
theorem z12_11_ {P : Prop} (h : P := by (with_reducible repeat (first | apply Kd.R_alloc | apply Kd.R_drewN | apply Kd.R_drew)); exact HO457.out) : P := h
theorem z12_12_ {P : Prop} (h : P := by (with_reducible repeat (first | apply Kd.R_alloc | apply Kd.R_drewN | apply Kd.R_drew)); exact HO454.out) : P := h
theorem z12_13_ {P : Prop} (h : P := by (with_reducible repeat (first | apply Kd.R_alloc | apply Kd.R_drewN | apply Kd.R_drew)); exact HO_12.out) : P := h
theorem z12_14_ {P : Prop} (h : P := by (with_reducible repeat (first | apply Kd.R_alloc | apply Kd.R_drewN | apply Kd.R_drew)); exact HO_11.out) : P := h
theorem z12_15_ {P : Prop} (h : P := by (with_reducible repeat (first | apply Kd.R_alloc | apply Kd.R_drewN | apply Kd.R_drew)); exact HO502.out) : P := h
theorem z12_16_ {P : Prop} (h : P := by (with_reducible repeat (first | apply Kd.R_alloc | apply Kd.R_drewN | apply Kd.R_drew)); exact HO461.out) : P := h
theorem z12_17_ {P : Prop} (h : P := by (with_reducible repeat (first | apply Kd.R_alloc | apply Kd.R_drewN | apply Kd.R_drew)); exact HO505.out) : P := h
theorem z12_18_ {P : Prop} (h : P := by (with_reducible repeat (first | apply Kd.R_alloc | apply Kd.R_drewN | apply Kd.R_drew)); exact HO482.out) : P := h
theorem z12_19_ {P : Prop} (h : P := by (with_reducible repeat (first | apply Kd.R_alloc | apply Kd.R_drewN | apply Kd.R_drew)); exact HO464.out) : P := h
theorem z12_20_ {P : Prop} (h : P := by first | rfl | (simp; done) | (simp [*]; done) | (simp [isE_]; done)) : P := h
theorem z12_21_ {P : Prop} (h : P := by (with_reducible repeat (first | apply Kd.R_alloc | apply Kd.R_drewN | apply Kd.R_drew)); exact HO486.out) : P := h
theorem z12_22_ {P : Prop} (h : P := by (with_reducible repeat (first | apply Kd.R_alloc | apply Kd.R_drewN | apply Kd.R_drew)); exact HO517.out) : P := h
theorem z12_23_ {P : Prop} (h : P := by (with_reducible repeat (first | apply Kd.R_alloc | apply Kd.R_drewN | apply Kd.R_drew)); exact HO514.out) : P := h
theorem z12_24_ {P : Prop} (h : P := by (with_reducible repeat (first | apply Kd.R_alloc | apply Kd.R_drewN | apply Kd.R_drew)); exact HO476.out) : P := h
theorem z12_25_ {P : Prop} (h : P := by (with_reducible repeat (first | apply Kd.R_alloc | apply Kd.R_drewN | apply Kd.R_drew)); exact HO473.out) : P := h
theorem z12_26_ {P : Prop} (h : P := by (with_reducible repeat (first | apply Kd.R_alloc | apply Kd.R_drewN | apply Kd.R_drew)); exact Kd.R_mono HO_9.out (fun _ hk => hk.2.1)) : P := h
theorem z12_27_ {P : Prop} (h : P := by (with_reducible repeat (first | apply Kd.R_alloc | apply Kd.R_drewN | apply Kd.R_drew)); exact Kd.R_mono HO_8.out (fun _ hk => hk.2.1)) : P := h
theorem z12_28_ {P : Prop} (h : P := by (with_reducible repeat (first | apply Kd.R_alloc | apply Kd.R_drewN | apply Kd.R_drew)); exact Kd.R_mono HO_14.out (fun _ hk => hk.1)) : P := h
theorem z12_29_ {P : Prop} (h : P := by (with_reducible repeat (first | apply Kd.R_alloc | apply Kd.R_drewN | apply Kd.R_drew)); exact Kd.R_mono HO_13.out (fun _ hk => hk.1)) : P := h
theorem z12_30_ {P : Prop} (h : P := by (with_reducible repeat (first | apply Kd.R_alloc | apply Kd.R_drewN | apply Kd.R_drew)); exact Kd.R_mono HO476.out (fun _ hk => ⟨hk.1.2, hk.2⟩)) : P := h
theorem z12_31_ {P : Prop} (h : P := by (with_reducible repeat (first | apply Kd.R_alloc | apply Kd.R_drewN | apply Kd.R_drew)); exact Kd.R_mono HO473.out (fun _ hk => ⟨hk.1.2, hk.2⟩)) : P := h
theorem z12_32_ {P : Prop} (h : P := by (with_reducible repeat (first | apply Kd.R_alloc | apply Kd.R_drewN | apply Kd.R_drew)); exact Kd.R_mono HO464.out (fun _ hk => ⟨hk.1.2, hk.2⟩)) : P := h
theorem z12_33_ {P : Prop} (h : P := by (with_reducible repeat (first | apply Kd.R_alloc | apply Kd.R_drewN | apply Kd.R_drew)); exact Kd.R_mono HO461.out (fun _ hk => ⟨hk.1.2, hk.2⟩)) : P := h
theorem z12_34_ {P : Prop} (h : P := by (with_reducible repeat (first | apply Kd.R_alloc | apply Kd.R_drewN | apply Kd.R_drew)); exact Kd.R_mono HO457.out (fun _ hk => ⟨hk.1.2, hk.2⟩)) : P := h
theorem z12_35_ {P : Prop} (h : P := by (with_reducible repeat (first | apply Kd.R_alloc | apply Kd.R_drewN | apply Kd.R_drew)); exact Kd.R_mono HO454.out (fun _ hk => ⟨hk.1.2, hk.2⟩)) : P := h
theorem z12_36_ {P : Prop} (h : P := by first | rfl | (simp [errW_none, errW_some] <;> rfl) | (simp [*, errW_none, errW_some] <;> rfl)) : P := h
theorem z12_37_ {P : Prop} (h : P := by (with_reducible repeat (first | apply Kd.R_alloc | apply Kd.R_drewN | apply Kd.R_drew)); exact Kd.R_mono HO_14.out (fun _ hk => trivial)) : P := h
theorem z12_38_ {P : Prop} (h : P := by (with_reducible repeat (first | apply Kd.R_alloc | apply Kd.R_drewN | apply Kd.R_drew)); exact Kd.R_mono HO_13.out (fun _ hk => trivial)) : P := h
theorem z12_39_ {P : Prop} (h : P := by have := HJ27.out; first | omega | exact Nat.le_refl _) : P := h
theorem z12_40_ {P : Prop} (h : P := by have := HJ27.out; have := HJ75.out; first | omega | exact Nat.le_refl _) : P := h
/-! ### laws_FnExactKeptAfter: function 13 -/
mutual
def laws_FnExactKeptAfter.j0 : Nat → List (S42) → List (S120) → List (S45) → List (S124) → Int → List (S45) → List (S124) → List (S45) → List (S124) → Int → Bool → ByteArray → Int → ByteArray → ByteArray → Int → Int → Option (Bool)
 | 0, _, _, _, _, _, _, _, _, _, _, _, _, _, _, _, _, _ => none
 | k + 1, x0, x1, x8, x9, x10, x11, x12, x13, x14, x15, x75, x437000, x437001, x437002, x437003, x437004, x437005 => if x75 = true then (some false) else ((laws_toLineS.f k x0).bind fun t480 => ((laws_eqLineS.f k x11 t480).bind fun t483 => (if t483 = true then ((laws_toKeptS.f k x1).bind fun t484 => ((laws_eqKeptS.f k x12 t484).bind fun t487 => (if t487 = true then ((laws_markLineS.f k x11 1).bind fun bt488 => ((laws_markKeptS.f k x12 bt488.1).bind fun bt490 => (if bt490.1 < 0 then (laws_FnExactKeptAfter.j1 k x0 x1 x8 x9 x10 x13 x14 true x437000 x437001 x437002 x437003 x437004 x437005) else ((laws_eqLineS.f k x13 x8).bind fun t492 => (if t492 = true then ((laws_eqKeptS.f k x14 x9).bind fun t493 => (if t493 = true then (laws_FnExactKeptAfter.j1 k x0 x1 x8 x9 x10 x13 x14 (x15 != x10) x437000 x437001 x437002 x437003 x437004 x437005) else (laws_FnExactKeptAfter.j1 k x0 x1 x8 x9 x10 x13 x14 true x437000 x437001 x437002 x437003 x437004 x437005))) else (laws_FnExactKeptAfter.j1 k x0 x1 x8 x9 x10 x13 x14 true x437000 x437001 x437002 x437003 x437004 x437005)))))) else (some false)))) else (some false))))
def laws_FnExactKeptAfter.j1 : Nat → List (S42) → List (S120) → List (S45) → List (S124) → Int → List (S45) → List (S124) → Bool → ByteArray → Int → ByteArray → ByteArray → Int → Int → Option (Bool)
 | 0, _, _, _, _, _, _, _, _, _, _, _, _, _, _ => none
 | k + 1, x0, x1, x8, x9, x10, x13, x14, x110, x437000, x437001, x437002, x437003, x437004, x437005 => if x110 = true then (some false) else ((laws_markLineS.f k x13 1).bind fun bt494 => ((laws_markKeptS.f k x14 bt494.1).bind fun bt496 => ((laws_heldLineS.f k bt494.2 1).bind fun t498 => (if t498 < 0 then (some false) else ((laws_heldKeptS.f k bt496.2 t498).bind fun t499 => (if t499 < 0 then (some false) else (if t499 = bt496.1 then ((laws_toLineS.f k x0).bind fun t500 => ((laws_toKeptS.f k x1).bind fun t503 => ((laws_toLine.f x437000 x437001 x437002 x437003 x437004 x437005).bind fun bt506 => ((impl_KeptAfter.f k t500 t503 bt506.1 bt506.2.1 bt506.2.2.1 bt506.2.2.2.1 bt506.2.2.2.2.1 bt506.2.2.2.2.2).bind fun bt512 => ((laws_eqLineS.f k bt512.1 x8).bind fun t519 => (if t519 = true then ((laws_eqKeptS.f k bt512.2.1 x9).bind fun t520 => (if t520 = true then (laws_FnExactKeptAfter.j2 k bt494.2 bt496.2 bt496.1 (bt512.2.2 != x10)) else (laws_FnExactKeptAfter.j2 k bt494.2 bt496.2 bt496.1 true))) else (laws_FnExactKeptAfter.j2 k bt494.2 bt496.2 bt496.1 true))))))) else (some false))))))))
def laws_FnExactKeptAfter.j2 : Nat → List (S45) → List (S124) → Int → Bool → Option (Bool)
 | 0, _, _, _, _ => none
 | k + 1, x13, x14, x17, x155 => if x155 = true then (some false) else ((laws_heldLineS.f k x13 1).bind fun t521 => (if t521 < 0 then (some false) else ((laws_heldKeptS.f k x14 t521).bind fun t522 => (if t522 < 0 then (some false) else (if t522 = x17 then (some true) else (some false))))))
end
def laws_FnExactKeptAfter.f (k : Nat) (l0 : List (S42)) (l1 : List (S120)) (a2_0 : ByteArray) (a2_1 : Int) (a2_2 : ByteArray) (a2_3 : ByteArray) (a2_4 : Int) (a2_5 : Int) : Option (Bool) := (laws_szLineS.f k l0 1048576).bind fun t437 => (if t437 < 0 then (some true) else ((laws_szKeptS.f k l1 t437).bind fun t438 => (if t438 < 0 then (some true) else ((laws_szLine.f a2_0 a2_1 a2_2 a2_3 a2_4 a2_5 t438).bind fun t439 => (if t439 < 0 then (some true) else ((laws_toLineS.f k l0).bind fun t440 => ((laws_toKeptS.f k l1).bind fun t443 => ((laws_toLine.f a2_0 a2_1 a2_2 a2_3 a2_4 a2_5).bind fun bt446 => ((spec_KeptAfter.f k t440 t443 bt446.1 bt446.2.1 bt446.2.2.1 bt446.2.2.2.1 bt446.2.2.2.2.1 bt446.2.2.2.2.2).bind fun bt452 => ((laws_toLineS.f k l0).bind fun t459 => ((laws_toKeptS.f k l1).bind fun t462 => ((laws_toLine.f a2_0 a2_1 a2_2 a2_3 a2_4 a2_5).bind fun bt465 => ((impl_KeptAfter.f k t459 t462 bt465.1 bt465.2.1 bt465.2.2.1 bt465.2.2.2.1 bt465.2.2.2.2.1 bt465.2.2.2.2.2).bind fun bt471 => ((laws_eqLineS.f k bt471.1 bt452.1).bind fun t478 => (if t478 = true then ((laws_eqKeptS.f k bt471.2.1 bt452.2.1).bind fun t479 => (if t479 = true then (laws_FnExactKeptAfter.j0 k l0 l1 bt452.1 bt452.2.1 bt452.2.2 t459 t462 bt471.1 bt471.2.1 bt471.2.2 (bt471.2.2 != bt452.2.2) a2_0 a2_1 a2_2 a2_3 a2_4 a2_5) else (laws_FnExactKeptAfter.j0 k l0 l1 bt452.1 bt452.2.1 bt452.2.2 t459 t462 bt471.1 bt471.2.1 bt471.2.2 true a2_0 a2_1 a2_2 a2_3 a2_4 a2_5))) else (laws_FnExactKeptAfter.j0 k l0 l1 bt452.1 bt452.2.1 bt452.2.2 t459 t462 bt471.1 bt471.2.1 bt471.2.2 true a2_0 a2_1 a2_2 a2_3 a2_4 a2_5))))))))))))))))
theorem laws_FnExactKeptAfter.mono_l : ∀ k, (∀ y0 y1 y2 y3 y4 y5 y6 y7 y8 y9 y10 y11 y12 y13 y14 y15 y16, LeO (laws_FnExactKeptAfter.j0 k y0 y1 y2 y3 y4 y5 y6 y7 y8 y9 y10 y11 y12 y13 y14 y15 y16) (laws_FnExactKeptAfter.j0 (k + 1) y0 y1 y2 y3 y4 y5 y6 y7 y8 y9 y10 y11 y12 y13 y14 y15 y16)) ∧ (∀ y0 y1 y2 y3 y4 y5 y6 y7 y8 y9 y10 y11 y12 y13, LeO (laws_FnExactKeptAfter.j1 k y0 y1 y2 y3 y4 y5 y6 y7 y8 y9 y10 y11 y12 y13) (laws_FnExactKeptAfter.j1 (k + 1) y0 y1 y2 y3 y4 y5 y6 y7 y8 y9 y10 y11 y12 y13)) ∧ (∀ y0 y1 y2 y3, LeO (laws_FnExactKeptAfter.j2 k y0 y1 y2 y3) (laws_FnExactKeptAfter.j2 (k + 1) y0 y1 y2 y3))
 | 0 => ⟨fun _ _ _ _ _ _ _ _ _ _ _ _ _ _ _ _ _ r h => by simp [laws_FnExactKeptAfter.j0] at h, fun _ _ _ _ _ _ _ _ _ _ _ _ _ _ r h => by simp [laws_FnExactKeptAfter.j1] at h, fun _ _ _ _ r h => by simp [laws_FnExactKeptAfter.j2] at h⟩
 | k + 1 => by
  obtain ⟨ih0, ih1, ih2⟩ := laws_FnExactKeptAfter.mono_l k
  refine ⟨?_, ?_, ?_⟩
  ·
   intro y0 y1 y2 y3 y4 y5 y6 y7 y8 y9 y10 y11 y12 y13 y14 y15 y16
   unfold laws_FnExactKeptAfter.j0
   repeat' first
   | (with_reducible exact ih0 _ _ _ _ _ _ _ _ _ _ _ _ _ _ _ _ _)
   | (with_reducible exact ih1 _ _ _ _ _ _ _ _ _ _ _ _ _ _)
   | (with_reducible exact ih2 _ _ _ _)
   | (with_reducible exact impl_KeptAfter.mono _ _ _ _ _ _ _ _ _)
   | (with_reducible exact laws_eqKeptS.mono _ _ _)
   | (with_reducible exact laws_eqLineS.mono _ _ _)
   | (with_reducible exact laws_heldKeptS.mono _ _ _)
   | (with_reducible exact laws_heldLineS.mono _ _ _)
   | (with_reducible exact laws_markKeptS.mono _ _ _)
   | (with_reducible exact laws_markLineS.mono _ _ _)
   | (with_reducible exact laws_szKeptS.mono _ _ _)
   | (with_reducible exact laws_szLineS.mono _ _ _)
   | (with_reducible exact laws_toKeptS.mono _ _)
   | (with_reducible exact laws_toLineS.mono _ _)
   | (with_reducible exact spec_KeptAfter.mono _ _ _ _ _ _ _ _ _)
   | (with_reducible exact LeO.refl _)
   | (with_reducible exact LeO.none _)
   | (with_reducible refine LeO.ite ?_ ?_)
   | (with_reducible refine LeO.bind ?_ (fun _ => ?_))
   | exact ih0 _ _ _ _ _ _ _ _ _ _ _ _ _ _ _ _ _
   | exact ih1 _ _ _ _ _ _ _ _ _ _ _ _ _ _
   | exact ih2 _ _ _ _
   | exact LeO.none _
   | refine LeO.ite ?_ ?_
   | refine LeO.bind ?_ (fun _ => ?_)
  ·
   intro y0 y1 y2 y3 y4 y5 y6 y7 y8 y9 y10 y11 y12 y13
   unfold laws_FnExactKeptAfter.j1
   repeat' first
   | (with_reducible exact ih0 _ _ _ _ _ _ _ _ _ _ _ _ _ _ _ _ _)
   | (with_reducible exact ih1 _ _ _ _ _ _ _ _ _ _ _ _ _ _)
   | (with_reducible exact ih2 _ _ _ _)
   | (with_reducible exact impl_KeptAfter.mono _ _ _ _ _ _ _ _ _)
   | (with_reducible exact laws_eqKeptS.mono _ _ _)
   | (with_reducible exact laws_eqLineS.mono _ _ _)
   | (with_reducible exact laws_heldKeptS.mono _ _ _)
   | (with_reducible exact laws_heldLineS.mono _ _ _)
   | (with_reducible exact laws_markKeptS.mono _ _ _)
   | (with_reducible exact laws_markLineS.mono _ _ _)
   | (with_reducible exact laws_szKeptS.mono _ _ _)
   | (with_reducible exact laws_szLineS.mono _ _ _)
   | (with_reducible exact laws_toKeptS.mono _ _)
   | (with_reducible exact laws_toLineS.mono _ _)
   | (with_reducible exact spec_KeptAfter.mono _ _ _ _ _ _ _ _ _)
   | (with_reducible exact LeO.refl _)
   | (with_reducible exact LeO.none _)
   | (with_reducible refine LeO.ite ?_ ?_)
   | (with_reducible refine LeO.bind ?_ (fun _ => ?_))
   | exact ih0 _ _ _ _ _ _ _ _ _ _ _ _ _ _ _ _ _
   | exact ih1 _ _ _ _ _ _ _ _ _ _ _ _ _ _
   | exact ih2 _ _ _ _
   | exact LeO.none _
   | refine LeO.ite ?_ ?_
   | refine LeO.bind ?_ (fun _ => ?_)
  ·
   intro y0 y1 y2 y3
   unfold laws_FnExactKeptAfter.j2
   repeat' first
   | (with_reducible exact ih0 _ _ _ _ _ _ _ _ _ _ _ _ _ _ _ _ _)
   | (with_reducible exact ih1 _ _ _ _ _ _ _ _ _ _ _ _ _ _)
   | (with_reducible exact ih2 _ _ _ _)
   | (with_reducible exact impl_KeptAfter.mono _ _ _ _ _ _ _ _ _)
   | (with_reducible exact laws_eqKeptS.mono _ _ _)
   | (with_reducible exact laws_eqLineS.mono _ _ _)
   | (with_reducible exact laws_heldKeptS.mono _ _ _)
   | (with_reducible exact laws_heldLineS.mono _ _ _)
   | (with_reducible exact laws_markKeptS.mono _ _ _)
   | (with_reducible exact laws_markLineS.mono _ _ _)
   | (with_reducible exact laws_szKeptS.mono _ _ _)
   | (with_reducible exact laws_szLineS.mono _ _ _)
   | (with_reducible exact laws_toKeptS.mono _ _)
   | (with_reducible exact laws_toLineS.mono _ _)
   | (with_reducible exact spec_KeptAfter.mono _ _ _ _ _ _ _ _ _)
   | (with_reducible exact LeO.refl _)
   | (with_reducible exact LeO.none _)
   | (with_reducible refine LeO.ite ?_ ?_)
   | (with_reducible refine LeO.bind ?_ (fun _ => ?_))
   | exact ih0 _ _ _ _ _ _ _ _ _ _ _ _ _ _ _ _ _
   | exact ih1 _ _ _ _ _ _ _ _ _ _ _ _ _ _
   | exact ih2 _ _ _ _
   | exact LeO.none _
   | refine LeO.ite ?_ ?_
   | refine LeO.bind ?_ (fun _ => ?_)
theorem laws_FnExactKeptAfter.mono : ∀ a0 a1 a2 a3 a4 a5 a6 a7 k, LeO (laws_FnExactKeptAfter.f k a0 a1 a2 a3 a4 a5 a6 a7) (laws_FnExactKeptAfter.f (k + 1) a0 a1 a2 a3 a4 a5 a6 a7) := by
 intro a0 a1 a2 a3 a4 a5 a6 a7 k
 obtain ⟨ih0, ih1, ih2⟩ := laws_FnExactKeptAfter.mono_l k
 unfold laws_FnExactKeptAfter.f
 repeat' first
   | (with_reducible exact ih0 _ _ _ _ _ _ _ _ _ _ _ _ _ _ _ _ _)
   | (with_reducible exact ih1 _ _ _ _ _ _ _ _ _ _ _ _ _ _)
   | (with_reducible exact ih2 _ _ _ _)
   | (with_reducible exact impl_KeptAfter.mono _ _ _ _ _ _ _ _ _)
   | (with_reducible exact laws_eqKeptS.mono _ _ _)
   | (with_reducible exact laws_eqLineS.mono _ _ _)
   | (with_reducible exact laws_heldKeptS.mono _ _ _)
   | (with_reducible exact laws_heldLineS.mono _ _ _)
   | (with_reducible exact laws_markKeptS.mono _ _ _)
   | (with_reducible exact laws_markLineS.mono _ _ _)
   | (with_reducible exact laws_szKeptS.mono _ _ _)
   | (with_reducible exact laws_szLineS.mono _ _ _)
   | (with_reducible exact laws_toKeptS.mono _ _)
   | (with_reducible exact laws_toLineS.mono _ _)
   | (with_reducible exact spec_KeptAfter.mono _ _ _ _ _ _ _ _ _)
   | (with_reducible exact LeO.refl _)
   | (with_reducible exact LeO.none _)
   | (with_reducible refine LeO.ite ?_ ?_)
   | (with_reducible refine LeO.bind ?_ (fun _ => ?_))
   | exact ih0 _ _ _ _ _ _ _ _ _ _ _ _ _ _ _ _ _
   | exact ih1 _ _ _ _ _ _ _ _ _ _ _ _ _ _
   | exact ih2 _ _ _ _
   | exact LeO.none _
   | refine LeO.ite ?_ ?_
   | refine LeO.bind ?_ (fun _ => ?_)
def laws_FnExactKeptAfter.T11 : Bool × List (List Nat × List Nat) := (true, [([], []), ([0], [0]), ([], []), ([2, 1], [2]), ([], []), ([4, 3], [4]), ([1, 3, 5, 5], [1, 3, 5]), ([6], [6]), ([7], [7]), ([7], [7]), ([7], [7]), ([8, 6, 0, 1, 2, 3, 4, 5, 6, 7, 8], [8]), ([9, 11, 0, 1, 2, 3, 4, 5, 6, 7, 8, 9, 11], [9]), ([10, 12, 0, 1, 2, 3, 4, 5, 6, 7, 8, 9, 10, 11, 12], [10])])
def laws_FnExactKeptAfter.B11 : List Nat := [0, 1, 0, 7, 0, 31, 63, 127, 255, 255, 255, 511, 3071, 8191]
theorem laws_FnExactKeptAfter.tab11 : rtab .any (opsOf Try.f13 11) = laws_FnExactKeptAfter.T11 := by kernel_rfl
theorem laws_FnExactKeptAfter.bits11 : waitsOk laws_FnExactKeptAfter.T11.2 laws_FnExactKeptAfter.B11 = true := by kernel_rfl
def laws_FnExactKeptAfter.T38 : Bool × List (List Nat × List Nat) := (true, [([], []), ([0], [0]), ([], []), ([2, 1], [2]), ([], []), ([4, 3], [4]), ([1, 3, 5, 5], [1, 3, 5]), ([6], [6]), ([7], [7]), ([7], [7]), ([7], [7]), ([8, 6, 0, 1, 2, 3, 4, 5, 6, 7, 8], [8]), ([9, 11, 0, 1, 2, 3, 4, 5, 6, 7, 8, 9, 11], [9]), ([10, 12, 0, 1, 2, 3, 4, 5, 6, 7, 8, 9, 10, 11, 12], [10])])
def laws_FnExactKeptAfter.B38 : List Nat := [0, 1, 0, 7, 0, 31, 63, 127, 255, 255, 255, 511, 3071, 8191]
theorem laws_FnExactKeptAfter.tab38 : rtab .any (opsOf Try.f13 38) = laws_FnExactKeptAfter.T38 := by kernel_rfl
theorem laws_FnExactKeptAfter.bits38 : waitsOk laws_FnExactKeptAfter.T38.2 laws_FnExactKeptAfter.B38 = true := by kernel_rfl
set_option maxHeartbeats 8000000 in
set_option maxRecDepth 100000 in
theorem laws_FnExactKeptAfter.calls (k : Nat) (A0 : Option Addr) (c0 : Nat) (l0 : List (S42)) (A1 : Option Addr) (c1 : Nat) (l1 : List (S120)) (a2_0 : ByteArray) (a2_1 : Int) (a2_2 : ByteArray) (a2_3 : ByteArray) (a2_4 : Int) (a2_5 : Int) (w : World) (hr0 : Kd.C k42 w A0 l0.length l0) (hc0 : l0.length ≤ c0) (hr1 : Kd.C k120 w A1 l1.length l1) (hc1 : l1.length ≤ c1) (h : laws_FnExactKeptAfter.f k l0 l1 a2_0 a2_1 a2_2 a2_3 a2_4 a2_5 = some true) :
  Calls Try.prog 13 #[.slice A0 l0.length c0, .slice A1 l1.length c1, .agg #[.string a2_0, .int .i8 a2_1, .string a2_2, .string a2_3, .int .i64 a2_4, .int .i64 a2_5]] w fun e w' => e = .returned (.bool true) ∧ Below w.heap.size w w' := by
 have hu42 := Try.underlying42
 have HR0 := A_ hr0
 have HC0 := A_ hc0
 clear hr0 hc0
 have HR1 := A_ hr1
 have HC1 := A_ hc1
 clear hr1 hc1
 have HB := A_ (Below.refl w.heap.size w)
 have H : ((laws_szLineS.f k l0 1048576).bind fun t437 => (if t437 < 0 then (some true) else ((laws_szKeptS.f k l1 t437).bind fun t438 => (if t438 < 0 then (some true) else ((laws_szLine.f a2_0 a2_1 a2_2 a2_3 a2_4 a2_5 t438).bind fun t439 => (if t439 < 0 then (some true) else ((laws_toLineS.f k l0).bind fun t440 => ((laws_toKeptS.f k l1).bind fun t443 => ((laws_toLine.f a2_0 a2_1 a2_2 a2_3 a2_4 a2_5).bind fun bt446 => ((spec_KeptAfter.f k t440 t443 bt446.1 bt446.2.1 bt446.2.2.1 bt446.2.2.2.1 bt446.2.2.2.2.1 bt446.2.2.2.2.2).bind fun bt452 => ((laws_toLineS.f k l0).bind fun t459 => ((laws_toKeptS.f k l1).bind fun t462 => ((laws_toLine.f a2_0 a2_1 a2_2 a2_3 a2_4 a2_5).bind fun bt465 => ((impl_KeptAfter.f k t459 t462 bt465.1 bt465.2.1 bt465.2.2.1 bt465.2.2.2.1 bt465.2.2.2.2.1 bt465.2.2.2.2.2).bind fun bt471 => ((laws_eqLineS.f k bt471.1 bt452.1).bind fun t478 => (if t478 = true then ((laws_eqKeptS.f k bt471.2.1 bt452.2.1).bind fun t479 => (if t479 = true then (laws_FnExactKeptAfter.j0 k l0 l1 bt452.1 bt452.2.1 bt452.2.2 t459 t462 bt471.1 bt471.2.1 bt471.2.2 (bt471.2.2 != bt452.2.2) a2_0 a2_1 a2_2 a2_3 a2_4 a2_5) else (laws_FnExactKeptAfter.j0 k l0 l1 bt452.1 bt452.2.1 bt452.2.2 t459 t462 bt471.1 bt471.2.1 bt471.2.2 true a2_0 a2_1 a2_2 a2_3 a2_4 a2_5))) else (laws_FnExactKeptAfter.j0 k l0 l1 bt452.1 bt452.2.1 bt452.2.2 t459 t462 bt471.1 bt471.2.1 bt471.2.2 true a2_0 a2_1 a2_2 a2_3 a2_4 a2_5))))))))))))))))) = some true := h
 clear h
 replace H := Option.bind_eq_some_iff.mp H
 obtain ⟨t437, A40, H⟩ := H
 try dsimp only at H
 have A4 := A_ A40
 clear A40
 by_cases c5 : t437 < 0
 ·
  rw [if_pos c5] at H
  have c5b0 := decide_eq_true c5
  clear c5
  clear H
  go_enter Try.func13, Try.ntmps13
  go_wp2_with (first | ((with_reducible refine gate_dst (N := 5) rfl ?_); refine box_event ?hg (N := 5) ?hd (cs := #[.string a2_0, .int .i8 a2_1, .string a2_2, .string a2_3, .int .i64 a2_4, .int .i64 a2_5]) (t := 42) ?hr ?_; (case hd => rfl); (case hg => rfl); (case hr => first | (go_simp; done) | (go_simp; rfl)); intro gb436 hg w6 hbox hb; have _ := A_ (below_step z12_9_ hb); have _ := A_ (hbox); have _ := A_ ((by rw [hg]; exact (below_size z12_9_) : w.heap.size ≤ gb436)); have _ := A_ ((by rw [hg]; exact (below_size z12_9_) : w.heap.size ≤ gb436)); clear HB; rename_i HB BK436 GW436 GE436; clear hb hbox hg) | ((with_reducible refine gate_callee (f := 14) rfl ?_); refine goesL_ (some 24) rfl rfl Try.func14 (by kernel_rfl) rfl #[.slice A0 l0.length c0, .int .i64 1048576] rfl z12_3_ ?_; (with_reducible refine (laws_szLineS.calls k _ _ l0 1048576 t437 _ ?side1 ?side2 A4.out).mono ?_); (case side1 => have hx_ := (Kd.C_below HR0.out HB.out); exact kc_); (case side2 => exact HC0.out); rintro e w7 ⟨rfl, hb⟩; refine ⟨_, rfl, ?_⟩; have _ := A_ (blk_below (g := gb436) (o := .cells #[.string a2_0, .int .i8 a2_1, .string a2_2, .string a2_3, .int .i64 a2_4, .int .i64 a2_5] 42 (0, 0)) z12_2_ hb); have _ := A_ (below_step z12_1_ hb); clear BK436 HB; rename_i BK436 HB; (try clear hb)))
  go_ret
  exact ⟨z12_36_, z12_1_⟩
 ·
  rw [if_neg c5] at H
  have c5b0 := decide_eq_false c5
  clear c5
  replace H := Option.bind_eq_some_iff.mp H
  obtain ⟨t438, A80, H⟩ := H
  try dsimp only at H
  have A8 := A_ A80
  clear A80
  by_cases c9 : t438 < 0
  ·
   rw [if_pos c9] at H
   have c9b0 := decide_eq_true c9
   clear c9
   clear H
   go_enter Try.func13, Try.ntmps13
   go_wp2_with (first | ((with_reducible refine gate_dst (N := 5) rfl ?_); refine box_event ?hg (N := 5) ?hd (cs := #[.string a2_0, .int .i8 a2_1, .string a2_2, .string a2_3, .int .i64 a2_4, .int .i64 a2_5]) (t := 42) ?hr ?_; (case hd => rfl); (case hg => rfl); (case hr => first | (go_simp; done) | (go_simp; rfl)); intro gb436 hg w10 hbox hb; have _ := A_ (below_step z12_9_ hb); have _ := A_ (hbox); have _ := A_ ((by rw [hg]; exact (below_size z12_9_) : w.heap.size ≤ gb436)); have _ := A_ ((by rw [hg]; exact (below_size z12_9_) : w.heap.size ≤ gb436)); clear HB; rename_i HB BK436 GW436 GE436; clear hb hbox hg) | ((with_reducible refine gate_callee (f := 14) rfl ?_); refine goesL_ (some 24) rfl rfl Try.func14 (by kernel_rfl) rfl #[.slice A0 l0.length c0, .int .i64 1048576] rfl z12_3_ ?_; (with_reducible refine (laws_szLineS.calls k _ _ l0 1048576 t437 _ ?side1 ?side2 A4.out).mono ?_); (case side1 => have hx_ := (Kd.C_below HR0.out HB.out); exact kc_); (case side2 => exact HC0.out); rintro e w11 ⟨rfl, hb⟩; refine ⟨_, rfl, ?_⟩; have _ := A_ (blk_below (g := gb436) (o := .cells #[.string a2_0, .int .i8 a2_1, .string a2_2, .string a2_3, .int .i64 a2_4, .int .i64 a2_5] 42 (0, 0)) z12_2_ hb); have _ := A_ (below_step z12_1_ hb); clear BK436 HB; rename_i BK436 HB; (try clear hb)) | ((with_reducible refine gate_callee (f := 55) rfl ?_); refine goesL_ (some 29) rfl rfl Try.func55 (by kernel_rfl) rfl #[.slice A1 l1.length c1, .int .i64 t437] rfl z12_3_ ?_; (with_reducible refine (laws_szKeptS.calls k _ _ l1 t437 t438 _ ?side1 ?side2 A8.out).mono ?_); (case side1 => have hx_ := (Kd.C_below HR1.out HB.out); exact kc_); (case side2 => exact HC1.out); rintro e w12 ⟨rfl, hb⟩; refine ⟨_, rfl, ?_⟩; have _ := A_ (blk_below (g := gb436) (o := .cells #[.string a2_0, .int .i8 a2_1, .string a2_2, .string a2_3, .int .i64 a2_4, .int .i64 a2_5] 42 (0, 0)) z12_2_ hb); have _ := A_ (below_step z12_1_ hb); clear BK436 HB; rename_i BK436 HB; (try clear hb)))
   go_ret
   exact ⟨z12_36_, z12_1_⟩
  ·
   rw [if_neg c9] at H
   have c9b0 := decide_eq_false c9
   clear c9
   replace H := Option.bind_eq_some_iff.mp H
   obtain ⟨t439, A130, H⟩ := H
   try dsimp only at H
   have A13 := A_ A130
   clear A130
   by_cases c14 : t439 < 0
   ·
    rw [if_pos c14] at H
    have c14b0 := decide_eq_true c14
    clear c14
    clear H
    go_enter Try.func13, Try.ntmps13
    go_wp2_with (first | ((with_reducible refine gate_dst (N := 5) rfl ?_); refine box_event ?hg (N := 5) ?hd (cs := #[.string a2_0, .int .i8 a2_1, .string a2_2, .string a2_3, .int .i64 a2_4, .int .i64 a2_5]) (t := 42) ?hr ?_; (case hd => rfl); (case hg => rfl); (case hr => first | (go_simp; done) | (go_simp; rfl)); intro gb436 hg w15 hbox hb; have _ := A_ (below_step z12_9_ hb); have _ := A_ (hbox); have _ := A_ ((by rw [hg]; exact (below_size z12_9_) : w.heap.size ≤ gb436)); have _ := A_ ((by rw [hg]; exact (below_size z12_9_) : w.heap.size ≤ gb436)); clear HB; rename_i HB BK436 GW436 GE436; clear hb hbox hg) | ((with_reducible refine gate_callee (f := 14) rfl ?_); refine goesL_ (some 24) rfl rfl Try.func14 (by kernel_rfl) rfl #[.slice A0 l0.length c0, .int .i64 1048576] rfl z12_3_ ?_; (with_reducible refine (laws_szLineS.calls k _ _ l0 1048576 t437 _ ?side1 ?side2 A4.out).mono ?_); (case side1 => have hx_ := (Kd.C_below HR0.out HB.out); exact kc_); (case side2 => exact HC0.out); rintro e w16 ⟨rfl, hb⟩; refine ⟨_, rfl, ?_⟩; have _ := A_ (blk_below (g := gb436) (o := .cells #[.string a2_0, .int .i8 a2_1, .string a2_2, .string a2_3, .int .i64 a2_4, .int .i64 a2_5] 42 (0, 0)) z12_2_ hb); have _ := A_ (below_step z12_1_ hb); clear BK436 HB; rename_i BK436 HB; (try clear hb)) | ((with_reducible refine gate_callee (f := 55) rfl ?_); refine goesL_ (some 29) rfl rfl Try.func55 (by kernel_rfl) rfl #[.slice A1 l1.length c1, .int .i64 t437] rfl z12_3_ ?_; (with_reducible refine (laws_szKeptS.calls k _ _ l1 t437 t438 _ ?side1 ?side2 A8.out).mono ?_); (case side1 => have hx_ := (Kd.C_below HR1.out HB.out); exact kc_); (case side2 => exact HC1.out); rintro e w17 ⟨rfl, hb⟩; refine ⟨_, rfl, ?_⟩; have _ := A_ (blk_below (g := gb436) (o := .cells #[.string a2_0, .int .i8 a2_1, .string a2_2, .string a2_3, .int .i64 a2_4, .int .i64 a2_5] 42 (0, 0)) z12_2_ hb); have _ := A_ (below_step z12_1_ hb); clear BK436 HB; rename_i BK436 HB; (try clear hb); obtain ⟨hcz18_0, hcz18_1, hcz18_2, hcz18_3, hcz18_4, hcz18_5⟩ := bc6 BK436.out; obtain ⟨hfz18_0, hfz18_1, hfz18_2, hfz18_3, hfz18_4, hfz18_5⟩ := bf6 BK436.out) | ((with_reducible refine gate_callee (f := 29) rfl ?_); refine goesL_ (some 34) rfl rfl Try.func29 (by kernel_rfl) rfl #[.agg #[.string a2_0, .int .i8 a2_1, .string a2_2, .string a2_3, .int .i64 a2_4, .int .i64 a2_5], .int .i64 t438] rfl z12_3_ ?_; (with_reducible refine (laws_szLine.calls a2_0 a2_1 a2_2 a2_3 a2_4 a2_5 t438 t439 _ A13.out).mono ?_); rintro e w19 ⟨rfl, hb⟩; refine ⟨_, rfl, ?_⟩; have _ := A_ (blk_below (g := gb436) (o := .cells #[.string a2_0, .int .i8 a2_1, .string a2_2, .string a2_3, .int .i64 a2_4, .int .i64 a2_5] 42 (0, 0)) z12_2_ hb); have _ := A_ (below_step z12_1_ hb); clear BK436 HB; rename_i BK436 HB; (try clear hb)))
    go_ret
    exact ⟨z12_36_, z12_1_⟩
   ·
    rw [if_neg c14] at H
    have c14b0 := decide_eq_false c14
    clear c14
    replace H := Option.bind_eq_some_iff.mp H
    obtain ⟨t440, A200, H⟩ := H
    try dsimp only at H
    have A20 := A_ A200
    clear A200
    replace H := Option.bind_eq_some_iff.mp H
    obtain ⟨t443, A210, H⟩ := H
    try dsimp only at H
    have A21 := A_ A210
    clear A210
    replace H := Option.bind_eq_some_iff.mp H
    obtain ⟨⟨t446, t447, t448, t449, t450, t451⟩, A220, H⟩ := H
    try dsimp only at H
    have A22 := A_ A220
    clear A220
    replace H := Option.bind_eq_some_iff.mp H
    obtain ⟨⟨t452, t455, t458⟩, A230, H⟩ := H
    try dsimp only at H
    have A23 := A_ A230
    clear A230
    replace H := Option.bind_eq_some_iff.mp H
    obtain ⟨t459, A240, H⟩ := H
    try dsimp only at H
    have A24 := A_ A240
    clear A240
    replace H := Option.bind_eq_some_iff.mp H
    obtain ⟨t462, A250, H⟩ := H
    try dsimp only at H
    have A25 := A_ A250
    clear A250
    replace H := Option.bind_eq_some_iff.mp H
    obtain ⟨⟨t465, t466, t467, t468, t469, t470⟩, A260, H⟩ := H
    try dsimp only at H
    have A26 := A_ A260
    clear A260
    replace H := Option.bind_eq_some_iff.mp H
    obtain ⟨⟨t471, t474, t477⟩, A270, H⟩ := H
    try dsimp only at H
    have A27 := A_ A270
    clear A270
    have HC28 := A_ H
    clear H
    go_enter Try.func13, Try.ntmps13
    try go_wp2_with (first | ((with_reducible refine gate_dst (N := 5) rfl ?_); refine box_event ?hg (N := 5) ?hd (cs := #[.string a2_0, .int .i8 a2_1, .string a2_2, .string a2_3, .int .i64 a2_4, .int .i64 a2_5]) (t := 42) ?hr ?_; (case hd => rfl); (case hg => rfl); (case hr => first | (go_simp; done) | (go_simp; rfl)); intro gb436 hg w29 hbox hb; have _ := A_ (below_step z12_9_ hb); have _ := A_ (hbox); have _ := A_ ((by rw [hg]; exact (below_size z12_9_) : w.heap.size ≤ gb436)); have _ := A_ ((by rw [hg]; exact (below_size z12_9_) : w.heap.size ≤ gb436)); clear HB; rename_i HB BK436 GW436 GE436; clear hb hbox hg) | ((with_reducible refine gate_callee (f := 14) rfl ?_); refine goesL_ (some 24) rfl rfl Try.func14 (by kernel_rfl) rfl #[.slice A0 l0.length c0, .int .i64 1048576] rfl z12_3_ ?_; (with_reducible refine (laws_szLineS.calls k _ _ l0 1048576 t437 _ ?side1 ?side2 A4.out).mono ?_); (case side1 => have hx_ := (Kd.C_below HR0.out HB.out); exact kc_); (case side2 => exact HC0.out); rintro e w30 ⟨rfl, hb⟩; refine ⟨_, rfl, ?_⟩; have _ := A_ (blk_below (g := gb436) (o := .cells #[.string a2_0, .int .i8 a2_1, .string a2_2, .string a2_3, .int .i64 a2_4, .int .i64 a2_5] 42 (0, 0)) z12_2_ hb); have _ := A_ (below_step z12_1_ hb); clear BK436 HB; rename_i BK436 HB; (try clear hb)) | ((with_reducible refine gate_callee (f := 55) rfl ?_); refine goesL_ (some 29) rfl rfl Try.func55 (by kernel_rfl) rfl #[.slice A1 l1.length c1, .int .i64 t437] rfl z12_3_ ?_; (with_reducible refine (laws_szKeptS.calls k _ _ l1 t437 t438 _ ?side1 ?side2 A8.out).mono ?_); (case side1 => have hx_ := (Kd.C_below HR1.out HB.out); exact kc_); (case side2 => exact HC1.out); rintro e w31 ⟨rfl, hb⟩; refine ⟨_, rfl, ?_⟩; have _ := A_ (blk_below (g := gb436) (o := .cells #[.string a2_0, .int .i8 a2_1, .string a2_2, .string a2_3, .int .i64 a2_4, .int .i64 a2_5] 42 (0, 0)) z12_2_ hb); have _ := A_ (below_step z12_1_ hb); clear BK436 HB; rename_i BK436 HB; (try clear hb); obtain ⟨hcz32_0, hcz32_1, hcz32_2, hcz32_3, hcz32_4, hcz32_5⟩ := bc6 BK436.out; obtain ⟨hfz32_0, hfz32_1, hfz32_2, hfz32_3, hfz32_4, hfz32_5⟩ := bf6 BK436.out) | ((with_reducible refine gate_callee (f := 29) rfl ?_); refine goesL_ (some 34) rfl rfl Try.func29 (by kernel_rfl) rfl #[.agg #[.string a2_0, .int .i8 a2_1, .string a2_2, .string a2_3, .int .i64 a2_4, .int .i64 a2_5], .int .i64 t438] rfl z12_3_ ?_; (with_reducible refine (laws_szLine.calls a2_0 a2_1 a2_2 a2_3 a2_4 a2_5 t438 t439 _ A13.out).mono ?_); rintro e w33 ⟨rfl, hb⟩; refine ⟨_, rfl, ?_⟩; have _ := A_ (blk_below (g := gb436) (o := .cells #[.string a2_0, .int .i8 a2_1, .string a2_2, .string a2_3, .int .i64 a2_4, .int .i64 a2_5] 42 (0, 0)) z12_2_ hb); have _ := A_ (below_step z12_1_ hb); clear BK436 HB; rename_i BK436 HB; (try clear hb)))
    have _ := A_ (blk_drew BK436.out)
    have _ := A_ (below_drew1 HB.out)
    clear BK436 HB
    rename_i BK436 HB
    refine start_ (n := 14) (S := fun w' => w'.cell? ⟨gb436, 0, none⟩ = some (.string a2_0) ∧ w'.cell? ⟨gb436, 1, none⟩ = some (.int .i8 a2_1) ∧ w'.cell? ⟨gb436, 2, none⟩ = some (.string a2_2) ∧ w'.cell? ⟨gb436, 3, none⟩ = some (.string a2_3) ∧ w'.cell? ⟨gb436, 4, none⟩ = some (.int .i64 a2_4) ∧ w'.cell? ⟨gb436, 5, none⟩ = some (.int .i64 a2_5)) (ds := []) #[false, false, false, false, false, false, false, false, false, false, false, false, false, false] (by kernel_rfl) rfl rfl ⟨(blk_cell BK436.out 0).trans rfl, (blk_cell BK436.out 1).trans rfl, (blk_cell BK436.out 2).trans rfl, (blk_cell BK436.out 3).trans rfl, (blk_cell BK436.out 4).trans rfl, (blk_cell BK436.out 5).trans rfl⟩ (fun hHeld => ?_); refine with_tabW laws_FnExactKeptAfter.tab11 laws_FnExactKeptAfter.bits11 (fun HT_ HW_ => ?_)
    generalize w33.drew = w34 at BK436 HB hHeld ⊢
    refine pure_ (i := 0) (N := some 38) (v := ?_) (a' := ?_) #[true, false, false, false, false, false, false, false, false, false, false, false, false, false] rfl rfl (any_of HT_.out (by kernel_rfl)) (fun _ _ _ h => h) (Or.inl ⟨by rfl, ?_⟩) ?_ ?_
    rotate_left
    ·
     intro w'
     go_simp
     with_reducible rfl
    rotate_left
    ·
     simp only [Act.put, sA_, sB_, sC_, i64_w, i32_w]
     rfl
    refine pure_ (i := 2) (N := some 40) (v := ?_) (a' := ?_) #[true, false, true, false, false, false, false, false, false, false, false, false, false, false] rfl rfl (any_of HT_.out (by kernel_rfl)) (fun _ _ _ h => h) (Or.inl ⟨by rfl, ?_⟩) ?_ ?_
    rotate_left
    ·
     intro w'
     go_simp
     with_reducible rfl
    rotate_left
    ·
     simp only [Act.put, sA_, sB_, sC_, i64_w, i32_w]
     rfl
    refine take_ (i := 4) (N := some 42) (v := ?_) (a' := ?_) #[true, false, true, false, true, false, false, false, false, false, false, false, false, false] rfl rfl (take_ofW HT_.out HW_.out (by kernel_rfl)) (fun _ _ _ h => h) (Or.inl ⟨by rfl, ?_⟩) hHeld ?_ ?_
    rotate_left
    ·
     rintro w' ⟨s0, s1, s2, s3, s4, s5⟩
     go_simp
     with_reducible rfl
    rotate_left
    ·
     simp only [Act.put, sA_, sB_, sC_, i64_w, i32_w]
     rfl
    refine one_ (i := 1) (N := some 39) #[true, true, true, false, true, false, false, false, false, false, false, false, false, false] rfl rfl (one_of HT_.out (by kernel_rfl)) (by decide) (fun K hK => ?_)
    refine goes_ Try.func16 (by kernel_rfl) rfl #[.slice A0 l0.length c0] (by rfl) rfl rfl z12_3_ ?_
    with_reducible refine (laws_toLineS.calls k _ _ l0 t440 _ ?side1 ?side2 A20.out).mono ?_
    (case side1 => have hx_ := (Kd.C_below HR0.out HB.out); exact kc_)
    (case side2 => exact HC0.out)
    rintro e w35 ⟨v441, rfl, ho0, hb⟩
    refine ⟨_, rfl, ?_⟩
    have _ := A_ (Kd.R_lower ho0 (below_size z12_1_))
    have _ := A_ (blk_below (g := gb436) (o := .cells #[.string a2_0, .int .i8 a2_1, .string a2_2, .string a2_3, .int .i64 a2_4, .int .i64 a2_5] 42 (0, 0)) z12_2_ hb)
    have _ := A_ (below_step z12_1_ hb)
    clear BK436 HB
    rename_i HO442 BK436 HB
    (try clear hb)
    (try clear hb2)
    (try clear hk)
    (try clear hi)
    (try clear ho0)
    refine hK.out _ _ ⟨(blk_cell BK436.out 0).trans rfl, (blk_cell BK436.out 1).trans rfl, (blk_cell BK436.out 2).trans rfl, (blk_cell BK436.out 3).trans rfl, (blk_cell BK436.out 4).trans rfl, (blk_cell BK436.out 5).trans rfl⟩ (fun hHeld => ?_)
    clear hK K
    refine norm_ (a' := ?_) ?_ ?_
    rotate_left
    ·
     show Act.put _ (some 39) _ = _
     simp only [Act.put, sA_, sB_, sC_, i64_w, i32_w]
     rfl
    refine one_ (i := 3) (N := some 41) #[true, true, true, true, true, false, false, false, false, false, false, false, false, false] rfl rfl (one_of HT_.out (by kernel_rfl)) (by decide) (fun K hK => ?_)
    refine goes_ Try.func57 (by kernel_rfl) rfl #[.slice A1 l1.length c1] (by rfl) rfl rfl z12_3_ ?_
    with_reducible refine (laws_toKeptS.calls k _ _ l1 t443 _ ?side1 ?side2 A21.out).mono ?_
    (case side1 => have hx_ := (Kd.C_below HR1.out HB.out); exact kc_)
    (case side2 => exact HC1.out)
    rintro e w36 ⟨v444, rfl, ho0, hb⟩
    refine ⟨_, rfl, ?_⟩
    have _ := A_ (Kd.R_below z12_8_ hb)
    have _ := A_ (Kd.R_lower ho0 (below_size z12_1_))
    have _ := A_ (blk_below (g := gb436) (o := .cells #[.string a2_0, .int .i8 a2_1, .string a2_2, .string a2_3, .int .i64 a2_4, .int .i64 a2_5] 42 (0, 0)) z12_2_ hb)
    have _ := A_ (below_step z12_1_ hb)
    clear HO442 BK436 HB
    rename_i HO442 HO445 BK436 HB
    (try clear hb)
    (try clear hb2)
    (try clear hk)
    (try clear hi)
    (try clear ho0)
    refine hK.out _ _ ⟨(blk_cell BK436.out 0).trans rfl, (blk_cell BK436.out 1).trans rfl, (blk_cell BK436.out 2).trans rfl, (blk_cell BK436.out 3).trans rfl, (blk_cell BK436.out 4).trans rfl, (blk_cell BK436.out 5).trans rfl⟩ (fun hHeld => ?_)
    clear hK K
    refine norm_ (a' := ?_) ?_ ?_
    rotate_left
    ·
     show Act.put _ (some 41) _ = _
     simp only [Act.put, sA_, sB_, sC_, i64_w, i32_w]
     rfl
    refine one_ (i := 5) (N := some 43) #[true, true, true, true, true, true, false, false, false, false, false, false, false, false] rfl rfl (one_of HT_.out (by kernel_rfl)) (by decide) (fun K hK => ?_)
    refine goes_ Try.func31 (by kernel_rfl) rfl #[.agg #[.string a2_0, .int .i8 a2_1, .string a2_2, .string a2_3, .int .i64 a2_4, .int .i64 a2_5]] (by rfl) rfl rfl z12_3_ ?_
    with_reducible refine (laws_toLine.calls a2_0 a2_1 a2_2 a2_3 a2_4 a2_5 t446 t447 t448 t449 t450 t451 _ A22.out).mono ?_
    rintro e w37 ⟨rfl, hb⟩
    refine ⟨_, rfl, ?_⟩
    have _ := A_ (Kd.R_below z12_8_ hb)
    have _ := A_ (Kd.R_below z12_10_ hb)
    have _ := A_ (blk_below (g := gb436) (o := .cells #[.string a2_0, .int .i8 a2_1, .string a2_2, .string a2_3, .int .i64 a2_4, .int .i64 a2_5] 42 (0, 0)) z12_2_ hb)
    have _ := A_ (below_step z12_1_ hb)
    clear HO442 HO445 BK436 HB
    rename_i HO442 HO445 BK436 HB
    (try clear hb)
    (try clear hb2)
    (try clear hk)
    (try clear hi)
    obtain ⟨Ao38, co38, eo38⟩ := Kd.R_slice HO442.out
    (first | subst eo38 | (injection eo38 with f1_ f2_ f3_; have f4_ := f1_.symm; have f5_ := f3_.symm; clear f1_ f2_ f3_; subst f4_; subst f5_))
    obtain ⟨Ao39, co39, eo39⟩ := Kd.R_slice HO445.out
    (first | subst eo39 | (injection eo39 with f1_ f2_ f3_; have f4_ := f1_.symm; have f5_ := f3_.symm; clear f1_ f2_ f3_; subst f4_; subst f5_))
    refine hK.out _ _ ⟨(blk_cell BK436.out 0).trans rfl, (blk_cell BK436.out 1).trans rfl, (blk_cell BK436.out 2).trans rfl, (blk_cell BK436.out 3).trans rfl, (blk_cell BK436.out 4).trans rfl, (blk_cell BK436.out 5).trans rfl⟩ (fun hHeld => ?_)
    clear hK K
    refine norm_ (a' := ?_) ?_ ?_
    rotate_left
    ·
     show Act.put _ (some 43) _ = _
     simp only [Act.put, sA_, sB_, sC_, i64_w, i32_w]
     rfl
    refine one_ (i := 6) (N := some 44) #[true, true, true, true, true, true, true, false, false, false, false, false, false, false] rfl rfl (one_of HT_.out (by kernel_rfl)) (by decide) (fun K hK => ?_)
    refine goes_ Try.func56 (by kernel_rfl) rfl #[.slice Ao38 t440.length co38, .slice Ao39 t443.length co39, .agg #[.string t446, .int .i8 t447, .string t448, .string t449, .int .i64 t450, .int .i64 t451]] (by rfl) rfl rfl z12_3_ ?_
    with_reducible refine (spec_KeptAfter.calls k _ _ t440 _ _ t443 t446 t447 t448 t449 t450 t451 t452 t455 t458 _ ?side1 ?side2 ?side3 ?side4 A23.out).mono ?_
    (case side1 => have hx_ := (Kd.R_reads' HO442.out).2.2; exact kc_)
    (case side2 => exact (Kd.R_reads' HO442.out).2.1)
    (case side3 => have hx_ := (Kd.R_reads' HO445.out).2.2; exact kc_)
    (case side4 => exact (Kd.R_reads' HO445.out).2.1)
    rintro e w40 ⟨v453, v456, rfl, ho0, ho1, hb⟩
    refine ⟨_, rfl, ?_⟩
    have _ := A_ (Kd.R_elder' z12_8_ (Kd.R_base ho0) hb)
    have _ := A_ (Kd.R_elder' z12_10_ (Kd.R_base ho1) hb)
    have _ := A_ (Kd.R_lower (Kd.R_new' ho0 (Kd.R_lt z12_8_)) (below_size z12_1_))
    have _ := A_ (Kd.R_lower (Kd.R_new' ho1 (Kd.R_lt z12_10_)) (below_size z12_1_))
    have _ := A_ (blk_below (g := gb436) (o := .cells #[.string a2_0, .int .i8 a2_1, .string a2_2, .string a2_3, .int .i64 a2_4, .int .i64 a2_5] 42 (0, 0)) z12_2_ hb)
    have _ := A_ (below_step z12_1_ hb)
    clear HO442 HO445 BK436 HB
    rename_i HO442 HO445 HO454 HO457 BK436 HB
    (try clear hb)
    (try clear hb2)
    (try clear hk)
    (try clear hi)
    (try clear ho0)
    (try clear ho1)
    refine hK.out _ _ ⟨(blk_cell BK436.out 0).trans rfl, (blk_cell BK436.out 1).trans rfl, (blk_cell BK436.out 2).trans rfl, (blk_cell BK436.out 3).trans rfl, (blk_cell BK436.out 4).trans rfl, (blk_cell BK436.out 5).trans rfl⟩ (fun hHeld => ?_)
    clear hK K
    refine norm_ (a' := ?_) ?_ ?_
    rotate_left
    ·
     show Act.put _ (some 44) _ = _
     simp only [Act.put, sA_, sB_, sC_, i64_w, i32_w]
     rfl
    refine pure_ (i := 7) (N := some 37) (v := ?_) (a' := ?_) #[true, true, true, true, true, true, true, true, false, false, false, false, false, false] rfl rfl (any_of HT_.out (by kernel_rfl)) (fun _ _ _ h => h) (Or.inl ⟨by rfl, ?_⟩) ?_ ?_
    rotate_left
    ·
     intro w'
     go_simp
     with_reducible rfl
    rotate_left
    ·
     simp only [Act.put, sA_, sB_, sC_, i64_w, i32_w]
     rfl
    refine pure_ (i := 8) (N := some 45) (v := ?_) (a' := ?_) #[true, true, true, true, true, true, true, true, true, false, false, false, false, false] rfl rfl (any_of HT_.out (by kernel_rfl)) (fun _ _ _ h => h) (Or.inl ⟨by rfl, ?_⟩) ?_ ?_
    rotate_left
    ·
     intro w'
     go_simp
     with_reducible rfl
    rotate_left
    ·
     simp only [Act.put, sA_, sB_, sC_, i64_w, i32_w]
     rfl
    refine pure_ (i := 9) (N := some 46) (v := ?_) (a' := ?_) #[true, true, true, true, true, true, true, true, true, true, false, false, false, false] rfl rfl (any_of HT_.out (by kernel_rfl)) (fun _ _ _ h => h) (Or.inl ⟨by rfl, ?_⟩) ?_ ?_
    rotate_left
    ·
     intro w'
     go_simp
     with_reducible rfl
    rotate_left
    ·
     simp only [Act.put, sA_, sB_, sC_, i64_w, i32_w]
     rfl
    refine pure_ (i := 10) (N := some 47) (v := ?_) (a' := ?_) #[true, true, true, true, true, true, true, true, true, true, true, false, false, false] rfl rfl (any_of HT_.out (by kernel_rfl)) (fun _ _ _ h => h) (Or.inl ⟨by rfl, ?_⟩) ?_ ?_
    rotate_left
    ·
     intro w'
     go_simp
     with_reducible rfl
    rotate_left
    ·
     simp only [Act.put, sA_, sB_, sC_, i64_w, i32_w]
     rfl
    refine pure_ (i := 11) (N := some 8) (v := ?_) (a' := ?_) #[true, true, true, true, true, true, true, true, true, true, true, true, false, false] rfl rfl (any_of HT_.out (by kernel_rfl)) (fun _ _ _ h => h) (Or.inl ⟨by rfl, ?_⟩) ?_ ?_
    rotate_left
    ·
     intro w'
     go_simp
     with_reducible rfl
    rotate_left
    ·
     simp only [Act.put, sA_, sB_, sC_, i64_w, i32_w]
     rfl
    refine pure_ (i := 12) (N := some 9) (v := ?_) (a' := ?_) #[true, true, true, true, true, true, true, true, true, true, true, true, true, false] rfl rfl (any_of HT_.out (by kernel_rfl)) (fun _ _ _ h => h) (Or.inl ⟨by rfl, ?_⟩) ?_ ?_
    rotate_left
    ·
     intro w'
     go_simp
     with_reducible rfl
    rotate_left
    ·
     simp only [Act.put, sA_, sB_, sC_, i64_w, i32_w]
     rfl
    refine pure_ (i := 13) (N := some 10) (v := ?_) (a' := ?_) #[true, true, true, true, true, true, true, true, true, true, true, true, true, true] rfl rfl (any_of HT_.out (by kernel_rfl)) (fun _ _ _ h => h) (Or.inl ⟨by rfl, ?_⟩) ?_ ?_
    rotate_left
    ·
     intro w'
     go_simp
     with_reducible rfl
    rotate_left
    ·
     simp only [Act.put, sA_, sB_, sC_, i64_w, i32_w]
     rfl
    refine done_ (done_of HT_.out (by kernel_rfl)) ?_
    go_upto_region 15 with (first | ((with_reducible refine gate_callee (f := 16) rfl ?_); refine goesL_ (some 49) rfl rfl Try.func16 (by kernel_rfl) rfl #[.slice A0 l0.length c0] rfl z12_3_ ?_; (with_reducible refine (laws_toLineS.calls k _ _ l0 t459 _ ?side1 ?side2 A24.out).mono ?_); (case side1 => have hx_ := (Kd.C_below HR0.out HB.out); exact kc_); (case side2 => exact HC0.out); rintro e w41 ⟨v460, rfl, ho0, hb⟩; refine ⟨_, rfl, ?_⟩; have _ := A_ (Kd.R_elder' z12_8_ (Kd.R_base ho0) hb); have _ := A_ (Kd.R_below z12_10_ hb); have _ := A_ (Kd.R_elder' z12_12_ (Kd.R_base ho0) hb); have _ := A_ (Kd.R_below z12_11_ hb); have _ := A_ (Kd.R_lower (Kd.R_new' (Kd.R_new' ho0 (Kd.R_lt z12_8_)) (Kd.R_lt z12_12_)) (below_size z12_1_)); have _ := A_ (blk_below (g := gb436) (o := .cells #[.string a2_0, .int .i8 a2_1, .string a2_2, .string a2_3, .int .i64 a2_4, .int .i64 a2_5] 42 (0, 0)) z12_2_ hb); have _ := A_ (below_step z12_1_ hb); clear HO442 HO445 HO454 HO457 BK436 HB; rename_i HO442 HO445 HO454 HO457 HO461 BK436 HB; (try clear hb); (try clear ho0)) | ((with_reducible refine gate_callee (f := 57) rfl ?_); refine goesL_ (some 51) rfl rfl Try.func57 (by kernel_rfl) rfl #[.slice A1 l1.length c1] rfl z12_3_ ?_; (with_reducible refine (laws_toKeptS.calls k _ _ l1 t462 _ ?side1 ?side2 A25.out).mono ?_); (case side1 => have hx_ := (Kd.C_below HR1.out HB.out); exact kc_); (case side2 => exact HC1.out); rintro e w42 ⟨v463, rfl, ho0, hb⟩; refine ⟨_, rfl, ?_⟩; have _ := A_ (Kd.R_below z12_8_ hb); have _ := A_ (Kd.R_elder' z12_10_ (Kd.R_base ho0) hb); have _ := A_ (Kd.R_below z12_12_ hb); have _ := A_ (Kd.R_elder' z12_11_ (Kd.R_base ho0) hb); have _ := A_ (Kd.R_below z12_16_ hb); have _ := A_ (Kd.R_lower (Kd.R_new' (Kd.R_new' ho0 (Kd.R_lt z12_10_)) (Kd.R_lt z12_11_)) (below_size z12_1_)); have _ := A_ (blk_below (g := gb436) (o := .cells #[.string a2_0, .int .i8 a2_1, .string a2_2, .string a2_3, .int .i64 a2_4, .int .i64 a2_5] 42 (0, 0)) z12_2_ hb); have _ := A_ (below_step z12_1_ hb); clear HO442 HO445 HO454 HO457 HO461 BK436 HB; rename_i HO442 HO445 HO454 HO457 HO461 HO464 BK436 HB; (try clear hb); (try clear ho0); obtain ⟨hcz43_0, hcz43_1, hcz43_2, hcz43_3, hcz43_4, hcz43_5⟩ := bc6 BK436.out; obtain ⟨hfz43_0, hfz43_1, hfz43_2, hfz43_3, hfz43_4, hfz43_5⟩ := bf6 BK436.out) | ((with_reducible refine gate_callee (f := 31) rfl ?_); refine goesL_ (some 56) rfl rfl Try.func31 (by kernel_rfl) rfl #[.agg #[.string a2_0, .int .i8 a2_1, .string a2_2, .string a2_3, .int .i64 a2_4, .int .i64 a2_5]] rfl z12_3_ ?_; (with_reducible refine (laws_toLine.calls a2_0 a2_1 a2_2 a2_3 a2_4 a2_5 t465 t466 t467 t468 t469 t470 _ A26.out).mono ?_); rintro e w44 ⟨rfl, hb⟩; refine ⟨_, rfl, ?_⟩; have _ := A_ (Kd.R_below z12_8_ hb); have _ := A_ (Kd.R_below z12_10_ hb); have _ := A_ (Kd.R_below z12_12_ hb); have _ := A_ (Kd.R_below z12_11_ hb); have _ := A_ (Kd.R_below z12_16_ hb); have _ := A_ (Kd.R_below z12_19_ hb); have _ := A_ (blk_below (g := gb436) (o := .cells #[.string a2_0, .int .i8 a2_1, .string a2_2, .string a2_3, .int .i64 a2_4, .int .i64 a2_5] 42 (0, 0)) z12_2_ hb); have _ := A_ (below_step z12_1_ hb); clear HO442 HO445 HO454 HO457 HO461 HO464 BK436 HB; rename_i HO442 HO445 HO454 HO457 HO461 HO464 BK436 HB; (try clear hb); obtain ⟨Ao45, co45, eo45⟩ := Kd.R_slice HO461.out; subst eo45; obtain ⟨Ao46, co46, eo46⟩ := Kd.R_slice HO464.out; subst eo46) | ((with_reducible refine gate_callee (f := 58) rfl ?_); refine goesL_ (some 57) rfl rfl Try.func58 (by kernel_rfl) rfl #[.slice Ao45 t459.length co45, .slice Ao46 t462.length co46, .agg #[.string t465, .int .i8 t466, .string t467, .string t468, .int .i64 t469, .int .i64 t470]] rfl z12_3_ ?_; (with_reducible refine (impl_KeptAfter.calls k _ _ t459 _ _ t462 t465 t466 t467 t468 t469 t470 t471 t474 t477 _ ?side1 ?side2 ?side3 ?side4 A27.out).mono ?_); (case side1 => have hx_ := (Kd.R_reads' HO461.out).2.2; exact kc_); (case side2 => exact (Kd.R_reads' HO461.out).2.1); (case side3 => have hx_ := (Kd.R_reads' HO464.out).2.2; exact kc_); (case side4 => exact (Kd.R_reads' HO464.out).2.1); rintro e w47 ⟨v472, v475, rfl, ho0, ho1, hb⟩; refine ⟨_, rfl, ?_⟩; have _ := A_ (Kd.R_elder' z12_8_ (Kd.R_base ho0) hb); have _ := A_ (Kd.R_elder' z12_10_ (Kd.R_base ho1) hb); have _ := A_ (Kd.R_elder' z12_12_ (Kd.R_base ho0) hb); have _ := A_ (Kd.R_elder' z12_11_ (Kd.R_base ho1) hb); have _ := A_ (Kd.R_elder' z12_16_ (Kd.R_base ho0) hb); have _ := A_ (Kd.R_elder' z12_19_ (Kd.R_base ho1) hb); have _ := A_ (Kd.R_lower (Kd.R_new' (Kd.R_new' (Kd.R_new' ho0 (Kd.R_lt z12_8_)) (Kd.R_lt z12_12_)) (Kd.R_lt z12_16_)) (below_size z12_1_)); have _ := A_ (Kd.R_lower (Kd.R_new' (Kd.R_new' (Kd.R_new' ho1 (Kd.R_lt z12_10_)) (Kd.R_lt z12_11_)) (Kd.R_lt z12_19_)) (below_size z12_1_)); have _ := A_ (blk_below (g := gb436) (o := .cells #[.string a2_0, .int .i8 a2_1, .string a2_2, .string a2_3, .int .i64 a2_4, .int .i64 a2_5] 42 (0, 0)) z12_2_ hb); have _ := A_ (below_step z12_1_ hb); clear HO442 HO445 HO454 HO457 HO461 HO464 BK436 HB; rename_i HO442 HO445 HO454 HO457 HO461 HO464 HO473 HO476 BK436 HB; (try clear hb); (try clear ho0); (try clear ho1)))
    (try simp only [Act.put, sA_, sB_, sC_])
    go_cut [75] (fun v75 wc => ∃ (kq : Nat) (x75_27 : Bool), v75 = .bool x75_27 ∧ Aside0 (laws_FnExactKeptAfter.j0 kq l0 l1 t452 t455 t458 t459 t462 t471 t474 t477 x75_27 a2_0 a2_1 a2_2 a2_3 a2_4 a2_5 = some true) ∧ Aside0 (kq ≤ k) ∧ Aside0 (Kd.R k45 45 wc w.heap.size (fun k_ => some k_ ≠ ((.slice Ao45 t459.length co45) : Value).ownBlock ∧ some k_ ≠ (v472 : Value).ownBlock) v453 t452) ∧ Aside0 (Kd.R k124 124 wc w.heap.size (fun k_ => some k_ ≠ ((.slice Ao46 t462.length co46) : Value).ownBlock ∧ some k_ ≠ (v475 : Value).ownBlock) v456 t455) ∧ Aside0 (Kd.R k45 45 wc w.heap.size (fun k_ => some k_ ≠ (v453 : Value).ownBlock ∧ some k_ ≠ (v472 : Value).ownBlock) (.slice Ao45 t459.length co45) t459) ∧ Aside0 (Kd.R k124 124 wc w.heap.size (fun k_ => some k_ ≠ (v456 : Value).ownBlock ∧ some k_ ≠ (v475 : Value).ownBlock) (.slice Ao46 t462.length co46) t462) ∧ Aside0 (Kd.R k45 45 wc w.heap.size (fun k_ => some k_ ≠ (v453 : Value).ownBlock ∧ some k_ ≠ ((.slice Ao45 t459.length co45) : Value).ownBlock) v472 t471) ∧ Aside0 (Kd.R k124 124 wc w.heap.size (fun k_ => some k_ ≠ (v456 : Value).ownBlock ∧ some k_ ≠ ((.slice Ao46 t462.length co46) : Value).ownBlock) v475 t474) ∧ Aside0 (wc.heap[gb436]? = some (.cells #[.string a2_0, .int .i8 a2_1, .string a2_2, .string a2_3, .int .i64 a2_4, .int .i64 a2_5] 42 (0, 0))) ∧ Aside0 (Below w.heap.size w wc))
    case first =>
     have H := HC28.out
     clear HC28
     replace H := Option.bind_eq_some_iff.mp H
     obtain ⟨t478, A480, H⟩ := H
     try dsimp only at H
     have A48 := A_ A480
     clear A480
     by_cases c49 : t478 = true
     ·
      subst c49
      have H1 : ((laws_eqKeptS.f k t474 t455).bind fun t479 => (if t479 = true then (laws_FnExactKeptAfter.j0 k l0 l1 t452 t455 t458 t459 t462 t471 t474 t477 (t477 != t458) a2_0 a2_1 a2_2 a2_3 a2_4 a2_5) else (laws_FnExactKeptAfter.j0 k l0 l1 t452 t455 t458 t459 t462 t471 t474 t477 true a2_0 a2_1 a2_2 a2_3 a2_4 a2_5))) = some true := by first | (rw [if_pos rfl] at H; exact H) | rfl
      clear H
      have H := H1
      clear H1
      replace H := Option.bind_eq_some_iff.mp H
      obtain ⟨t479, A500, H⟩ := H
      try dsimp only at H
      have A50 := A_ A500
      clear A500
      by_cases c51 : t479 = true
      ·
       subst c51
       have H1 : (laws_FnExactKeptAfter.j0 k l0 l1 t452 t455 t458 t459 t462 t471 t474 t477 (t477 != t458) a2_0 a2_1 a2_2 a2_3 a2_4 a2_5) = some true := by first | (rw [if_pos rfl] at H; exact H) | rfl
       clear H
       have H := H1
       clear H1
       have H' := A_ H
       clear H
       obtain ⟨Ao52, co52, eo52⟩ := Kd.R_slice HO473.out
       subst eo52
       obtain ⟨Ao53, co53, eo53⟩ := Kd.R_slice HO454.out
       subst eo53
       go_wp2_with (first | ((with_reducible refine gate_callee (f := 18) rfl ?_); refine goesL_ (some 63) rfl rfl Try.func18 (by kernel_rfl) rfl #[.slice Ao52 t471.length co52, .slice Ao53 t452.length co53] rfl z12_3_ ?_; (with_reducible refine (laws_eqLineS.calls k _ _ t471 _ _ t452 true _ ?side1 ?side2 ?side3 ?side4 A48.out).mono ?_); (case side1 => have hx_ := (Kd.R_reads' HO473.out).2.2; exact kc_); (case side2 => exact (Kd.R_reads' HO473.out).2.1); (case side3 => have hx_ := (Kd.R_reads' HO454.out).2.2; exact kc_); (case side4 => exact (Kd.R_reads' HO454.out).2.1); rintro e w54 ⟨rfl, hb⟩; refine ⟨_, rfl, ?_⟩; have _ := A_ (Kd.R_below z12_8_ hb); have _ := A_ (Kd.R_below z12_10_ hb); have _ := A_ (Kd.R_below z12_12_ hb); have _ := A_ (Kd.R_below z12_11_ hb); have _ := A_ (Kd.R_below z12_16_ hb); have _ := A_ (Kd.R_below z12_19_ hb); have _ := A_ (Kd.R_below z12_25_ hb); have _ := A_ (Kd.R_below z12_24_ hb); have _ := A_ (blk_below (g := gb436) (o := .cells #[.string a2_0, .int .i8 a2_1, .string a2_2, .string a2_3, .int .i64 a2_4, .int .i64 a2_5] 42 (0, 0)) z12_2_ hb); have _ := A_ (below_step z12_1_ hb); clear HO442 HO445 HO454 HO457 HO461 HO464 HO473 HO476 BK436 HB; rename_i HO442 HO445 HO454 HO457 HO461 HO464 HO473 HO476 BK436 HB; (try clear hb); obtain ⟨Ao55, co55, eo55⟩ := Kd.R_slice HO476.out; subst eo55; obtain ⟨Ao56, co56, eo56⟩ := Kd.R_slice HO457.out; subst eo56) | (go_at_call 59; (with_reducible refine (laws_eqKeptS.calls k _ _ t474 _ _ t455 true _ ?side1 ?side2 ?side3 ?side4 A50.out).mono ?_); (case side1 => have hx_ := (Kd.R_reads' HO476.out).2.2; exact kc_); (case side2 => exact (Kd.R_reads' HO476.out).2.1); (case side3 => have hx_ := (Kd.R_reads' HO457.out).2.2; exact kc_); (case side4 => exact (Kd.R_reads' HO457.out).2.1); rintro e w57 ⟨rfl, hb⟩; have _ := A_ (Kd.R_below z12_8_ hb); have _ := A_ (Kd.R_below z12_10_ hb); have _ := A_ (Kd.R_below z12_12_ hb); have _ := A_ (Kd.R_below z12_11_ hb); have _ := A_ (Kd.R_below z12_16_ hb); have _ := A_ (Kd.R_below z12_19_ hb); have _ := A_ (Kd.R_below z12_25_ hb); have _ := A_ (Kd.R_below z12_24_ hb); have _ := A_ (blk_below (g := gb436) (o := .cells #[.string a2_0, .int .i8 a2_1, .string a2_2, .string a2_3, .int .i64 a2_4, .int .i64 a2_5] 42 (0, 0)) z12_2_ hb); have _ := A_ (below_step z12_1_ hb); clear HO442 HO445 HO454 HO457 HO461 HO464 HO473 HO476 BK436 HB; rename_i HO442 HO445 HO454 HO457 HO461 HO464 HO473 HO476 BK436 HB; (try clear hb)))
       go_meet
       case rel => exact ⟨_, ((t477 != t458)), z12_20_, H', ⟨(by first | omega | exact Nat.le_refl _)⟩, ⟨z12_35_⟩, ⟨z12_34_⟩, ⟨z12_33_⟩, ⟨z12_32_⟩, ⟨z12_31_⟩, ⟨z12_30_⟩, ⟨z12_2_⟩, ⟨z12_1_⟩⟩
      ·
       replace c51 := Bool.eq_false_iff.mpr c51
       subst c51
       have H1 : (laws_FnExactKeptAfter.j0 k l0 l1 t452 t455 t458 t459 t462 t471 t474 t477 true a2_0 a2_1 a2_2 a2_3 a2_4 a2_5) = some true := by first | (rw [if_neg (show ¬ (false = true) by decide)] at H; exact H) | rfl
       clear H
       have H := H1
       clear H1
       have H' := A_ H
       clear H
       obtain ⟨Ao58, co58, eo58⟩ := Kd.R_slice HO473.out
       subst eo58
       obtain ⟨Ao59, co59, eo59⟩ := Kd.R_slice HO454.out
       subst eo59
       go_wp2_with (first | ((with_reducible refine gate_callee (f := 18) rfl ?_); refine goesL_ (some 63) rfl rfl Try.func18 (by kernel_rfl) rfl #[.slice Ao58 t471.length co58, .slice Ao59 t452.length co59] rfl z12_3_ ?_; (with_reducible refine (laws_eqLineS.calls k _ _ t471 _ _ t452 true _ ?side1 ?side2 ?side3 ?side4 A48.out).mono ?_); (case side1 => have hx_ := (Kd.R_reads' HO473.out).2.2; exact kc_); (case side2 => exact (Kd.R_reads' HO473.out).2.1); (case side3 => have hx_ := (Kd.R_reads' HO454.out).2.2; exact kc_); (case side4 => exact (Kd.R_reads' HO454.out).2.1); rintro e w60 ⟨rfl, hb⟩; refine ⟨_, rfl, ?_⟩; have _ := A_ (Kd.R_below z12_8_ hb); have _ := A_ (Kd.R_below z12_10_ hb); have _ := A_ (Kd.R_below z12_12_ hb); have _ := A_ (Kd.R_below z12_11_ hb); have _ := A_ (Kd.R_below z12_16_ hb); have _ := A_ (Kd.R_below z12_19_ hb); have _ := A_ (Kd.R_below z12_25_ hb); have _ := A_ (Kd.R_below z12_24_ hb); have _ := A_ (blk_below (g := gb436) (o := .cells #[.string a2_0, .int .i8 a2_1, .string a2_2, .string a2_3, .int .i64 a2_4, .int .i64 a2_5] 42 (0, 0)) z12_2_ hb); have _ := A_ (below_step z12_1_ hb); clear HO442 HO445 HO454 HO457 HO461 HO464 HO473 HO476 BK436 HB; rename_i HO442 HO445 HO454 HO457 HO461 HO464 HO473 HO476 BK436 HB; (try clear hb); obtain ⟨Ao61, co61, eo61⟩ := Kd.R_slice HO476.out; subst eo61; obtain ⟨Ao62, co62, eo62⟩ := Kd.R_slice HO457.out; subst eo62) | (go_at_call 59; (with_reducible refine (laws_eqKeptS.calls k _ _ t474 _ _ t455 false _ ?side1 ?side2 ?side3 ?side4 A50.out).mono ?_); (case side1 => have hx_ := (Kd.R_reads' HO476.out).2.2; exact kc_); (case side2 => exact (Kd.R_reads' HO476.out).2.1); (case side3 => have hx_ := (Kd.R_reads' HO457.out).2.2; exact kc_); (case side4 => exact (Kd.R_reads' HO457.out).2.1); rintro e w63 ⟨rfl, hb⟩; have _ := A_ (Kd.R_below z12_8_ hb); have _ := A_ (Kd.R_below z12_10_ hb); have _ := A_ (Kd.R_below z12_12_ hb); have _ := A_ (Kd.R_below z12_11_ hb); have _ := A_ (Kd.R_below z12_16_ hb); have _ := A_ (Kd.R_below z12_19_ hb); have _ := A_ (Kd.R_below z12_25_ hb); have _ := A_ (Kd.R_below z12_24_ hb); have _ := A_ (blk_below (g := gb436) (o := .cells #[.string a2_0, .int .i8 a2_1, .string a2_2, .string a2_3, .int .i64 a2_4, .int .i64 a2_5] 42 (0, 0)) z12_2_ hb); have _ := A_ (below_step z12_1_ hb); clear HO442 HO445 HO454 HO457 HO461 HO464 HO473 HO476 BK436 HB; rename_i HO442 HO445 HO454 HO457 HO461 HO464 HO473 HO476 BK436 HB; (try clear hb)))
       go_meet
       case rel => exact ⟨_, (true), z12_20_, H', ⟨(by first | omega | exact Nat.le_refl _)⟩, ⟨z12_35_⟩, ⟨z12_34_⟩, ⟨z12_33_⟩, ⟨z12_32_⟩, ⟨z12_31_⟩, ⟨z12_30_⟩, ⟨z12_2_⟩, ⟨z12_1_⟩⟩
     ·
      replace c49 := Bool.eq_false_iff.mpr c49
      subst c49
      have H1 : (laws_FnExactKeptAfter.j0 k l0 l1 t452 t455 t458 t459 t462 t471 t474 t477 true a2_0 a2_1 a2_2 a2_3 a2_4 a2_5) = some true := by first | (rw [if_neg (show ¬ (false = true) by decide)] at H; exact H) | rfl
      clear H
      have H := H1
      clear H1
      have H' := A_ H
      clear H
      obtain ⟨Ao64, co64, eo64⟩ := Kd.R_slice HO473.out
      subst eo64
      obtain ⟨Ao65, co65, eo65⟩ := Kd.R_slice HO454.out
      subst eo65
      go_wp2_with (first | ((with_reducible refine gate_callee (f := 18) rfl ?_); refine goesL_ (some 63) rfl rfl Try.func18 (by kernel_rfl) rfl #[.slice Ao64 t471.length co64, .slice Ao65 t452.length co65] rfl z12_3_ ?_; (with_reducible refine (laws_eqLineS.calls k _ _ t471 _ _ t452 false _ ?side1 ?side2 ?side3 ?side4 A48.out).mono ?_); (case side1 => have hx_ := (Kd.R_reads' HO473.out).2.2; exact kc_); (case side2 => exact (Kd.R_reads' HO473.out).2.1); (case side3 => have hx_ := (Kd.R_reads' HO454.out).2.2; exact kc_); (case side4 => exact (Kd.R_reads' HO454.out).2.1); rintro e w66 ⟨rfl, hb⟩; refine ⟨_, rfl, ?_⟩; have _ := A_ (Kd.R_below z12_8_ hb); have _ := A_ (Kd.R_below z12_10_ hb); have _ := A_ (Kd.R_below z12_12_ hb); have _ := A_ (Kd.R_below z12_11_ hb); have _ := A_ (Kd.R_below z12_16_ hb); have _ := A_ (Kd.R_below z12_19_ hb); have _ := A_ (Kd.R_below z12_25_ hb); have _ := A_ (Kd.R_below z12_24_ hb); have _ := A_ (blk_below (g := gb436) (o := .cells #[.string a2_0, .int .i8 a2_1, .string a2_2, .string a2_3, .int .i64 a2_4, .int .i64 a2_5] 42 (0, 0)) z12_2_ hb); have _ := A_ (below_step z12_1_ hb); clear HO442 HO445 HO454 HO457 HO461 HO464 HO473 HO476 BK436 HB; rename_i HO442 HO445 HO454 HO457 HO461 HO464 HO473 HO476 BK436 HB; (try clear hb)))
      go_meet
      case rel => exact ⟨_, (true), z12_20_, H', ⟨(by first | omega | exact Nat.le_refl _)⟩, ⟨z12_35_⟩, ⟨z12_34_⟩, ⟨z12_33_⟩, ⟨z12_32_⟩, ⟨z12_31_⟩, ⟨z12_30_⟩, ⟨z12_2_⟩, ⟨z12_1_⟩⟩
    case rest =>
     clear HC28
     try clear c1
     try clear c2
     try clear p2
     try clear c3
     try clear c4
     try clear c5
     try clear c5b0
     try clear c9
     try clear c9b0
     try clear c13
     try clear c14
     try clear c14b0
     try clear c16
     try clear c18
     try clear c29
     try clear c31
     try clear c49
     try clear c51
     try clear c55
     try clear c56
     try clear c57
     try clear c58
     try clear hcz18_0
     try clear hcz18_1
     try clear hcz18_2
     try clear hcz18_3
     try clear hcz18_4
     try clear hcz18_5
     try clear hcz32_0
     try clear hcz32_1
     try clear hcz32_2
     try clear hcz32_3
     try clear hcz32_4
     try clear hcz32_5
     try clear hcz43_0
     try clear hcz43_1
     try clear hcz43_2
     try clear hcz43_3
     try clear hcz43_4
     try clear hcz43_5
     try clear hfz18_0
     try clear hfz18_1
     try clear hfz18_2
     try clear hfz18_3
     try clear hfz18_4
     try clear hfz18_5
     try clear hfz32_0
     try clear hfz32_1
     try clear hfz32_2
     try clear hfz32_3
     try clear hfz32_4
     try clear hfz32_5
     try clear hfz43_0
     try clear hfz43_1
     try clear hfz43_2
     try clear hfz43_3
     try clear hfz43_4
     try clear hfz43_5
     obtain ⟨kq, x75_27, rfl, HA, HJ27, HO_8, HO_9, HO_11, HO_12, HO_13, HO_14, BK436, HB⟩ := hcut
     cases kq with
     | zero => exact absurd HA.out (by simp [laws_FnExactKeptAfter.j0])
     | succ kj27 =>
      have H := HA.out
      clear HA
      simp only [laws_FnExactKeptAfter.j0] at H
      by_cases c67 : x75_27 = true
      ·
       subst c67
       have H1 : (some false) = some true := by first | (rw [if_pos rfl] at H; exact H) | rfl
       clear H
       have H := H1
       clear H1
       exact absurd H (by decide)
      ·
       replace c67 := Bool.eq_false_iff.mpr c67
       subst c67
       have H1 : ((laws_toLineS.f kj27 l0).bind fun t480 => ((laws_eqLineS.f kj27 t459 t480).bind fun t483 => (if t483 = true then ((laws_toKeptS.f kj27 l1).bind fun t484 => ((laws_eqKeptS.f kj27 t462 t484).bind fun t487 => (if t487 = true then ((laws_markLineS.f kj27 t459 1).bind fun bt488 => ((laws_markKeptS.f kj27 t462 bt488.1).bind fun bt490 => (if bt490.1 < 0 then (laws_FnExactKeptAfter.j1 kj27 l0 l1 t452 t455 t458 t471 t474 true a2_0 a2_1 a2_2 a2_3 a2_4 a2_5) else ((laws_eqLineS.f kj27 t471 t452).bind fun t492 => (if t492 = true then ((laws_eqKeptS.f kj27 t474 t455).bind fun t493 => (if t493 = true then (laws_FnExactKeptAfter.j1 kj27 l0 l1 t452 t455 t458 t471 t474 (t477 != t458) a2_0 a2_1 a2_2 a2_3 a2_4 a2_5) else (laws_FnExactKeptAfter.j1 kj27 l0 l1 t452 t455 t458 t471 t474 true a2_0 a2_1 a2_2 a2_3 a2_4 a2_5))) else (laws_FnExactKeptAfter.j1 kj27 l0 l1 t452 t455 t458 t471 t474 true a2_0 a2_1 a2_2 a2_3 a2_4 a2_5)))))) else (some false)))) else (some false)))) = some true := by first | (rw [if_neg (show ¬ (false = true) by decide)] at H; exact H) | rfl
       clear H
       have H := H1
       clear H1
       replace H := Option.bind_eq_some_iff.mp H
       obtain ⟨t480, A680, H⟩ := H
       try dsimp only at H
       have A68 := A_ A680
       clear A680
       replace H := Option.bind_eq_some_iff.mp H
       obtain ⟨t483, A690, H⟩ := H
       try dsimp only at H
       have A69 := A_ A690
       clear A690
       by_cases c70 : t483 = true
       ·
        subst c70
        have H1 : ((laws_toKeptS.f kj27 l1).bind fun t484 => ((laws_eqKeptS.f kj27 t462 t484).bind fun t487 => (if t487 = true then ((laws_markLineS.f kj27 t459 1).bind fun bt488 => ((laws_markKeptS.f kj27 t462 bt488.1).bind fun bt490 => (if bt490.1 < 0 then (laws_FnExactKeptAfter.j1 kj27 l0 l1 t452 t455 t458 t471 t474 true a2_0 a2_1 a2_2 a2_3 a2_4 a2_5) else ((laws_eqLineS.f kj27 t471 t452).bind fun t492 => (if t492 = true then ((laws_eqKeptS.f kj27 t474 t455).bind fun t493 => (if t493 = true then (laws_FnExactKeptAfter.j1 kj27 l0 l1 t452 t455 t458 t471 t474 (t477 != t458) a2_0 a2_1 a2_2 a2_3 a2_4 a2_5) else (laws_FnExactKeptAfter.j1 kj27 l0 l1 t452 t455 t458 t471 t474 true a2_0 a2_1 a2_2 a2_3 a2_4 a2_5))) else (laws_FnExactKeptAfter.j1 kj27 l0 l1 t452 t455 t458 t471 t474 true a2_0 a2_1 a2_2 a2_3 a2_4 a2_5)))))) else (some false)))) = some true := by first | (rw [if_pos rfl] at H; exact H) | rfl
        clear H
        have H := H1
        clear H1
        replace H := Option.bind_eq_some_iff.mp H
        obtain ⟨t484, A710, H⟩ := H
        try dsimp only at H
        have A71 := A_ A710
        clear A710
        replace H := Option.bind_eq_some_iff.mp H
        obtain ⟨t487, A720, H⟩ := H
        try dsimp only at H
        have A72 := A_ A720
        clear A720
        by_cases c73 : t487 = true
        ·
         subst c73
         have H1 : ((laws_markLineS.f kj27 t459 1).bind fun bt488 => ((laws_markKeptS.f kj27 t462 bt488.1).bind fun bt490 => (if bt490.1 < 0 then (laws_FnExactKeptAfter.j1 kj27 l0 l1 t452 t455 t458 t471 t474 true a2_0 a2_1 a2_2 a2_3 a2_4 a2_5) else ((laws_eqLineS.f kj27 t471 t452).bind fun t492 => (if t492 = true then ((laws_eqKeptS.f kj27 t474 t455).bind fun t493 => (if t493 = true then (laws_FnExactKeptAfter.j1 kj27 l0 l1 t452 t455 t458 t471 t474 (t477 != t458) a2_0 a2_1 a2_2 a2_3 a2_4 a2_5) else (laws_FnExactKeptAfter.j1 kj27 l0 l1 t452 t455 t458 t471 t474 true a2_0 a2_1 a2_2 a2_3 a2_4 a2_5))) else (laws_FnExactKeptAfter.j1 kj27 l0 l1 t452 t455 t458 t471 t474 true a2_0 a2_1 a2_2 a2_3 a2_4 a2_5)))))) = some true := by first | (rw [if_pos rfl] at H; exact H) | rfl
         clear H
         have H := H1
         clear H1
         replace H := Option.bind_eq_some_iff.mp H
         obtain ⟨⟨t488, t489⟩, A740, H⟩ := H
         try dsimp only at H
         have A74 := A_ A740
         clear A740
         replace H := Option.bind_eq_some_iff.mp H
         obtain ⟨⟨t490, t491⟩, A750, H⟩ := H
         try dsimp only at H
         have A75 := A_ A750
         clear A750
         have HC76 := A_ H
         clear H
         go_upto_region 24 with (first | ((with_reducible refine gate_callee (f := 16) rfl ?_); refine goesL_ (some 78) rfl rfl Try.func16 (by kernel_rfl) rfl #[.slice A0 l0.length c0] rfl z12_3_ ?_; (with_reducible refine (laws_toLineS.calls kj27 _ _ l0 t480 _ ?side1 ?side2 A68.out).mono ?_); (case side1 => have hx_ := (Kd.C_below HR0.out HB.out); exact kc_); (case side2 => exact HC0.out); rintro e w77 ⟨v481, rfl, ho0, hb⟩; refine ⟨_, rfl, ?_⟩; have _ := A_ (Kd.R_elder' z12_7_ (Kd.R_base ho0) hb); have _ := A_ (Kd.R_below z12_6_ hb); have _ := A_ (Kd.R_elder' z12_14_ (Kd.R_base ho0) hb); have _ := A_ (Kd.R_below z12_13_ hb); have _ := A_ (Kd.R_elder' z12_5_ (Kd.R_base ho0) hb); have _ := A_ (Kd.R_below z12_4_ hb); have _ := A_ (Kd.R_lower (Kd.R_new' (Kd.R_new' (Kd.R_new' ho0 (Kd.R_lt z12_7_)) (Kd.R_lt z12_14_)) (Kd.R_lt z12_5_)) (below_size z12_1_)); have _ := A_ (blk_below (g := gb436) (o := .cells #[.string a2_0, .int .i8 a2_1, .string a2_2, .string a2_3, .int .i64 a2_4, .int .i64 a2_5] 42 (0, 0)) z12_2_ hb); have _ := A_ (below_step z12_1_ hb); clear HO_8 HO_9 HO_11 HO_12 HO_13 HO_14 BK436 HB; rename_i HO_8 HO_9 HO_11 HO_12 HO_13 HO_14 HO482 BK436 HB; (try clear hb); (try clear ho0); obtain ⟨Ao78, co78, eo78⟩ := Kd.R_slice HO482.out; subst eo78) | ((with_reducible refine gate_callee (f := 18) rfl ?_); refine goesL_ (some 79) rfl rfl Try.func18 (by kernel_rfl) rfl #[.slice Ao45 t459.length co45, .slice Ao78 t480.length co78] rfl z12_3_ ?_; (with_reducible refine (laws_eqLineS.calls kj27 _ _ t459 _ _ t480 true _ ?side1 ?side2 ?side3 ?side4 A69.out).mono ?_); (case side1 => have hx_ := (Kd.R_reads' HO_11.out).2.2; exact kc_); (case side2 => exact (Kd.R_reads' HO_11.out).2.1); (case side3 => have hx_ := (Kd.R_reads' HO482.out).2.2; exact kc_); (case side4 => exact (Kd.R_reads' HO482.out).2.1); rintro e w79 ⟨rfl, hb⟩; refine ⟨_, rfl, ?_⟩; have _ := A_ (Kd.R_below z12_7_ hb); have _ := A_ (Kd.R_below z12_6_ hb); have _ := A_ (Kd.R_below z12_14_ hb); have _ := A_ (Kd.R_below z12_13_ hb); have _ := A_ (Kd.R_below z12_5_ hb); have _ := A_ (Kd.R_below z12_4_ hb); have _ := A_ (Kd.R_below z12_18_ hb); have _ := A_ (blk_below (g := gb436) (o := .cells #[.string a2_0, .int .i8 a2_1, .string a2_2, .string a2_3, .int .i64 a2_4, .int .i64 a2_5] 42 (0, 0)) z12_2_ hb); have _ := A_ (below_step z12_1_ hb); clear HO_8 HO_9 HO_11 HO_12 HO_13 HO_14 HO482 BK436 HB; rename_i HO_8 HO_9 HO_11 HO_12 HO_13 HO_14 HO482 BK436 HB; (try clear hb)) | ((with_reducible refine gate_callee (f := 57) rfl ?_); refine goesL_ (some 83) rfl rfl Try.func57 (by kernel_rfl) rfl #[.slice A1 l1.length c1] rfl z12_3_ ?_; (with_reducible refine (laws_toKeptS.calls kj27 _ _ l1 t484 _ ?side1 ?side2 A71.out).mono ?_); (case side1 => have hx_ := (Kd.C_below HR1.out HB.out); exact kc_); (case side2 => exact HC1.out); rintro e w80 ⟨v485, rfl, ho0, hb⟩; refine ⟨_, rfl, ?_⟩; have _ := A_ (Kd.R_below z12_7_ hb); have _ := A_ (Kd.R_elder' z12_6_ (Kd.R_base ho0) hb); have _ := A_ (Kd.R_below z12_14_ hb); have _ := A_ (Kd.R_elder' z12_13_ (Kd.R_base ho0) hb); have _ := A_ (Kd.R_below z12_5_ hb); have _ := A_ (Kd.R_elder' z12_4_ (Kd.R_base ho0) hb); have _ := A_ (Kd.R_below z12_18_ hb); have _ := A_ (Kd.R_lower (Kd.R_new' (Kd.R_new' (Kd.R_new' ho0 (Kd.R_lt z12_6_)) (Kd.R_lt z12_13_)) (Kd.R_lt z12_4_)) (below_size z12_1_)); have _ := A_ (blk_below (g := gb436) (o := .cells #[.string a2_0, .int .i8 a2_1, .string a2_2, .string a2_3, .int .i64 a2_4, .int .i64 a2_5] 42 (0, 0)) z12_2_ hb); have _ := A_ (below_step z12_1_ hb); clear HO_8 HO_9 HO_11 HO_12 HO_13 HO_14 HO482 BK436 HB; rename_i HO_8 HO_9 HO_11 HO_12 HO_13 HO_14 HO482 HO486 BK436 HB; (try clear hb); (try clear ho0); obtain ⟨Ao81, co81, eo81⟩ := Kd.R_slice HO486.out; subst eo81) | ((with_reducible refine gate_callee (f := 59) rfl ?_); refine goesL_ (some 84) rfl rfl Try.func59 (by kernel_rfl) rfl #[.slice Ao46 t462.length co46, .slice Ao81 t484.length co81] rfl z12_3_ ?_; (with_reducible refine (laws_eqKeptS.calls kj27 _ _ t462 _ _ t484 true _ ?side1 ?side2 ?side3 ?side4 A72.out).mono ?_); (case side1 => have hx_ := (Kd.R_reads' HO_12.out).2.2; exact kc_); (case side2 => exact (Kd.R_reads' HO_12.out).2.1); (case side3 => have hx_ := (Kd.R_reads' HO486.out).2.2; exact kc_); (case side4 => exact (Kd.R_reads' HO486.out).2.1); rintro e w82 ⟨rfl, hb⟩; refine ⟨_, rfl, ?_⟩; have _ := A_ (Kd.R_below z12_7_ hb); have _ := A_ (Kd.R_below z12_6_ hb); have _ := A_ (Kd.R_below z12_14_ hb); have _ := A_ (Kd.R_below z12_13_ hb); have _ := A_ (Kd.R_below z12_5_ hb); have _ := A_ (Kd.R_below z12_4_ hb); have _ := A_ (Kd.R_below z12_18_ hb); have _ := A_ (Kd.R_below z12_21_ hb); have _ := A_ (blk_below (g := gb436) (o := .cells #[.string a2_0, .int .i8 a2_1, .string a2_2, .string a2_3, .int .i64 a2_4, .int .i64 a2_5] 42 (0, 0)) z12_2_ hb); have _ := A_ (below_step z12_1_ hb); clear HO_8 HO_9 HO_11 HO_12 HO_13 HO_14 HO482 HO486 BK436 HB; rename_i HO_8 HO_9 HO_11 HO_12 HO_13 HO_14 HO482 HO486 BK436 HB; (try clear hb)) | ((with_reducible refine gate_callee (f := 27) rfl ?_); refine goesL_ (some 88) rfl rfl Try.func27 (by kernel_rfl) rfl #[.slice Ao45 t459.length co45, .int .i64 1] rfl z12_3_ ?_; (with_reducible refine (laws_markLineS.calls kj27 (fun k_ => some k_ = (.slice Ao45 t459.length co45 : Value).ownBlock) (.slice Ao45 t459.length co45) t459 1 t488 t489 w _ ?side1 ?side2 A74.out).mono ?_); (case side1 => repeat (first | (with_reducible first | exact HB.out | apply below_alloc | apply pw_below_drewN | apply below_drew1 | refine below_set ?_ GE436.out) | exact HB.out)); (case side2 => exact Kd.R_tight rfl HO_11.out); rintro e w83 ⟨rfl, hy0, hb, hkp⟩; refine ⟨_, rfl, ?_⟩; have _ := A_ (Kd.R_mono (ok' := fun k_ => some k_ ≠ (.slice Ao45 t459.length co45 : Value).ownBlock ∧ some k_ ≠ (v472 : Value).ownBlock ∧ some k_ ≠ (.slice Ao78 t480.length co78 : Value).ownBlock) (Kd.R_keptB (HO_8.out) hkp (fun k_ hk_ hs_ => (hk_.1.1) hs_)) (fun k_ hk_ => ⟨hk_.1.1.1, hk_.1.1.2, hk_.1.2⟩)); have _ := A_ (Kd.R_mono (ok' := fun k_ => some k_ ≠ (.slice Ao46 t462.length co46 : Value).ownBlock ∧ some k_ ≠ (v475 : Value).ownBlock ∧ some k_ ≠ (.slice Ao81 t484.length co81 : Value).ownBlock) (Kd.R_keptB ((Kd.R_apart' HO_9.out (Kd.R_typed HO_11.out) (by decide))) hkp (fun k_ hk_ hs_ => (hk_.2) hs_)) (fun k_ hk_ => ⟨hk_.1.1.1.1, hk_.1.1.1.2, hk_.1.1.2⟩)); have _ := A_ (Kd.R_reok rfl hy0 (fun k_ e_ => HO_11.out.1 k_ e_)); have _ := A_ (Kd.R_mono (ok' := fun k_ => some k_ ≠ (v456 : Value).ownBlock ∧ some k_ ≠ (v475 : Value).ownBlock ∧ some k_ ≠ (.slice Ao81 t484.length co81 : Value).ownBlock) (Kd.R_keptB ((Kd.R_apart' HO_12.out (Kd.R_typed HO_11.out) (by decide))) hkp (fun k_ hk_ hs_ => (hk_.2) hs_)) (fun k_ hk_ => ⟨hk_.1.1.1.1, hk_.1.1.1.2, hk_.1.1.2⟩)); have _ := A_ (Kd.R_mono (ok' := fun k_ => some k_ ≠ (v453 : Value).ownBlock ∧ some k_ ≠ (.slice Ao45 t459.length co45 : Value).ownBlock ∧ some k_ ≠ (.slice Ao78 t480.length co78 : Value).ownBlock) (Kd.R_keptB (HO_13.out) hkp (fun k_ hk_ hs_ => (hk_.1.2) hs_)) (fun k_ hk_ => ⟨hk_.1.1.1, hk_.1.1.2, hk_.1.2⟩)); have _ := A_ (Kd.R_mono (ok' := fun k_ => some k_ ≠ (v456 : Value).ownBlock ∧ some k_ ≠ (.slice Ao46 t462.length co46 : Value).ownBlock ∧ some k_ ≠ (.slice Ao81 t484.length co81 : Value).ownBlock) (Kd.R_keptB ((Kd.R_apart' HO_14.out (Kd.R_typed HO_11.out) (by decide))) hkp (fun k_ hk_ hs_ => (hk_.2) hs_)) (fun k_ hk_ => ⟨hk_.1.1.1.1, hk_.1.1.1.2, hk_.1.1.2⟩)); have _ := A_ (blk_kept z12_2_ hkp (fun hs_ => (fun e_ => (Kd.R_ne HO_11.out BK436.out (by decide)) e_) hs_)); have _ := A_ (Kd.R_mono (ok' := fun k_ => some k_ ≠ (v453 : Value).ownBlock ∧ some k_ ≠ (.slice Ao45 t459.length co45 : Value).ownBlock ∧ some k_ ≠ (v472 : Value).ownBlock) (Kd.R_keptB (HO482.out) hkp (fun k_ hk_ hs_ => (hk_.1.2) hs_)) (fun k_ hk_ => ⟨hk_.1.1.1.2, hk_.1.1.2, hk_.1.2⟩)); have _ := A_ (Kd.R_mono (ok' := fun k_ => some k_ ≠ (v456 : Value).ownBlock ∧ some k_ ≠ (.slice Ao46 t462.length co46 : Value).ownBlock ∧ some k_ ≠ (v475 : Value).ownBlock) (Kd.R_keptB ((Kd.R_apart' HO486.out (Kd.R_typed HO_11.out) (by decide))) hkp (fun k_ hk_ hs_ => (hk_.2) hs_)) (fun k_ hk_ => ⟨hk_.1.1.1.1.2, hk_.1.1.1.2, hk_.1.1.2⟩)); have _ := A_ (hb); clear HO_8 HO_9 HO_11 HO_12 HO_13 HO_14 BK436 HO482 HO486 HB; rename_i HO_8 HO_9 HO_11 HO_12 HO_13 HO_14 BK436 HO482 HO486 HB; (try clear hb); (try clear hkp); (try clear hy0)) | ((with_reducible refine gate_callee (f := 60) rfl ?_); refine goesL_ (some 91) rfl rfl Try.func60 (by kernel_rfl) rfl #[.slice Ao46 t462.length co46, .int .i64 t488] rfl z12_3_ ?_; (with_reducible refine (laws_markKeptS.calls kj27 (fun k_ => some k_ = (.slice Ao46 t462.length co46 : Value).ownBlock) (.slice Ao46 t462.length co46) t462 t488 t490 t491 w _ ?side1 ?side2 A75.out).mono ?_); (case side1 => repeat (first | (with_reducible first | exact HB.out | apply below_alloc | apply pw_below_drewN | apply below_drew1 | refine below_set ?_ GE436.out) | exact HB.out)); (case side2 => exact Kd.R_tight rfl HO_12.out); rintro e w84 ⟨rfl, hy0, hb, hkp⟩; refine ⟨_, rfl, ?_⟩; have _ := A_ (Kd.R_mono (ok' := fun k_ => some k_ ≠ (.slice Ao45 t459.length co45 : Value).ownBlock ∧ some k_ ≠ (v472 : Value).ownBlock ∧ some k_ ≠ (.slice Ao78 t480.length co78 : Value).ownBlock) (Kd.R_keptB ((Kd.R_apart' HO_8.out (Kd.R_typed HO_12.out) (by decide))) hkp (fun k_ hk_ hs_ => (hk_.2) hs_)) (fun k_ hk_ => ⟨hk_.1.1.1, hk_.1.1.2.1, hk_.1.1.2.2⟩)); have _ := A_ (Kd.R_mono (ok' := fun k_ => some k_ ≠ (.slice Ao46 t462.length co46 : Value).ownBlock ∧ some k_ ≠ (v475 : Value).ownBlock ∧ some k_ ≠ (.slice Ao81 t484.length co81 : Value).ownBlock) (Kd.R_keptB (HO_9.out) hkp (fun k_ hk_ hs_ => (hk_.1) hs_)) (fun k_ hk_ => ⟨hk_.1.1, hk_.1.2.1, hk_.1.2.2⟩)); have _ := A_ (Kd.R_mono (ok' := fun k_ => some k_ ≠ (v453 : Value).ownBlock ∧ some k_ ≠ (v472 : Value).ownBlock ∧ some k_ ≠ (.slice Ao78 t480.length co78 : Value).ownBlock) (Kd.R_keptB ((Kd.R_apart' HO_11.out (Kd.R_typed HO_12.out) (by decide))) hkp (fun k_ hk_ hs_ => (hk_.2) hs_)) (fun k_ hk_ => ⟨hk_.1.1.1.1, hk_.1.1.1.2, hk_.1.1.2⟩)); have _ := A_ (Kd.R_reok rfl hy0 (fun k_ e_ => HO_12.out.1 k_ e_)); have _ := A_ (Kd.R_mono (ok' := fun k_ => some k_ ≠ (v453 : Value).ownBlock ∧ some k_ ≠ (.slice Ao45 t459.length co45 : Value).ownBlock ∧ some k_ ≠ (.slice Ao78 t480.length co78 : Value).ownBlock) (Kd.R_keptB ((Kd.R_apart' HO_13.out (Kd.R_typed HO_12.out) (by decide))) hkp (fun k_ hk_ hs_ => (hk_.2) hs_)) (fun k_ hk_ => ⟨hk_.1.1.1, hk_.1.1.2.1, hk_.1.1.2.2⟩)); have _ := A_ (Kd.R_mono (ok' := fun k_ => some k_ ≠ (v456 : Value).ownBlock ∧ some k_ ≠ (.slice Ao46 t462.length co46 : Value).ownBlock ∧ some k_ ≠ (.slice Ao81 t484.length co81 : Value).ownBlock) (Kd.R_keptB (HO_14.out) hkp (fun k_ hk_ hs_ => (hk_.2.1) hs_)) (fun k_ hk_ => ⟨hk_.1.1, hk_.1.2.1, hk_.1.2.2⟩)); have _ := A_ (blk_kept z12_2_ hkp (fun hs_ => (fun e_ => (Kd.R_ne HO_12.out BK436.out (by decide)) e_) hs_)); have _ := A_ (Kd.R_mono (ok' := fun k_ => some k_ ≠ (v453 : Value).ownBlock ∧ some k_ ≠ (.slice Ao45 t459.length co45 : Value).ownBlock ∧ some k_ ≠ (v472 : Value).ownBlock) (Kd.R_keptB ((Kd.R_apart' HO482.out (Kd.R_typed HO_12.out) (by decide))) hkp (fun k_ hk_ hs_ => (hk_.2) hs_)) (fun k_ hk_ => ⟨hk_.1.1.1, hk_.1.1.2.1, hk_.1.1.2.2⟩)); have _ := A_ (Kd.R_mono (ok' := fun k_ => some k_ ≠ (v456 : Value).ownBlock ∧ some k_ ≠ (.slice Ao46 t462.length co46 : Value).ownBlock ∧ some k_ ≠ (v475 : Value).ownBlock) (Kd.R_keptB (HO486.out) hkp (fun k_ hk_ hs_ => (hk_.2.1) hs_)) (fun k_ hk_ => ⟨hk_.1.1, hk_.1.2.1, hk_.1.2.2⟩)); have _ := A_ (hb); clear HO_8 HO_9 HO_11 HO_12 HO_13 HO_14 BK436 HO482 HO486 HB; rename_i HO_8 HO_9 HO_11 HO_12 HO_13 HO_14 BK436 HO482 HO486 HB; (try clear hb); (try clear hkp); (try clear hy0)))
         (try simp only [Act.put, sA_, sB_, sC_])
         go_cut [110] (fun v110 wc => ∃ (kq : Nat) (x110_75 : Bool), v110 = .bool x110_75 ∧ Aside0 (laws_FnExactKeptAfter.j1 kq l0 l1 t452 t455 t458 t471 t474 x110_75 a2_0 a2_1 a2_2 a2_3 a2_4 a2_5 = some true) ∧ Aside0 (kq ≤ kj27) ∧ Aside0 (Kd.R k45 45 wc w.heap.size (fun k_ => some k_ ≠ (v472 : Value).ownBlock) v453 t452) ∧ Aside0 (Kd.R k124 124 wc w.heap.size (fun k_ => some k_ ≠ (v475 : Value).ownBlock) v456 t455) ∧ Aside0 (Kd.R k45 45 wc w.heap.size (fun k_ => some k_ ≠ (v453 : Value).ownBlock) v472 t471) ∧ Aside0 (Kd.R k124 124 wc w.heap.size (fun k_ => some k_ ≠ (v456 : Value).ownBlock) v475 t474) ∧ Aside0 (wc.heap[gb436]? = some (.cells #[.string a2_0, .int .i8 a2_1, .string a2_2, .string a2_3, .int .i64 a2_4, .int .i64 a2_5] 42 (0, 0))) ∧ Aside0 (Below w.heap.size w wc))
         case first =>
          have H := HC76.out
          clear HC76
          by_cases c85 : t490 < 0
          ·
           rw [if_pos c85] at H
           have c85b0 := decide_eq_true c85
           clear c85
           (first | rw [c85b0] | (simp only [i64_w, i32_w]; rw [c85b0]) | skip)
           have H' := A_ H
           clear H
           go_wp2
           go_meet
           case rel => exact ⟨_, (true), z12_20_, H', ⟨z12_39_⟩, ⟨z12_27_⟩, ⟨z12_26_⟩, ⟨z12_29_⟩, ⟨z12_28_⟩, ⟨z12_2_⟩, ⟨z12_1_⟩⟩
          ·
           rw [if_neg c85] at H
           have c85b0 := decide_eq_false c85
           clear c85
           (first | rw [c85b0] | (simp only [i64_w, i32_w]; rw [c85b0]) | skip)
           replace H := Option.bind_eq_some_iff.mp H
           obtain ⟨t492, A860, H⟩ := H
           try dsimp only at H
           have A86 := A_ A860
           clear A860
           by_cases c87 : t492 = true
           ·
            subst c87
            have H1 : ((laws_eqKeptS.f kj27 t474 t455).bind fun t493 => (if t493 = true then (laws_FnExactKeptAfter.j1 kj27 l0 l1 t452 t455 t458 t471 t474 (t477 != t458) a2_0 a2_1 a2_2 a2_3 a2_4 a2_5) else (laws_FnExactKeptAfter.j1 kj27 l0 l1 t452 t455 t458 t471 t474 true a2_0 a2_1 a2_2 a2_3 a2_4 a2_5))) = some true := by first | (rw [if_pos rfl] at H; exact H) | rfl
            clear H
            have H := H1
            clear H1
            replace H := Option.bind_eq_some_iff.mp H
            obtain ⟨t493, A880, H⟩ := H
            try dsimp only at H
            have A88 := A_ A880
            clear A880
            by_cases c89 : t493 = true
            ·
             subst c89
             have H1 : (laws_FnExactKeptAfter.j1 kj27 l0 l1 t452 t455 t458 t471 t474 (t477 != t458) a2_0 a2_1 a2_2 a2_3 a2_4 a2_5) = some true := by first | (rw [if_pos rfl] at H; exact H) | rfl
             clear H
             have H := H1
             clear H1
             have H' := A_ H
             clear H
             obtain ⟨Ao90, co90, eo90⟩ := Kd.R_slice HO_13.out
             subst eo90
             obtain ⟨Ao91, co91, eo91⟩ := Kd.R_slice HO_8.out
             subst eo91
             go_wp2_with (first | (go_at_call 18; (with_reducible refine (laws_eqLineS.calls kj27 _ _ t471 _ _ t452 true _ ?side1 ?side2 ?side3 ?side4 A86.out).mono ?_); (case side1 => have hx_ := (Kd.R_reads' HO_13.out).2.2; exact kc_); (case side2 => exact (Kd.R_reads' HO_13.out).2.1); (case side3 => have hx_ := (Kd.R_reads' HO_8.out).2.2; exact kc_); (case side4 => exact (Kd.R_reads' HO_8.out).2.1); rintro e w92 ⟨rfl, hb⟩; have _ := A_ (Kd.R_below z12_7_ hb); have _ := A_ (Kd.R_below z12_6_ hb); have _ := A_ (Kd.R_below z12_14_ hb); have _ := A_ (Kd.R_below z12_13_ hb); have _ := A_ (Kd.R_below z12_5_ hb); have _ := A_ (Kd.R_below z12_4_ hb); have _ := A_ (Kd.R_below z12_18_ hb); have _ := A_ (Kd.R_below z12_21_ hb); have _ := A_ (blk_below (g := gb436) (o := .cells #[.string a2_0, .int .i8 a2_1, .string a2_2, .string a2_3, .int .i64 a2_4, .int .i64 a2_5] 42 (0, 0)) z12_2_ hb); have _ := A_ (below_step z12_1_ hb); clear HO_8 HO_9 HO_11 HO_12 HO_13 HO_14 HO482 HO486 BK436 HB; rename_i HO_8 HO_9 HO_11 HO_12 HO_13 HO_14 HO482 HO486 BK436 HB; (try clear hb); obtain ⟨Ao93, co93, eo93⟩ := Kd.R_slice HO_14.out; subst eo93; obtain ⟨Ao94, co94, eo94⟩ := Kd.R_slice HO_9.out; subst eo94) | (go_at_call 59; (with_reducible refine (laws_eqKeptS.calls kj27 _ _ t474 _ _ t455 true _ ?side1 ?side2 ?side3 ?side4 A88.out).mono ?_); (case side1 => have hx_ := (Kd.R_reads' HO_14.out).2.2; exact kc_); (case side2 => exact (Kd.R_reads' HO_14.out).2.1); (case side3 => have hx_ := (Kd.R_reads' HO_9.out).2.2; exact kc_); (case side4 => exact (Kd.R_reads' HO_9.out).2.1); rintro e w95 ⟨rfl, hb⟩; have _ := A_ (Kd.R_below z12_7_ hb); have _ := A_ (Kd.R_below z12_6_ hb); have _ := A_ (Kd.R_below z12_14_ hb); have _ := A_ (Kd.R_below z12_13_ hb); have _ := A_ (Kd.R_below z12_5_ hb); have _ := A_ (Kd.R_below z12_4_ hb); have _ := A_ (Kd.R_below z12_18_ hb); have _ := A_ (Kd.R_below z12_21_ hb); have _ := A_ (blk_below (g := gb436) (o := .cells #[.string a2_0, .int .i8 a2_1, .string a2_2, .string a2_3, .int .i64 a2_4, .int .i64 a2_5] 42 (0, 0)) z12_2_ hb); have _ := A_ (below_step z12_1_ hb); clear HO_8 HO_9 HO_11 HO_12 HO_13 HO_14 HO482 HO486 BK436 HB; rename_i HO_8 HO_9 HO_11 HO_12 HO_13 HO_14 HO482 HO486 BK436 HB; (try clear hb)))
             go_meet
             case rel => exact ⟨_, ((t477 != t458)), z12_20_, H', ⟨z12_39_⟩, ⟨z12_27_⟩, ⟨z12_26_⟩, ⟨z12_29_⟩, ⟨z12_28_⟩, ⟨z12_2_⟩, ⟨z12_1_⟩⟩
            ·
             replace c89 := Bool.eq_false_iff.mpr c89
             subst c89
             have H1 : (laws_FnExactKeptAfter.j1 kj27 l0 l1 t452 t455 t458 t471 t474 true a2_0 a2_1 a2_2 a2_3 a2_4 a2_5) = some true := by first | (rw [if_neg (show ¬ (false = true) by decide)] at H; exact H) | rfl
             clear H
             have H := H1
             clear H1
             have H' := A_ H
             clear H
             obtain ⟨Ao96, co96, eo96⟩ := Kd.R_slice HO_13.out
             subst eo96
             obtain ⟨Ao97, co97, eo97⟩ := Kd.R_slice HO_8.out
             subst eo97
             go_wp2_with (first | (go_at_call 18; (with_reducible refine (laws_eqLineS.calls kj27 _ _ t471 _ _ t452 true _ ?side1 ?side2 ?side3 ?side4 A86.out).mono ?_); (case side1 => have hx_ := (Kd.R_reads' HO_13.out).2.2; exact kc_); (case side2 => exact (Kd.R_reads' HO_13.out).2.1); (case side3 => have hx_ := (Kd.R_reads' HO_8.out).2.2; exact kc_); (case side4 => exact (Kd.R_reads' HO_8.out).2.1); rintro e w98 ⟨rfl, hb⟩; have _ := A_ (Kd.R_below z12_7_ hb); have _ := A_ (Kd.R_below z12_6_ hb); have _ := A_ (Kd.R_below z12_14_ hb); have _ := A_ (Kd.R_below z12_13_ hb); have _ := A_ (Kd.R_below z12_5_ hb); have _ := A_ (Kd.R_below z12_4_ hb); have _ := A_ (Kd.R_below z12_18_ hb); have _ := A_ (Kd.R_below z12_21_ hb); have _ := A_ (blk_below (g := gb436) (o := .cells #[.string a2_0, .int .i8 a2_1, .string a2_2, .string a2_3, .int .i64 a2_4, .int .i64 a2_5] 42 (0, 0)) z12_2_ hb); have _ := A_ (below_step z12_1_ hb); clear HO_8 HO_9 HO_11 HO_12 HO_13 HO_14 HO482 HO486 BK436 HB; rename_i HO_8 HO_9 HO_11 HO_12 HO_13 HO_14 HO482 HO486 BK436 HB; (try clear hb); obtain ⟨Ao99, co99, eo99⟩ := Kd.R_slice HO_14.out; subst eo99; obtain ⟨Ao100, co100, eo100⟩ := Kd.R_slice HO_9.out; subst eo100) | (go_at_call 59; (with_reducible refine (laws_eqKeptS.calls kj27 _ _ t474 _ _ t455 false _ ?side1 ?side2 ?side3 ?side4 A88.out).mono ?_); (case side1 => have hx_ := (Kd.R_reads' HO_14.out).2.2; exact kc_); (case side2 => exact (Kd.R_reads' HO_14.out).2.1); (case side3 => have hx_ := (Kd.R_reads' HO_9.out).2.2; exact kc_); (case side4 => exact (Kd.R_reads' HO_9.out).2.1); rintro e w101 ⟨rfl, hb⟩; have _ := A_ (Kd.R_below z12_7_ hb); have _ := A_ (Kd.R_below z12_6_ hb); have _ := A_ (Kd.R_below z12_14_ hb); have _ := A_ (Kd.R_below z12_13_ hb); have _ := A_ (Kd.R_below z12_5_ hb); have _ := A_ (Kd.R_below z12_4_ hb); have _ := A_ (Kd.R_below z12_18_ hb); have _ := A_ (Kd.R_below z12_21_ hb); have _ := A_ (blk_below (g := gb436) (o := .cells #[.string a2_0, .int .i8 a2_1, .string a2_2, .string a2_3, .int .i64 a2_4, .int .i64 a2_5] 42 (0, 0)) z12_2_ hb); have _ := A_ (below_step z12_1_ hb); clear HO_8 HO_9 HO_11 HO_12 HO_13 HO_14 HO482 HO486 BK436 HB; rename_i HO_8 HO_9 HO_11 HO_12 HO_13 HO_14 HO482 HO486 BK436 HB; (try clear hb)))
             go_meet
             case rel => exact ⟨_, (true), z12_20_, H', ⟨z12_39_⟩, ⟨z12_27_⟩, ⟨z12_26_⟩, ⟨z12_29_⟩, ⟨z12_28_⟩, ⟨z12_2_⟩, ⟨z12_1_⟩⟩
           ·
            replace c87 := Bool.eq_false_iff.mpr c87
            subst c87
            have H1 : (laws_FnExactKeptAfter.j1 kj27 l0 l1 t452 t455 t458 t471 t474 true a2_0 a2_1 a2_2 a2_3 a2_4 a2_5) = some true := by first | (rw [if_neg (show ¬ (false = true) by decide)] at H; exact H) | rfl
            clear H
            have H := H1
            clear H1
            have H' := A_ H
            clear H
            obtain ⟨Ao102, co102, eo102⟩ := Kd.R_slice HO_13.out
            subst eo102
            obtain ⟨Ao103, co103, eo103⟩ := Kd.R_slice HO_8.out
            subst eo103
            go_wp2_with (first | (go_at_call 18; (with_reducible refine (laws_eqLineS.calls kj27 _ _ t471 _ _ t452 false _ ?side1 ?side2 ?side3 ?side4 A86.out).mono ?_); (case side1 => have hx_ := (Kd.R_reads' HO_13.out).2.2; exact kc_); (case side2 => exact (Kd.R_reads' HO_13.out).2.1); (case side3 => have hx_ := (Kd.R_reads' HO_8.out).2.2; exact kc_); (case side4 => exact (Kd.R_reads' HO_8.out).2.1); rintro e w104 ⟨rfl, hb⟩; have _ := A_ (Kd.R_below z12_7_ hb); have _ := A_ (Kd.R_below z12_6_ hb); have _ := A_ (Kd.R_below z12_14_ hb); have _ := A_ (Kd.R_below z12_13_ hb); have _ := A_ (Kd.R_below z12_5_ hb); have _ := A_ (Kd.R_below z12_4_ hb); have _ := A_ (Kd.R_below z12_18_ hb); have _ := A_ (Kd.R_below z12_21_ hb); have _ := A_ (blk_below (g := gb436) (o := .cells #[.string a2_0, .int .i8 a2_1, .string a2_2, .string a2_3, .int .i64 a2_4, .int .i64 a2_5] 42 (0, 0)) z12_2_ hb); have _ := A_ (below_step z12_1_ hb); clear HO_8 HO_9 HO_11 HO_12 HO_13 HO_14 HO482 HO486 BK436 HB; rename_i HO_8 HO_9 HO_11 HO_12 HO_13 HO_14 HO482 HO486 BK436 HB; (try clear hb)))
            go_meet
            case rel => exact ⟨_, (true), z12_20_, H', ⟨z12_39_⟩, ⟨z12_27_⟩, ⟨z12_26_⟩, ⟨z12_29_⟩, ⟨z12_28_⟩, ⟨z12_2_⟩, ⟨z12_1_⟩⟩
         case rest =>
          clear HC76
          try clear c1
          try clear c2
          try clear p2
          try clear c3
          try clear c4
          try clear c5
          try clear c5b0
          try clear c6
          try clear c7
          try clear c8
          try clear c9
          try clear c9b0
          try clear c13
          try clear c14
          try clear c14b0
          try clear c16
          try clear c18
          try clear c27
          try clear c29
          try clear c31
          try clear c49
          try clear c51
          try clear c55
          try clear c56
          try clear c57
          try clear c58
          try clear c59
          try clear c60
          try clear c67
          try clear c70
          try clear c73
          try clear c85
          try clear c85b0
          try clear c87
          try clear c89
          try clear hcz18_0
          try clear hcz18_1
          try clear hcz18_2
          try clear hcz18_3
          try clear hcz18_4
          try clear hcz18_5
          try clear hcz32_0
          try clear hcz32_1
          try clear hcz32_2
          try clear hcz32_3
          try clear hcz32_4
          try clear hcz32_5
          try clear hcz43_0
          try clear hcz43_1
          try clear hcz43_2
          try clear hcz43_3
          try clear hcz43_4
          try clear hcz43_5
          try clear hfz18_0
          try clear hfz18_1
          try clear hfz18_2
          try clear hfz18_3
          try clear hfz18_4
          try clear hfz18_5
          try clear hfz32_0
          try clear hfz32_1
          try clear hfz32_2
          try clear hfz32_3
          try clear hfz32_4
          try clear hfz32_5
          try clear hfz43_0
          try clear hfz43_1
          try clear hfz43_2
          try clear hfz43_3
          try clear hfz43_4
          try clear hfz43_5
          try clear p2
          obtain ⟨kq, x110_75, rfl, HA, HJ75, HO_8, HO_9, HO_13, HO_14, BK436, HB⟩ := hcut
          cases kq with
          | zero => exact absurd HA.out (by simp [laws_FnExactKeptAfter.j1])
          | succ kj75 =>
           have H := HA.out
           clear HA
           simp only [laws_FnExactKeptAfter.j1] at H
           by_cases c105 : x110_75 = true
           ·
            subst c105
            have H1 : (some false) = some true := by first | (rw [if_pos rfl] at H; exact H) | rfl
            clear H
            have H := H1
            clear H1
            exact absurd H (by decide)
           ·
            replace c105 := Bool.eq_false_iff.mpr c105
            subst c105
            have H1 : ((laws_markLineS.f kj75 t471 1).bind fun bt494 => ((laws_markKeptS.f kj75 t474 bt494.1).bind fun bt496 => ((laws_heldLineS.f kj75 bt494.2 1).bind fun t498 => (if t498 < 0 then (some false) else ((laws_heldKeptS.f kj75 bt496.2 t498).bind fun t499 => (if t499 < 0 then (some false) else (if t499 = bt496.1 then ((laws_toLineS.f kj75 l0).bind fun t500 => ((laws_toKeptS.f kj75 l1).bind fun t503 => ((laws_toLine.f a2_0 a2_1 a2_2 a2_3 a2_4 a2_5).bind fun bt506 => ((impl_KeptAfter.f kj75 t500 t503 bt506.1 bt506.2.1 bt506.2.2.1 bt506.2.2.2.1 bt506.2.2.2.2.1 bt506.2.2.2.2.2).bind fun bt512 => ((laws_eqLineS.f kj75 bt512.1 t452).bind fun t519 => (if t519 = true then ((laws_eqKeptS.f kj75 bt512.2.1 t455).bind fun t520 => (if t520 = true then (laws_FnExactKeptAfter.j2 kj75 bt494.2 bt496.2 bt496.1 (bt512.2.2 != t458)) else (laws_FnExactKeptAfter.j2 kj75 bt494.2 bt496.2 bt496.1 true))) else (laws_FnExactKeptAfter.j2 kj75 bt494.2 bt496.2 bt496.1 true))))))) else (some false)))))))) = some true := by first | (rw [if_neg (show ¬ (false = true) by decide)] at H; exact H) | rfl
            clear H
            have H := H1
            clear H1
            replace H := Option.bind_eq_some_iff.mp H
            obtain ⟨⟨t494, t495⟩, A1060, H⟩ := H
            try dsimp only at H
            have A106 := A_ A1060
            clear A1060
            replace H := Option.bind_eq_some_iff.mp H
            obtain ⟨⟨t496, t497⟩, A1070, H⟩ := H
            try dsimp only at H
            have A107 := A_ A1070
            clear A1070
            replace H := Option.bind_eq_some_iff.mp H
            obtain ⟨t498, A1080, H⟩ := H
            try dsimp only at H
            have A108 := A_ A1080
            clear A1080
            by_cases c109 : t498 < 0
            ·
             rw [if_pos c109] at H
             have c109b0 := decide_eq_true c109
             clear c109
             exact absurd H (by decide)
            ·
             rw [if_neg c109] at H
             have c109b0 := decide_eq_false c109
             clear c109
             replace H := Option.bind_eq_some_iff.mp H
             obtain ⟨t499, A1100, H⟩ := H
             try dsimp only at H
             have A110 := A_ A1100
             clear A1100
             by_cases c111 : t499 < 0
             ·
              rw [if_pos c111] at H
              have c111b0 := decide_eq_true c111
              clear c111
              exact absurd H (by decide)
             ·
              rw [if_neg c111] at H
              have c111b0 := decide_eq_false c111
              clear c111
              by_cases c112 : t499 = t496
              ·
               rw [if_pos c112] at H
               have c112b0 := beq_iff_eq.mpr c112
               have c112b1 := bne_eq_false_iff_eq.mpr c112
               clear c112
               replace H := Option.bind_eq_some_iff.mp H
               obtain ⟨t500, A1130, H⟩ := H
               try dsimp only at H
               have A113 := A_ A1130
               clear A1130
               replace H := Option.bind_eq_some_iff.mp H
               obtain ⟨t503, A1140, H⟩ := H
               try dsimp only at H
               have A114 := A_ A1140
               clear A1140
               replace H := Option.bind_eq_some_iff.mp H
               obtain ⟨⟨t506, t507, t508, t509, t510, t511⟩, A1150, H⟩ := H
               try dsimp only at H
               have A115 := A_ A1150
               clear A1150
               replace H := Option.bind_eq_some_iff.mp H
               obtain ⟨⟨t512, t515, t518⟩, A1160, H⟩ := H
               try dsimp only at H
               have A116 := A_ A1160
               clear A1160
               have HC117 := A_ H
               clear H
               obtain ⟨Ao118, co118, eo118⟩ := Kd.R_slice HO_13.out
               subst eo118
               try go_wp2_with (first | ((with_reducible refine gate_callee (f := 27) rfl ?_); refine goesL_ (some 113) rfl rfl Try.func27 (by kernel_rfl) rfl #[.slice Ao118 t471.length co118, .int .i64 1] rfl z12_3_ ?_; (with_reducible refine (laws_markLineS.calls kj75 (fun k_ => some k_ = (.slice Ao118 t471.length co118 : Value).ownBlock) (.slice Ao118 t471.length co118) t471 1 t494 t495 w _ ?side1 ?side2 A106.out).mono ?_); (case side1 => repeat (first | (with_reducible first | exact HB.out | apply below_alloc | apply pw_below_drewN | apply below_drew1 | refine below_set ?_ GE436.out) | exact HB.out)); (case side2 => exact Kd.R_tight rfl HO_13.out); rintro e w119 ⟨rfl, hy0, hb, hkp⟩; refine ⟨_, rfl, ?_⟩; have _ := A_ (Kd.R_mono (ok' := fun k_ => some k_ ≠ (.slice Ao118 t471.length co118 : Value).ownBlock) (Kd.R_keptB (HO_8.out) hkp (fun k_ hk_ hs_ => (hk_) hs_)) (fun k_ hk_ => hk_.1)); have _ := A_ (Kd.R_mono (ok' := fun k_ => some k_ ≠ (v475 : Value).ownBlock) (Kd.R_keptB ((Kd.R_apart' HO_9.out (Kd.R_typed HO_13.out) (by decide))) hkp (fun k_ hk_ hs_ => (hk_.2) hs_)) (fun k_ hk_ => hk_.1.1)); have _ := A_ (Kd.R_reok rfl hy0 (fun k_ e_ => HO_13.out.1 k_ e_)); have _ := A_ (Kd.R_mono (ok' := fun k_ => some k_ ≠ (v456 : Value).ownBlock) (Kd.R_keptB ((Kd.R_apart' HO_14.out (Kd.R_typed HO_13.out) (by decide))) hkp (fun k_ hk_ hs_ => (hk_.2) hs_)) (fun k_ hk_ => hk_.1.1)); have _ := A_ (blk_kept z12_2_ hkp (fun hs_ => (fun e_ => (Kd.R_ne HO_13.out BK436.out (by decide)) e_) hs_)); have _ := A_ (hb); clear HO_8 HO_9 HO_13 HO_14 BK436 HB; rename_i HO_8 HO_9 HO_13 HO_14 BK436 HB; (try clear hb); (try clear hkp); (try clear hy0); obtain ⟨Ao120, co120, eo120⟩ := Kd.R_slice HO_14.out; subst eo120) | ((with_reducible refine gate_callee (f := 60) rfl ?_); refine goesL_ (some 116) rfl rfl Try.func60 (by kernel_rfl) rfl #[.slice Ao120 t474.length co120, .int .i64 t494] rfl z12_3_ ?_; (with_reducible refine (laws_markKeptS.calls kj75 (fun k_ => some k_ = (.slice Ao120 t474.length co120 : Value).ownBlock) (.slice Ao120 t474.length co120) t474 t494 t496 t497 w _ ?side1 ?side2 A107.out).mono ?_); (case side1 => repeat (first | (with_reducible first | exact HB.out | apply below_alloc | apply pw_below_drewN | apply below_drew1 | refine below_set ?_ GE436.out) | exact HB.out)); (case side2 => exact Kd.R_tight rfl HO_14.out); rintro e w121 ⟨rfl, hy0, hb, hkp⟩; refine ⟨_, rfl, ?_⟩; have _ := A_ (Kd.R_mono (ok' := fun k_ => some k_ ≠ (.slice Ao118 t471.length co118 : Value).ownBlock) (Kd.R_keptB ((Kd.R_apart' HO_8.out (Kd.R_typed HO_14.out) (by decide))) hkp (fun k_ hk_ hs_ => (hk_.2) hs_)) (fun k_ hk_ => hk_.1.1)); have _ := A_ (Kd.R_mono (ok' := fun k_ => some k_ ≠ (.slice Ao120 t474.length co120 : Value).ownBlock) (Kd.R_keptB (HO_9.out) hkp (fun k_ hk_ hs_ => (hk_) hs_)) (fun k_ hk_ => hk_.1)); have _ := A_ (Kd.R_mono (ok' := fun k_ => some k_ ≠ (v453 : Value).ownBlock) (Kd.R_keptB ((Kd.R_apart' HO_13.out (Kd.R_typed HO_14.out) (by decide))) hkp (fun k_ hk_ hs_ => (hk_.2) hs_)) (fun k_ hk_ => hk_.1.1)); have _ := A_ (Kd.R_reok rfl hy0 (fun k_ e_ => HO_14.out.1 k_ e_)); have _ := A_ (blk_kept z12_2_ hkp (fun hs_ => (fun e_ => (Kd.R_ne HO_14.out BK436.out (by decide)) e_) hs_)); have _ := A_ (hb); clear HO_8 HO_9 HO_13 HO_14 BK436 HB; rename_i HO_8 HO_9 HO_13 HO_14 BK436 HB; (try clear hb); (try clear hkp); (try clear hy0)) | ((with_reducible refine gate_callee (f := 28) rfl ?_); refine goesL_ (some 119) rfl rfl Try.func28 (by kernel_rfl) rfl #[.slice Ao118 t495.length co118, .int .i64 1] rfl (by (try simp only [List.map_toArray, List.map_cons, List.map_nil]); first | done | (rw [show t495.length = t471.length from (Kd.R_reads' HO_13.out).1.symm] <;> rfl) | rfl | (simp only [List.length_drop, List.length_take]; rfl)) ?_; (with_reducible refine (laws_heldLineS.calls kj75 _ _ t495 1 t498 _ ?side1 ?side2 A108.out).mono ?_); (case side1 => have hx_ := (Kd.R_reads' HO_13.out).2.2; exact kc_); (case side2 => rw [show t495.length = t471.length from (Kd.R_reads' HO_13.out).1.symm]; exact (Kd.R_reads' HO_13.out).2.1); rintro e w122 ⟨rfl, hb⟩; refine ⟨_, rfl, ?_⟩; have _ := A_ (Kd.R_below z12_7_ hb); have _ := A_ (Kd.R_below z12_6_ hb); have _ := A_ (Kd.R_below z12_5_ hb); have _ := A_ (Kd.R_below z12_4_ hb); have _ := A_ (blk_below (g := gb436) (o := .cells #[.string a2_0, .int .i8 a2_1, .string a2_2, .string a2_3, .int .i64 a2_4, .int .i64 a2_5] 42 (0, 0)) z12_2_ hb); have _ := A_ (below_step z12_1_ hb); clear HO_8 HO_9 HO_13 HO_14 BK436 HB; rename_i HO_8 HO_9 HO_13 HO_14 BK436 HB; (try clear hb)) | ((with_reducible refine gate_callee (f := 61) rfl ?_); refine goesL_ (some 124) rfl rfl Try.func61 (by kernel_rfl) rfl #[.slice Ao120 t497.length co120, .int .i64 t498] rfl (by (try simp only [List.map_toArray, List.map_cons, List.map_nil]); first | done | (rw [show t497.length = t474.length from (Kd.R_reads' HO_14.out).1.symm] <;> rfl) | rfl | (simp only [List.length_drop, List.length_take]; rfl)) ?_; (with_reducible refine (laws_heldKeptS.calls kj75 _ _ t497 t498 t499 _ ?side1 ?side2 A110.out).mono ?_); (case side1 => have hx_ := (Kd.R_reads' HO_14.out).2.2; exact kc_); (case side2 => rw [show t497.length = t474.length from (Kd.R_reads' HO_14.out).1.symm]; exact (Kd.R_reads' HO_14.out).2.1); rintro e w123 ⟨rfl, hb⟩; refine ⟨_, rfl, ?_⟩; have _ := A_ (Kd.R_below z12_7_ hb); have _ := A_ (Kd.R_below z12_6_ hb); have _ := A_ (Kd.R_below z12_5_ hb); have _ := A_ (Kd.R_below z12_4_ hb); have _ := A_ (blk_below (g := gb436) (o := .cells #[.string a2_0, .int .i8 a2_1, .string a2_2, .string a2_3, .int .i64 a2_4, .int .i64 a2_5] 42 (0, 0)) z12_2_ hb); have _ := A_ (below_step z12_1_ hb); clear HO_8 HO_9 HO_13 HO_14 BK436 HB; rename_i HO_8 HO_9 HO_13 HO_14 BK436 HB; (try clear hb)))
               have _ := A_ (Kd.R_drew HO_8.out)
               have _ := A_ (Kd.R_drew HO_9.out)
               have _ := A_ (Kd.R_drew HO_13.out)
               have _ := A_ (Kd.R_drew HO_14.out)
               have _ := A_ (blk_drew BK436.out)
               have _ := A_ (below_drew1 HB.out)
               clear HO_8 HO_9 HO_13 HO_14 BK436 HB
               rename_i HO_8 HO_9 HO_13 HO_14 BK436 HB
               refine start_ (n := 14) (S := fun w' => w'.cell? ⟨gb436, 0, none⟩ = some (.string a2_0) ∧ w'.cell? ⟨gb436, 1, none⟩ = some (.int .i8 a2_1) ∧ w'.cell? ⟨gb436, 2, none⟩ = some (.string a2_2) ∧ w'.cell? ⟨gb436, 3, none⟩ = some (.string a2_3) ∧ w'.cell? ⟨gb436, 4, none⟩ = some (.int .i64 a2_4) ∧ w'.cell? ⟨gb436, 5, none⟩ = some (.int .i64 a2_5)) (ds := []) #[false, false, false, false, false, false, false, false, false, false, false, false, false, false] (by kernel_rfl) rfl rfl ⟨(blk_cell BK436.out 0).trans rfl, (blk_cell BK436.out 1).trans rfl, (blk_cell BK436.out 2).trans rfl, (blk_cell BK436.out 3).trans rfl, (blk_cell BK436.out 4).trans rfl, (blk_cell BK436.out 5).trans rfl⟩ (fun hHeld => ?_); refine with_tabW laws_FnExactKeptAfter.tab38 laws_FnExactKeptAfter.bits38 (fun HT_ HW_ => ?_)
               generalize w123.drew = w124 at HO_8 HO_9 HO_13 HO_14 BK436 HB hHeld ⊢
               refine pure_ (i := 0) (N := some 131) (v := ?_) (a' := ?_) #[true, false, false, false, false, false, false, false, false, false, false, false, false, false] rfl rfl (any_of HT_.out (by kernel_rfl)) (fun _ _ _ h => h) (Or.inl ⟨by rfl, ?_⟩) ?_ ?_
               rotate_left
               ·
                intro w'
                go_simp
                with_reducible rfl
               rotate_left
               ·
                simp only [Act.put, sA_, sB_, sC_, i64_w, i32_w]
                rfl
               refine pure_ (i := 2) (N := some 133) (v := ?_) (a' := ?_) #[true, false, true, false, false, false, false, false, false, false, false, false, false, false] rfl rfl (any_of HT_.out (by kernel_rfl)) (fun _ _ _ h => h) (Or.inl ⟨by rfl, ?_⟩) ?_ ?_
               rotate_left
               ·
                intro w'
                go_simp
                with_reducible rfl
               rotate_left
               ·
                simp only [Act.put, sA_, sB_, sC_, i64_w, i32_w]
                rfl
               refine take_ (i := 4) (N := some 135) (v := ?_) (a' := ?_) #[true, false, true, false, true, false, false, false, false, false, false, false, false, false] rfl rfl (take_ofW HT_.out HW_.out (by kernel_rfl)) (fun _ _ _ h => h) (Or.inl ⟨by rfl, ?_⟩) hHeld ?_ ?_
               rotate_left
               ·
                rintro w' ⟨s0, s1, s2, s3, s4, s5⟩
                go_simp
                with_reducible rfl
               rotate_left
               ·
                simp only [Act.put, sA_, sB_, sC_, i64_w, i32_w]
                rfl
               refine one_ (i := 1) (N := some 132) #[true, true, true, false, true, false, false, false, false, false, false, false, false, false] rfl rfl (one_of HT_.out (by kernel_rfl)) (by decide) (fun K hK => ?_)
               refine goes_ Try.func16 (by kernel_rfl) rfl #[.slice A0 l0.length c0] (by rfl) rfl rfl z12_3_ ?_
               with_reducible refine (laws_toLineS.calls kj75 _ _ l0 t500 _ ?side1 ?side2 A113.out).mono ?_
               (case side1 => have hx_ := (Kd.C_below HR0.out HB.out); exact kc_)
               (case side2 => exact HC0.out)
               rintro e w125 ⟨v501, rfl, ho0, hb⟩
               refine ⟨_, rfl, ?_⟩
               have _ := A_ (Kd.R_elder' z12_7_ (Kd.R_base ho0) hb)
               have _ := A_ (Kd.R_below z12_6_ hb)
               have _ := A_ (Kd.R_elder' z12_5_ (Kd.R_base ho0) hb)
               have _ := A_ (Kd.R_below z12_4_ hb)
               have _ := A_ (Kd.R_lower (Kd.R_new' (Kd.R_new' ho0 (Kd.R_lt z12_7_)) (Kd.R_lt z12_5_)) (below_size z12_1_))
               have _ := A_ (blk_below (g := gb436) (o := .cells #[.string a2_0, .int .i8 a2_1, .string a2_2, .string a2_3, .int .i64 a2_4, .int .i64 a2_5] 42 (0, 0)) z12_2_ hb)
               have _ := A_ (below_step z12_1_ hb)
               clear HO_8 HO_9 HO_13 HO_14 BK436 HB
               rename_i HO_8 HO_9 HO_13 HO_14 HO502 BK436 HB
               (try clear hb)
               (try clear hb2)
               (try clear hk)
               (try clear hi)
               (try clear ho0)
               refine hK.out _ _ ⟨(blk_cell BK436.out 0).trans rfl, (blk_cell BK436.out 1).trans rfl, (blk_cell BK436.out 2).trans rfl, (blk_cell BK436.out 3).trans rfl, (blk_cell BK436.out 4).trans rfl, (blk_cell BK436.out 5).trans rfl⟩ (fun hHeld => ?_)
               clear hK K
               refine norm_ (a' := ?_) ?_ ?_
               rotate_left
               ·
                show Act.put _ (some 132) _ = _
                simp only [Act.put, sA_, sB_, sC_, i64_w, i32_w]
                rfl
               refine one_ (i := 3) (N := some 134) #[true, true, true, true, true, false, false, false, false, false, false, false, false, false] rfl rfl (one_of HT_.out (by kernel_rfl)) (by decide) (fun K hK => ?_)
               refine goes_ Try.func57 (by kernel_rfl) rfl #[.slice A1 l1.length c1] (by rfl) rfl rfl z12_3_ ?_
               with_reducible refine (laws_toKeptS.calls kj75 _ _ l1 t503 _ ?side1 ?side2 A114.out).mono ?_
               (case side1 => have hx_ := (Kd.C_below HR1.out HB.out); exact kc_)
               (case side2 => exact HC1.out)
               rintro e w126 ⟨v504, rfl, ho0, hb⟩
               refine ⟨_, rfl, ?_⟩
               have _ := A_ (Kd.R_below z12_7_ hb)
               have _ := A_ (Kd.R_elder' z12_6_ (Kd.R_base ho0) hb)
               have _ := A_ (Kd.R_below z12_5_ hb)
               have _ := A_ (Kd.R_elder' z12_4_ (Kd.R_base ho0) hb)
               have _ := A_ (Kd.R_below z12_15_ hb)
               have _ := A_ (Kd.R_lower (Kd.R_new' (Kd.R_new' ho0 (Kd.R_lt z12_6_)) (Kd.R_lt z12_4_)) (below_size z12_1_))
               have _ := A_ (blk_below (g := gb436) (o := .cells #[.string a2_0, .int .i8 a2_1, .string a2_2, .string a2_3, .int .i64 a2_4, .int .i64 a2_5] 42 (0, 0)) z12_2_ hb)
               have _ := A_ (below_step z12_1_ hb)
               clear HO_8 HO_9 HO_13 HO_14 HO502 BK436 HB
               rename_i HO_8 HO_9 HO_13 HO_14 HO502 HO505 BK436 HB
               (try clear hb)
               (try clear hb2)
               (try clear hk)
               (try clear hi)
               (try clear ho0)
               refine hK.out _ _ ⟨(blk_cell BK436.out 0).trans rfl, (blk_cell BK436.out 1).trans rfl, (blk_cell BK436.out 2).trans rfl, (blk_cell BK436.out 3).trans rfl, (blk_cell BK436.out 4).trans rfl, (blk_cell BK436.out 5).trans rfl⟩ (fun hHeld => ?_)
               clear hK K
               refine norm_ (a' := ?_) ?_ ?_
               rotate_left
               ·
                show Act.put _ (some 134) _ = _
                simp only [Act.put, sA_, sB_, sC_, i64_w, i32_w]
                rfl
               refine one_ (i := 5) (N := some 136) #[true, true, true, true, true, true, false, false, false, false, false, false, false, false] rfl rfl (one_of HT_.out (by kernel_rfl)) (by decide) (fun K hK => ?_)
               refine goes_ Try.func31 (by kernel_rfl) rfl #[.agg #[.string a2_0, .int .i8 a2_1, .string a2_2, .string a2_3, .int .i64 a2_4, .int .i64 a2_5]] (by rfl) rfl rfl z12_3_ ?_
               with_reducible refine (laws_toLine.calls a2_0 a2_1 a2_2 a2_3 a2_4 a2_5 t506 t507 t508 t509 t510 t511 _ A115.out).mono ?_
               rintro e w127 ⟨rfl, hb⟩
               refine ⟨_, rfl, ?_⟩
               have _ := A_ (Kd.R_below z12_7_ hb)
               have _ := A_ (Kd.R_below z12_6_ hb)
               have _ := A_ (Kd.R_below z12_5_ hb)
               have _ := A_ (Kd.R_below z12_4_ hb)
               have _ := A_ (Kd.R_below z12_15_ hb)
               have _ := A_ (Kd.R_below z12_17_ hb)
               have _ := A_ (blk_below (g := gb436) (o := .cells #[.string a2_0, .int .i8 a2_1, .string a2_2, .string a2_3, .int .i64 a2_4, .int .i64 a2_5] 42 (0, 0)) z12_2_ hb)
               have _ := A_ (below_step z12_1_ hb)
               clear HO_8 HO_9 HO_13 HO_14 HO502 HO505 BK436 HB
               rename_i HO_8 HO_9 HO_13 HO_14 HO502 HO505 BK436 HB
               (try clear hb)
               (try clear hb2)
               (try clear hk)
               (try clear hi)
               obtain ⟨Ao128, co128, eo128⟩ := Kd.R_slice HO502.out
               (first | subst eo128 | (injection eo128 with f1_ f2_ f3_; have f4_ := f1_.symm; have f5_ := f3_.symm; clear f1_ f2_ f3_; subst f4_; subst f5_))
               obtain ⟨Ao129, co129, eo129⟩ := Kd.R_slice HO505.out
               (first | subst eo129 | (injection eo129 with f1_ f2_ f3_; have f4_ := f1_.symm; have f5_ := f3_.symm; clear f1_ f2_ f3_; subst f4_; subst f5_))
               refine hK.out _ _ ⟨(blk_cell BK436.out 0).trans rfl, (blk_cell BK436.out 1).trans rfl, (blk_cell BK436.out 2).trans rfl, (blk_cell BK436.out 3).trans rfl, (blk_cell BK436.out 4).trans rfl, (blk_cell BK436.out 5).trans rfl⟩ (fun hHeld => ?_)
               clear hK K
               refine norm_ (a' := ?_) ?_ ?_
               rotate_left
               ·
                show Act.put _ (some 136) _ = _
                simp only [Act.put, sA_, sB_, sC_, i64_w, i32_w]
                rfl
               refine one_ (i := 6) (N := some 137) #[true, true, true, true, true, true, true, false, false, false, false, false, false, false] rfl rfl (one_of HT_.out (by kernel_rfl)) (by decide) (fun K hK => ?_)
               refine goes_ Try.func58 (by kernel_rfl) rfl #[.slice Ao128 t500.length co128, .slice Ao129 t503.length co129, .agg #[.string t506, .int .i8 t507, .string t508, .string t509, .int .i64 t510, .int .i64 t511]] (by rfl) rfl rfl z12_3_ ?_
               with_reducible refine (impl_KeptAfter.calls kj75 _ _ t500 _ _ t503 t506 t507 t508 t509 t510 t511 t512 t515 t518 _ ?side1 ?side2 ?side3 ?side4 A116.out).mono ?_
               (case side1 => have hx_ := (Kd.R_reads' HO502.out).2.2; exact kc_)
               (case side2 => exact (Kd.R_reads' HO502.out).2.1)
               (case side3 => have hx_ := (Kd.R_reads' HO505.out).2.2; exact kc_)
               (case side4 => exact (Kd.R_reads' HO505.out).2.1)
               rintro e w130 ⟨v513, v516, rfl, ho0, ho1, hb⟩
               refine ⟨_, rfl, ?_⟩
               have _ := A_ (Kd.R_elder' z12_7_ (Kd.R_base ho0) hb)
               have _ := A_ (Kd.R_elder' z12_6_ (Kd.R_base ho1) hb)
               have _ := A_ (Kd.R_elder' z12_5_ (Kd.R_base ho0) hb)
               have _ := A_ (Kd.R_elder' z12_4_ (Kd.R_base ho1) hb)
               have _ := A_ (Kd.R_elder' z12_15_ (Kd.R_base ho0) hb)
               have _ := A_ (Kd.R_elder' z12_17_ (Kd.R_base ho1) hb)
               have _ := A_ (Kd.R_lower (Kd.R_new' (Kd.R_new' (Kd.R_new' ho0 (Kd.R_lt z12_7_)) (Kd.R_lt z12_5_)) (Kd.R_lt z12_15_)) (below_size z12_1_))
               have _ := A_ (Kd.R_lower (Kd.R_new' (Kd.R_new' (Kd.R_new' ho1 (Kd.R_lt z12_6_)) (Kd.R_lt z12_4_)) (Kd.R_lt z12_17_)) (below_size z12_1_))
               have _ := A_ (blk_below (g := gb436) (o := .cells #[.string a2_0, .int .i8 a2_1, .string a2_2, .string a2_3, .int .i64 a2_4, .int .i64 a2_5] 42 (0, 0)) z12_2_ hb)
               have _ := A_ (below_step z12_1_ hb)
               clear HO_8 HO_9 HO_13 HO_14 HO502 HO505 BK436 HB
               rename_i HO_8 HO_9 HO_13 HO_14 HO502 HO505 HO514 HO517 BK436 HB
               (try clear hb)
               (try clear hb2)
               (try clear hk)
               (try clear hi)
               (try clear ho0)
               (try clear ho1)
               refine hK.out _ _ ⟨(blk_cell BK436.out 0).trans rfl, (blk_cell BK436.out 1).trans rfl, (blk_cell BK436.out 2).trans rfl, (blk_cell BK436.out 3).trans rfl, (blk_cell BK436.out 4).trans rfl, (blk_cell BK436.out 5).trans rfl⟩ (fun hHeld => ?_)
               clear hK K
               refine norm_ (a' := ?_) ?_ ?_
               rotate_left
               ·
                show Act.put _ (some 137) _ = _
                simp only [Act.put, sA_, sB_, sC_, i64_w, i32_w]
                rfl
               refine pure_ (i := 7) (N := some 130) (v := ?_) (a' := ?_) #[true, true, true, true, true, true, true, true, false, false, false, false, false, false] rfl rfl (any_of HT_.out (by kernel_rfl)) (fun _ _ _ h => h) (Or.inl ⟨by rfl, ?_⟩) ?_ ?_
               rotate_left
               ·
                intro w'
                go_simp
                with_reducible rfl
               rotate_left
               ·
                simp only [Act.put, sA_, sB_, sC_, i64_w, i32_w]
                rfl
               refine pure_ (i := 8) (N := some 138) (v := ?_) (a' := ?_) #[true, true, true, true, true, true, true, true, true, false, false, false, false, false] rfl rfl (any_of HT_.out (by kernel_rfl)) (fun _ _ _ h => h) (Or.inl ⟨by rfl, ?_⟩) ?_ ?_
               rotate_left
               ·
                intro w'
                go_simp
                with_reducible rfl
               rotate_left
               ·
                simp only [Act.put, sA_, sB_, sC_, i64_w, i32_w]
                rfl
               refine pure_ (i := 9) (N := some 139) (v := ?_) (a' := ?_) #[true, true, true, true, true, true, true, true, true, true, false, false, false, false] rfl rfl (any_of HT_.out (by kernel_rfl)) (fun _ _ _ h => h) (Or.inl ⟨by rfl, ?_⟩) ?_ ?_
               rotate_left
               ·
                intro w'
                go_simp
                with_reducible rfl
               rotate_left
               ·
                simp only [Act.put, sA_, sB_, sC_, i64_w, i32_w]
                rfl
               refine pure_ (i := 10) (N := some 140) (v := ?_) (a' := ?_) #[true, true, true, true, true, true, true, true, true, true, true, false, false, false] rfl rfl (any_of HT_.out (by kernel_rfl)) (fun _ _ _ h => h) (Or.inl ⟨by rfl, ?_⟩) ?_ ?_
               rotate_left
               ·
                intro w'
                go_simp
                with_reducible rfl
               rotate_left
               ·
                simp only [Act.put, sA_, sB_, sC_, i64_w, i32_w]
                rfl
               refine pure_ (i := 11) (N := some 19) (v := ?_) (a' := ?_) #[true, true, true, true, true, true, true, true, true, true, true, true, false, false] rfl rfl (any_of HT_.out (by kernel_rfl)) (fun _ _ _ h => h) (Or.inl ⟨by rfl, ?_⟩) ?_ ?_
               rotate_left
               ·
                intro w'
                go_simp
                with_reducible rfl
               rotate_left
               ·
                simp only [Act.put, sA_, sB_, sC_, i64_w, i32_w]
                rfl
               refine pure_ (i := 12) (N := some 20) (v := ?_) (a' := ?_) #[true, true, true, true, true, true, true, true, true, true, true, true, true, false] rfl rfl (any_of HT_.out (by kernel_rfl)) (fun _ _ _ h => h) (Or.inl ⟨by rfl, ?_⟩) ?_ ?_
               rotate_left
               ·
                intro w'
                go_simp
                with_reducible rfl
               rotate_left
               ·
                simp only [Act.put, sA_, sB_, sC_, i64_w, i32_w]
                rfl
               refine pure_ (i := 13) (N := some 21) (v := ?_) (a' := ?_) #[true, true, true, true, true, true, true, true, true, true, true, true, true, true] rfl rfl (any_of HT_.out (by kernel_rfl)) (fun _ _ _ h => h) (Or.inl ⟨by rfl, ?_⟩) ?_ ?_
               rotate_left
               ·
                intro w'
                go_simp
                with_reducible rfl
               rotate_left
               ·
                simp only [Act.put, sA_, sB_, sC_, i64_w, i32_w]
                rfl
               refine done_ (done_of HT_.out (by kernel_rfl)) ?_
               go_upto_region 39 with (fail)
               go_cut [155] (fun v155 wc => ∃ (kq : Nat) (x155_116 : Bool), v155 = .bool x155_116 ∧ Aside0 (laws_FnExactKeptAfter.j2 kq t495 t497 t496 x155_116 = some true) ∧ Aside0 (kq ≤ kj75) ∧ Aside0 (Kd.R k45 45 wc w.heap.size (fun _ => True) (.slice Ao118 t471.length co118) t495) ∧ Aside0 (Kd.R k124 124 wc w.heap.size (fun _ => True) (.slice Ao120 t474.length co120) t497) ∧ Aside0 (wc.heap[gb436]? = some (.cells #[.string a2_0, .int .i8 a2_1, .string a2_2, .string a2_3, .int .i64 a2_4, .int .i64 a2_5] 42 (0, 0))) ∧ Aside0 (Below w.heap.size w wc))
               case first =>
                have H := HC117.out
                clear HC117
                replace H := Option.bind_eq_some_iff.mp H
                obtain ⟨t519, A1310, H⟩ := H
                try dsimp only at H
                have A131 := A_ A1310
                clear A1310
                by_cases c132 : t519 = true
                ·
                 subst c132
                 have H1 : ((laws_eqKeptS.f kj75 t515 t455).bind fun t520 => (if t520 = true then (laws_FnExactKeptAfter.j2 kj75 t495 t497 t496 (t518 != t458)) else (laws_FnExactKeptAfter.j2 kj75 t495 t497 t496 true))) = some true := by first | (rw [if_pos rfl] at H; exact H) | rfl
                 clear H
                 have H := H1
                 clear H1
                 replace H := Option.bind_eq_some_iff.mp H
                 obtain ⟨t520, A1330, H⟩ := H
                 try dsimp only at H
                 have A133 := A_ A1330
                 clear A1330
                 by_cases c134 : t520 = true
                 ·
                  subst c134
                  have H1 : (laws_FnExactKeptAfter.j2 kj75 t495 t497 t496 (t518 != t458)) = some true := by first | (rw [if_pos rfl] at H; exact H) | rfl
                  clear H
                  have H := H1
                  clear H1
                  have H' := A_ H
                  clear H
                  obtain ⟨Ao135, co135, eo135⟩ := Kd.R_slice HO514.out
                  subst eo135
                  obtain ⟨Ao136, co136, eo136⟩ := Kd.R_slice HO_8.out
                  subst eo136
                  go_wp2_with (first | ((with_reducible refine gate_callee (f := 18) rfl ?_); refine goesL_ (some 143) rfl rfl Try.func18 (by kernel_rfl) rfl #[.slice Ao135 t512.length co135, .slice Ao136 t452.length co136] rfl z12_3_ ?_; (with_reducible refine (laws_eqLineS.calls kj75 _ _ t512 _ _ t452 true _ ?side1 ?side2 ?side3 ?side4 A131.out).mono ?_); (case side1 => have hx_ := (Kd.R_reads' HO514.out).2.2; exact kc_); (case side2 => exact (Kd.R_reads' HO514.out).2.1); (case side3 => have hx_ := (Kd.R_reads' HO_8.out).2.2; exact kc_); (case side4 => exact (Kd.R_reads' HO_8.out).2.1); rintro e w137 ⟨rfl, hb⟩; refine ⟨_, rfl, ?_⟩; have _ := A_ (Kd.R_below z12_7_ hb); have _ := A_ (Kd.R_below z12_6_ hb); have _ := A_ (Kd.R_below z12_5_ hb); have _ := A_ (Kd.R_below z12_4_ hb); have _ := A_ (Kd.R_below z12_15_ hb); have _ := A_ (Kd.R_below z12_17_ hb); have _ := A_ (Kd.R_below z12_23_ hb); have _ := A_ (Kd.R_below z12_22_ hb); have _ := A_ (blk_below (g := gb436) (o := .cells #[.string a2_0, .int .i8 a2_1, .string a2_2, .string a2_3, .int .i64 a2_4, .int .i64 a2_5] 42 (0, 0)) z12_2_ hb); have _ := A_ (below_step z12_1_ hb); clear HO_8 HO_9 HO_13 HO_14 HO502 HO505 HO514 HO517 BK436 HB; rename_i HO_8 HO_9 HO_13 HO_14 HO502 HO505 HO514 HO517 BK436 HB; (try clear hb); obtain ⟨Ao138, co138, eo138⟩ := Kd.R_slice HO517.out; subst eo138; obtain ⟨Ao139, co139, eo139⟩ := Kd.R_slice HO_9.out; subst eo139) | (go_at_call 59; (with_reducible refine (laws_eqKeptS.calls kj75 _ _ t515 _ _ t455 true _ ?side1 ?side2 ?side3 ?side4 A133.out).mono ?_); (case side1 => have hx_ := (Kd.R_reads' HO517.out).2.2; exact kc_); (case side2 => exact (Kd.R_reads' HO517.out).2.1); (case side3 => have hx_ := (Kd.R_reads' HO_9.out).2.2; exact kc_); (case side4 => exact (Kd.R_reads' HO_9.out).2.1); rintro e w140 ⟨rfl, hb⟩; have _ := A_ (Kd.R_below z12_7_ hb); have _ := A_ (Kd.R_below z12_6_ hb); have _ := A_ (Kd.R_below z12_5_ hb); have _ := A_ (Kd.R_below z12_4_ hb); have _ := A_ (Kd.R_below z12_15_ hb); have _ := A_ (Kd.R_below z12_17_ hb); have _ := A_ (Kd.R_below z12_23_ hb); have _ := A_ (Kd.R_below z12_22_ hb); have _ := A_ (blk_below (g := gb436) (o := .cells #[.string a2_0, .int .i8 a2_1, .string a2_2, .string a2_3, .int .i64 a2_4, .int .i64 a2_5] 42 (0, 0)) z12_2_ hb); have _ := A_ (below_step z12_1_ hb); clear HO_8 HO_9 HO_13 HO_14 HO502 HO505 HO514 HO517 BK436 HB; rename_i HO_8 HO_9 HO_13 HO_14 HO502 HO505 HO514 HO517 BK436 HB; (try clear hb)))
                  go_meet
                  case rel => exact ⟨_, ((t518 != t458)), z12_20_, H', ⟨z12_40_⟩, ⟨z12_38_⟩, ⟨z12_37_⟩, ⟨z12_2_⟩, ⟨z12_1_⟩⟩
                 ·
                  replace c134 := Bool.eq_false_iff.mpr c134
                  subst c134
                  have H1 : (laws_FnExactKeptAfter.j2 kj75 t495 t497 t496 true) = some true := by first | (rw [if_neg (show ¬ (false = true) by decide)] at H; exact H) | rfl
                  clear H
                  have H := H1
                  clear H1
                  have H' := A_ H
                  clear H
                  obtain ⟨Ao141, co141, eo141⟩ := Kd.R_slice HO514.out
                  subst eo141
                  obtain ⟨Ao142, co142, eo142⟩ := Kd.R_slice HO_8.out
                  subst eo142
                  go_wp2_with (first | ((with_reducible refine gate_callee (f := 18) rfl ?_); refine goesL_ (some 143) rfl rfl Try.func18 (by kernel_rfl) rfl #[.slice Ao141 t512.length co141, .slice Ao142 t452.length co142] rfl z12_3_ ?_; (with_reducible refine (laws_eqLineS.calls kj75 _ _ t512 _ _ t452 true _ ?side1 ?side2 ?side3 ?side4 A131.out).mono ?_); (case side1 => have hx_ := (Kd.R_reads' HO514.out).2.2; exact kc_); (case side2 => exact (Kd.R_reads' HO514.out).2.1); (case side3 => have hx_ := (Kd.R_reads' HO_8.out).2.2; exact kc_); (case side4 => exact (Kd.R_reads' HO_8.out).2.1); rintro e w143 ⟨rfl, hb⟩; refine ⟨_, rfl, ?_⟩; have _ := A_ (Kd.R_below z12_7_ hb); have _ := A_ (Kd.R_below z12_6_ hb); have _ := A_ (Kd.R_below z12_5_ hb); have _ := A_ (Kd.R_below z12_4_ hb); have _ := A_ (Kd.R_below z12_15_ hb); have _ := A_ (Kd.R_below z12_17_ hb); have _ := A_ (Kd.R_below z12_23_ hb); have _ := A_ (Kd.R_below z12_22_ hb); have _ := A_ (blk_below (g := gb436) (o := .cells #[.string a2_0, .int .i8 a2_1, .string a2_2, .string a2_3, .int .i64 a2_4, .int .i64 a2_5] 42 (0, 0)) z12_2_ hb); have _ := A_ (below_step z12_1_ hb); clear HO_8 HO_9 HO_13 HO_14 HO502 HO505 HO514 HO517 BK436 HB; rename_i HO_8 HO_9 HO_13 HO_14 HO502 HO505 HO514 HO517 BK436 HB; (try clear hb); obtain ⟨Ao144, co144, eo144⟩ := Kd.R_slice HO517.out; subst eo144; obtain ⟨Ao145, co145, eo145⟩ := Kd.R_slice HO_9.out; subst eo145) | (go_at_call 59; (with_reducible refine (laws_eqKeptS.calls kj75 _ _ t515 _ _ t455 false _ ?side1 ?side2 ?side3 ?side4 A133.out).mono ?_); (case side1 => have hx_ := (Kd.R_reads' HO517.out).2.2; exact kc_); (case side2 => exact (Kd.R_reads' HO517.out).2.1); (case side3 => have hx_ := (Kd.R_reads' HO_9.out).2.2; exact kc_); (case side4 => exact (Kd.R_reads' HO_9.out).2.1); rintro e w146 ⟨rfl, hb⟩; have _ := A_ (Kd.R_below z12_7_ hb); have _ := A_ (Kd.R_below z12_6_ hb); have _ := A_ (Kd.R_below z12_5_ hb); have _ := A_ (Kd.R_below z12_4_ hb); have _ := A_ (Kd.R_below z12_15_ hb); have _ := A_ (Kd.R_below z12_17_ hb); have _ := A_ (Kd.R_below z12_23_ hb); have _ := A_ (Kd.R_below z12_22_ hb); have _ := A_ (blk_below (g := gb436) (o := .cells #[.string a2_0, .int .i8 a2_1, .string a2_2, .string a2_3, .int .i64 a2_4, .int .i64 a2_5] 42 (0, 0)) z12_2_ hb); have _ := A_ (below_step z12_1_ hb); clear HO_8 HO_9 HO_13 HO_14 HO502 HO505 HO514 HO517 BK436 HB; rename_i HO_8 HO_9 HO_13 HO_14 HO502 HO505 HO514 HO517 BK436 HB; (try clear hb)))
                  go_meet
                  case rel => exact ⟨_, (true), z12_20_, H', ⟨z12_40_⟩, ⟨z12_38_⟩, ⟨z12_37_⟩, ⟨z12_2_⟩, ⟨z12_1_⟩⟩
                ·
                 replace c132 := Bool.eq_false_iff.mpr c132
                 subst c132
                 have H1 : (laws_FnExactKeptAfter.j2 kj75 t495 t497 t496 true) = some true := by first | (rw [if_neg (show ¬ (false = true) by decide)] at H; exact H) | rfl
                 clear H
                 have H := H1
                 clear H1
                 have H' := A_ H
                 clear H
                 obtain ⟨Ao147, co147, eo147⟩ := Kd.R_slice HO514.out
                 subst eo147
                 obtain ⟨Ao148, co148, eo148⟩ := Kd.R_slice HO_8.out
                 subst eo148
                 go_wp2_with (first | ((with_reducible refine gate_callee (f := 18) rfl ?_); refine goesL_ (some 143) rfl rfl Try.func18 (by kernel_rfl) rfl #[.slice Ao147 t512.length co147, .slice Ao148 t452.length co148] rfl z12_3_ ?_; (with_reducible refine (laws_eqLineS.calls kj75 _ _ t512 _ _ t452 false _ ?side1 ?side2 ?side3 ?side4 A131.out).mono ?_); (case side1 => have hx_ := (Kd.R_reads' HO514.out).2.2; exact kc_); (case side2 => exact (Kd.R_reads' HO514.out).2.1); (case side3 => have hx_ := (Kd.R_reads' HO_8.out).2.2; exact kc_); (case side4 => exact (Kd.R_reads' HO_8.out).2.1); rintro e w149 ⟨rfl, hb⟩; refine ⟨_, rfl, ?_⟩; have _ := A_ (Kd.R_below z12_7_ hb); have _ := A_ (Kd.R_below z12_6_ hb); have _ := A_ (Kd.R_below z12_5_ hb); have _ := A_ (Kd.R_below z12_4_ hb); have _ := A_ (Kd.R_below z12_15_ hb); have _ := A_ (Kd.R_below z12_17_ hb); have _ := A_ (Kd.R_below z12_23_ hb); have _ := A_ (Kd.R_below z12_22_ hb); have _ := A_ (blk_below (g := gb436) (o := .cells #[.string a2_0, .int .i8 a2_1, .string a2_2, .string a2_3, .int .i64 a2_4, .int .i64 a2_5] 42 (0, 0)) z12_2_ hb); have _ := A_ (below_step z12_1_ hb); clear HO_8 HO_9 HO_13 HO_14 HO502 HO505 HO514 HO517 BK436 HB; rename_i HO_8 HO_9 HO_13 HO_14 HO502 HO505 HO514 HO517 BK436 HB; (try clear hb)))
                 go_meet
                 case rel => exact ⟨_, (true), z12_20_, H', ⟨z12_40_⟩, ⟨z12_38_⟩, ⟨z12_37_⟩, ⟨z12_2_⟩, ⟨z12_1_⟩⟩
               case rest =>
                clear HC117
                try clear c1
                try clear c2
                try clear p2
                try clear c3
                try clear c4
                try clear c5
                try clear c5b0
                try clear c6
                try clear c7
                try clear c8
                try clear c9
                try clear c9b0
                try clear c10
                try clear c11
                try clear c13
                try clear c14
                try clear c14b0
                try clear c16
                try clear c18
                try clear c27
                try clear c28
                try clear c29
                try clear c31
                try clear c49
                try clear c51
                try clear c55
                try clear c56
                try clear c57
                try clear c58
                try clear c59
                try clear c60
                try clear c61
                try clear c67
                try clear c70
                try clear c73
                try clear c85
                try clear c85b0
                try clear c87
                try clear c89
                try clear c105
                try clear c109
                try clear c109b0
                try clear c111
                try clear c111b0
                try clear c112
                try clear c112b0
                try clear c112b1
                try clear c132
                try clear c134
                try clear hcz18_0
                try clear hcz18_1
                try clear hcz18_2
                try clear hcz18_3
                try clear hcz18_4
                try clear hcz18_5
                try clear hcz32_0
                try clear hcz32_1
                try clear hcz32_2
                try clear hcz32_3
                try clear hcz32_4
                try clear hcz32_5
                try clear hcz43_0
                try clear hcz43_1
                try clear hcz43_2
                try clear hcz43_3
                try clear hcz43_4
                try clear hcz43_5
                try clear hfz18_0
                try clear hfz18_1
                try clear hfz18_2
                try clear hfz18_3
                try clear hfz18_4
                try clear hfz18_5
                try clear hfz32_0
                try clear hfz32_1
                try clear hfz32_2
                try clear hfz32_3
                try clear hfz32_4
                try clear hfz32_5
                try clear hfz43_0
                try clear hfz43_1
                try clear hfz43_2
                try clear hfz43_3
                try clear hfz43_4
                try clear hfz43_5
                try clear p2
                obtain ⟨kq, x155_116, rfl, HA, HJ116, HO_13, HO_14, BK436, HB⟩ := hcut
                have hl13_116 := (Kd.R_reads' HO_13.out).1
                rw [hl13_116] at HO_13
                (try simp only [hl13_116])
                (try simp only [hl13_116] at BK436)
                (try simp only [hl13_116] at HO_14)
                have hl14_116 := (Kd.R_reads' HO_14.out).1
                rw [hl14_116] at HO_14
                (try simp only [hl14_116])
                (try simp only [hl14_116] at BK436)
                (try simp only [hl14_116] at HO_13)
                cases kq with
                | zero => exact absurd HA.out (by simp [laws_FnExactKeptAfter.j2])
                | succ kj116 =>
                 have H := HA.out
                 clear HA
                 simp only [laws_FnExactKeptAfter.j2] at H
                 by_cases c150 : x155_116 = true
                 ·
                  subst c150
                  have H1 : (some false) = some true := by first | (rw [if_pos rfl] at H; exact H) | rfl
                  clear H
                  have H := H1
                  clear H1
                  exact absurd H (by decide)
                 ·
                  replace c150 := Bool.eq_false_iff.mpr c150
                  subst c150
                  have H1 : ((laws_heldLineS.f kj116 t495 1).bind fun t521 => (if t521 < 0 then (some false) else ((laws_heldKeptS.f kj116 t497 t521).bind fun t522 => (if t522 < 0 then (some false) else (if t522 = t496 then (some true) else (some false)))))) = some true := by first | (rw [if_neg (show ¬ (false = true) by decide)] at H; exact H) | rfl
                  clear H
                  have H := H1
                  clear H1
                  replace H := Option.bind_eq_some_iff.mp H
                  obtain ⟨t521, A1510, H⟩ := H
                  try dsimp only at H
                  have A151 := A_ A1510
                  clear A1510
                  by_cases c152 : t521 < 0
                  ·
                   rw [if_pos c152] at H
                   have c152b0 := decide_eq_true c152
                   clear c152
                   exact absurd H (by decide)
                  ·
                   rw [if_neg c152] at H
                   have c152b0 := decide_eq_false c152
                   clear c152
                   replace H := Option.bind_eq_some_iff.mp H
                   obtain ⟨t522, A1530, H⟩ := H
                   try dsimp only at H
                   have A153 := A_ A1530
                   clear A1530
                   by_cases c154 : t522 < 0
                   ·
                    rw [if_pos c154] at H
                    have c154b0 := decide_eq_true c154
                    clear c154
                    exact absurd H (by decide)
                   ·
                    rw [if_neg c154] at H
                    have c154b0 := decide_eq_false c154
                    clear c154
                    by_cases c155 : t522 = t496
                    ·
                     rw [if_pos c155] at H
                     have c155b0 := beq_iff_eq.mpr c155
                     have c155b1 := bne_eq_false_iff_eq.mpr c155
                     clear c155
                     clear H
                     go_wp2_with (first | ((with_reducible refine gate_callee (f := 28) rfl ?_); refine goesL_ (some 158) rfl rfl Try.func28 (by kernel_rfl) rfl #[.slice Ao118 t495.length co118, .int .i64 1] rfl z12_3_ ?_; (with_reducible refine (laws_heldLineS.calls kj116 _ _ t495 1 t521 _ ?side1 ?side2 A151.out).mono ?_); (case side1 => have hx_ := (Kd.R_reads' HO_13.out).2.2; exact kc_); (case side2 => exact (Kd.R_reads' HO_13.out).2.1); rintro e w156 ⟨rfl, hb⟩; refine ⟨_, rfl, ?_⟩; have _ := A_ (Kd.R_below z12_5_ hb); have _ := A_ (Kd.R_below z12_4_ hb); have _ := A_ (blk_below (g := gb436) (o := .cells #[.string a2_0, .int .i8 a2_1, .string a2_2, .string a2_3, .int .i64 a2_4, .int .i64 a2_5] 42 (0, 0)) z12_2_ hb); have _ := A_ (below_step z12_1_ hb); clear HO_13 HO_14 BK436 HB; rename_i HO_13 HO_14 BK436 HB; (try clear hb)) | ((with_reducible refine gate_callee (f := 61) rfl ?_); refine goesL_ (some 163) rfl rfl Try.func61 (by kernel_rfl) rfl #[.slice Ao120 t497.length co120, .int .i64 t521] rfl z12_3_ ?_; (with_reducible refine (laws_heldKeptS.calls kj116 _ _ t497 t521 t522 _ ?side1 ?side2 A153.out).mono ?_); (case side1 => have hx_ := (Kd.R_reads' HO_14.out).2.2; exact kc_); (case side2 => exact (Kd.R_reads' HO_14.out).2.1); rintro e w157 ⟨rfl, hb⟩; refine ⟨_, rfl, ?_⟩; have _ := A_ (Kd.R_below z12_5_ hb); have _ := A_ (Kd.R_below z12_4_ hb); have _ := A_ (blk_below (g := gb436) (o := .cells #[.string a2_0, .int .i8 a2_1, .string a2_2, .string a2_3, .int .i64 a2_4, .int .i64 a2_5] 42 (0, 0)) z12_2_ hb); have _ := A_ (below_step z12_1_ hb); clear HO_13 HO_14 BK436 HB; rename_i HO_13 HO_14 BK436 HB; (try clear hb)))
                     go_ret
                     exact ⟨z12_36_, z12_1_⟩
                    ·
                     rw [if_neg c155] at H
                     have c155b0 : (t522 == t496) = false := beq_eq_false_iff_ne.mpr c155
                     have c155b1 : (t522 != t496) = true := bne_iff_ne.mpr c155
                     exact absurd H (by decide)
              ·
               rw [if_neg c112] at H
               have c112b0 : (t499 == t496) = false := beq_eq_false_iff_ne.mpr c112
               have c112b1 : (t499 != t496) = true := bne_iff_ne.mpr c112
               exact absurd H (by decide)
        ·
         replace c73 := Bool.eq_false_iff.mpr c73
         subst c73
         have H1 : (some false) = some true := by first | (rw [if_neg (show ¬ (false = true) by decide)] at H; exact H) | rfl
         clear H
         have H := H1
         clear H1
         exact absurd H (by decide)
       ·
        replace c70 := Bool.eq_false_iff.mpr c70
        subst c70
        have H1 : (some false) = some true := by first | (rw [if_neg (show ¬ (false = true) by decide)] at H; exact H) | rfl
        clear H
        have H := H1
        clear H1
        exact absurd H (by decide)
end Go.Proofs.Ytenhgmddpkiliaa.PB

import Derived.Test.YtififhihgkbafaaPMx0
import Derived.Test.YtififhihgkbafaaPMx1
import Derived.Test.YtififhihgkbafaaPMx4
import Derived.Test.YtififhihgkbafaaPMx5
import Derived.Test.YtififhihgkbafaaPMx6
import Derived.Test.YtififhihgkbafaaPMx7
import Derived.Test.YtififhihgkbafaaPMx8
import Derived.Test.YtififhihgkbafaaPMx9
namespace Go.Proofs.Ytififhihgkbafaa.PM
open Go.RowKit Go.Proofs.YtififhihgkbafaaW.PrintWords Go.Proofs.YtififhihgkbafaaW.PrintLast Go.Proofs.YtififhihgkbafaaW.PrintMore Go.Proofs.YtififhihgkbafaaRP
attribute [local go_sem] max2_int min2_int max_two min_two max_three min_three max_four min_four Go.Proofs.YtififhihgkbafaaRP.max_eight Go.Proofs.YtififhihgkbafaaRP.tmod_len   -- for this text's walks alone
set_option linter.unusedVariables false
set_option linter.unusedSimpArgs false
attribute [local go_sem high] eqA51
theorem z10_1_ {P : Prop} (h : P := by repeat (first | (with_reducible first | exact HB.out | apply below_alloc | apply pw_below_drewN | apply below_drew1 | refine below_set ?_ GE412.out | refine below_set ?_ GE419.out) | exact HB.out)) : P := h
theorem z10_2_ {P : Prop} (h : P := by (with_reducible repeat (first | refine blk_drewN ?_ _ | refine blk_drew ?_ | refine blk_alloc ?_ _)); exact BK412.out) : P := h
theorem z10_3_ {P : Prop} (h : P := by (with_reducible repeat (first | refine blk_drewN ?_ _ | refine blk_drew ?_ | refine blk_alloc ?_ _)); exact BK419.out) : P := h
theorem z10_4_ {P : Prop} (h : P := by (with_reducible repeat (first | apply Kd.R_alloc | apply Kd.R_drewN | apply Kd.R_drew)); exact HO_420001.out) : P := h
theorem z10_5_ {P : Prop} (h : P := by (with_reducible repeat (first | apply Kd.R_alloc | apply Kd.R_drewN | apply Kd.R_drew)); exact HO_420000.out) : P := h
theorem z10_6_ {P : Prop} (h : P := by repeat (first | (with_reducible first | exact HB.out | apply below_alloc | apply pw_below_drewN | apply below_drew1 | refine below_set ?_ GE412.out) | exact HB.out)) : P := h
theorem z10_7_ {P : Prop} (h : P := by (with_reducible repeat (first | apply Kd.R_alloc | apply Kd.R_drewN | apply Kd.R_drew)); exact HO_14.out) : P := h
theorem z10_8_ {P : Prop} (h : P := by (with_reducible repeat (first | apply Kd.R_alloc | apply Kd.R_drewN | apply Kd.R_drew)); exact HO_10.out) : P := h
theorem z10_9_ {P : Prop} (h : P := by (with_reducible repeat (first | apply Kd.R_alloc | apply Kd.R_drewN | apply Kd.R_drew)); exact HO_8.out) : P := h
theorem z10_10_ {P : Prop} (h : P := by (with_reducible repeat (first | refine blk_drewN ?_ _ | refine blk_drew ?_ | refine blk_alloc ?_ _)); refine blk_put (cs := #[.int .i64 t408, .int .i64 t409, .int .i64 t410, .int .i64 0]) ?_ 3 _ rfl; (with_reducible repeat (first | refine blk_drewN ?_ _ | refine blk_drew ?_ | refine blk_alloc ?_ _)); refine blk_put (cs := #[.int .i64 t408, .int .i64 t409, .int .i64 0, .int .i64 0]) ?_ 2 _ rfl; (with_reducible repeat (first | refine blk_drewN ?_ _ | refine blk_drew ?_ | refine blk_alloc ?_ _)); refine blk_put (cs := #[.int .i64 t408, .int .i64 0, .int .i64 0, .int .i64 0]) ?_ 1 _ rfl; (with_reducible repeat (first | refine blk_drewN ?_ _ | refine blk_drew ?_ | refine blk_alloc ?_ _)); refine blk_put (cs := #[.int .i64 0, .int .i64 0, .int .i64 0, .int .i64 0]) ?_ 0 _ rfl; (with_reducible repeat (first | refine blk_drewN ?_ _ | refine blk_drew ?_ | refine blk_alloc ?_ _)); exact BK412.out) : P := h
theorem z10_11_ {P : Prop} (h : P := by (with_reducible repeat (first | apply Kd.R_alloc | apply Kd.R_drewN | apply Kd.R_drew)); exact (Kd.R_mono (Kd.R_far (p := ⟨gb419, 1, none⟩) (Kd.R_far (p := ⟨gb419, 0, none⟩) (Kd.R_types HO418.out BK419.out (by decide)) (fun _ hk => hk.2) (.slice Ao16 t413.length co16)) (fun _ hk => hk.2) (.slice Ao19 t416.length co19)) (fun _ h_ => h_.1))) : P := h
theorem z10_12_ {P : Prop} (h : P := by (with_reducible repeat (first | apply Kd.R_alloc | apply Kd.R_drewN | apply Kd.R_drew)); exact (Kd.R_mono (Kd.R_far (p := ⟨gb419, 1, none⟩) (Kd.R_far (p := ⟨gb419, 0, none⟩) (Kd.R_types HO415.out BK419.out (by decide)) (fun _ hk => hk.2) (.slice Ao16 t413.length co16)) (fun _ hk => hk.2) (.slice Ao19 t416.length co19)) (fun _ h_ => h_.1))) : P := h
theorem z10_13_ {P : Prop} (h : P := by repeat (first | (with_reducible first | exact HB.out | apply below_alloc | apply pw_below_drewN | apply below_drew1) | exact HB.out)) : P := h
theorem z10_14_ {P : Prop} (h : P := by first | rfl | (simp; done) | (simp [*]; done) | (simp [isE_]; done)) : P := h
theorem z10_15_ {P : Prop} (h : P := by (with_reducible repeat (first | refine blk_drewN ?_ _ | refine blk_drew ?_ | refine blk_alloc ?_ _)); refine blk_put (cs := #[.slice Ao16 t413.length co16, .slice none 0 0]) ?_ 1 _ rfl; (with_reducible repeat (first | refine blk_drewN ?_ _ | refine blk_drew ?_ | refine blk_alloc ?_ _)); refine blk_put (cs := #[.slice none 0 0, .slice none 0 0]) ?_ 0 _ rfl; (with_reducible repeat (first | refine blk_drewN ?_ _ | refine blk_drew ?_ | refine blk_alloc ?_ _)); exact BK419.out) : P := h
theorem z10_16_ {P : Prop} (h : P := by first | rfl | (simp [errW_none, errW_some] <;> rfl) | (simp [*, errW_none, errW_some] <;> rfl)) : P := h
theorem z10_17_ {P : Prop} (h : P := by (with_reducible repeat (first | refine blk_drewN ?_ _ | refine blk_drew ?_ | refine blk_alloc ?_ _)); refine blk_far ?_ NB412_419.out _; (with_reducible repeat (first | refine blk_drewN ?_ _ | refine blk_drew ?_ | refine blk_alloc ?_ _)); refine blk_far ?_ NB412_419.out _; (with_reducible repeat (first | refine blk_drewN ?_ _ | refine blk_drew ?_ | refine blk_alloc ?_ _)); exact BK412.out) : P := h
theorem z10_18_ {P : Prop} (h : P := by (with_reducible repeat (first | apply Kd.R_alloc | apply Kd.R_drewN | apply Kd.R_drew)); exact HO418.out) : P := h
theorem z10_19_ {P : Prop} (h : P := by (with_reducible repeat (first | apply Kd.R_alloc | apply Kd.R_drewN | apply Kd.R_drew)); exact HO415.out) : P := h
theorem z10_20_ {P : Prop} (h : P := by (with_reducible repeat (first | apply Kd.R_alloc | apply Kd.R_drewN | apply Kd.R_drew)); exact Kd.R_mono HO_420001.out (fun _ hk => hk.1.2)) : P := h
theorem z10_21_ {P : Prop} (h : P := by (with_reducible repeat (first | apply Kd.R_alloc | apply Kd.R_drewN | apply Kd.R_drew)); exact Kd.R_mono HO_420000.out (fun _ hk => hk.1.2)) : P := h
theorem z10_22_ {P : Prop} (h : P := by (with_reducible repeat (first | apply Kd.R_alloc | apply Kd.R_drewN | apply Kd.R_drew)); exact Kd.R_mono HO_420001.out (fun _ hk => ⟨hk.2, hk.1⟩)) : P := h
theorem z10_23_ {P : Prop} (h : P := by (with_reducible repeat (first | apply Kd.R_alloc | apply Kd.R_drewN | apply Kd.R_drew)); exact Kd.R_mono HO_420000.out (fun _ hk => ⟨hk.2, hk.1⟩)) : P := h
theorem z10_24_ {P : Prop} (h : P := by (with_reducible repeat (first | apply Kd.R_alloc | apply Kd.R_drewN | apply Kd.R_drew)); exact HO451.out) : P := h
theorem z10_25_ {P : Prop} (h : P := by (with_reducible repeat (first | apply Kd.R_alloc | apply Kd.R_drewN | apply Kd.R_drew)); exact HO423.out) : P := h
theorem z10_26_ {P : Prop} (h : P := by have := HJ9.out; have := HK2.out; first | omega | exact Nat.le_refl _) : P := h
theorem z10_27_ {P : Prop} (h : P := by (with_reducible repeat (first | apply Kd.R_alloc | apply Kd.R_drewN | apply Kd.R_drew)); exact Kd.R_mono HO427.out (fun _ hk => hk.2)) : P := h
theorem z10_28_ {P : Prop} (h : P := by (with_reducible repeat (first | apply Kd.R_alloc | apply Kd.R_drewN | apply Kd.R_drew)); exact Kd.R_mono HO423.out (fun _ hk => hk.2)) : P := h
/-! ### laws_FnTurns: function 5 -/
mutual
def laws_FnTurns.j0 : Nat → Int → List (S51) → Int → List (S51) → Bool → Int → Int → Int → Int → List Int → List Int → Option (Bool)
 | 0, _, _, _, _, _, _, _, _, _, _, _ => none
 | k + 1, x7, x8, x9, x10, x58, x413000, x413001, x413002, x413003, x420000, x420001 => if x58 = true then (some false) else (laws_FnTurns.l0 k x7 x8 x9 x10 0 0 (([] : List Int)) 0 x413000 x413001 x413002 x413003 x420000 x420001)
def laws_FnTurns.l0 : Nat → Int → List (S51) → Int → List (S51) → Int → Int → List Int → Int → Int → Int → Int → Int → List Int → List Int → Option (Bool)
 | 0, _, _, _, _, _, _, _, _, _, _, _, _, _, _ => none
 | k + 1, x7, x8, x9, x10, x12, x13, x14, x15, x413000, x413001, x413002, x413003, x420000, x420001 => if x15 < (x10.length : Int) then (if 0 ≤ x15 then (if x15 < (x8.length : Int) then (if (!(((rd_T51 x8 x15).f0) == ((rd_T51 x10 x15).f0)) || (!(((rd_T51 x8 x15).f1) == ((rd_T51 x10 x15).f1)) || ((!(((rd_T51 x8 x15).f2.f0) == ((rd_T51 x10 x15).f2.f0)) || (!(((rd_T51 x8 x15).f2.f1) == ((rd_T51 x10 x15).f2.f1)) || (!(((rd_T51 x8 x15).f2.f2) == ((rd_T51 x10 x15).f2.f2)) || (!(((rd_T51 x8 x15).f2.f3) == ((rd_T51 x10 x15).f2.f3))))))))) = true then (some false) else (if (rd_T51 x10 x15).f0 = true then (if x14.length < 140737488355328 then (laws_FnTurns.l0 k x7 x8 x9 x10 (wrap64 (x12 + 1)) x13 (x14 ++ [(rd_T51 x10 x15).f1]) (wrap64 (x15 + 1)) x413000 x413001 x413002 x413003 x420000 x420001) else (none)) else ((impl_DigitAt.f x420000 x420001 x13).bind fun bt439 => (if bt439.2 = 0 then (if bt439.1 = ((rd_T51 x10 x15).f1) then (laws_FnTurns.l0 k x7 x8 x9 x10 x12 (wrap64 (x13 + 1)) x14 (wrap64 (x15 + 1)) x413000 x413001 x413002 x413003 x420000 x420001) else (some false)) else (some false))))) else (none)) else (none)) else (if x9 = 0 then ((impl_MoebiusDigits.f k x413000 x413001 x413002 x413003 x420000 x420001 x7).bind fun bt442 => (if x12 = x7 then (if bt442.2.2 = 0 then (if bt442.2.1 = x13 then ((spec_A2Alike.f k bt442.1 x14).bind fun t447 => (if t447 = true then (if x7 > 0 then (if 0 ≤ (wrap64 ((x10.length : Int) - 1)) then (if (wrap64 ((x10.length : Int) - 1)) < (x10.length : Int) then (laws_FnTurns.j2 k x7 (!((rd_T51 x10 (wrap64 ((x10.length : Int) - 1))).f0)) x413000 x413001 x413002 x413003 x420000 x420001) else (none)) else (none)) else (laws_FnTurns.j2 k x7 false x413000 x413001 x413002 x413003 x420000 x420001)) else (laws_FnTurns.j2 k x7 true x413000 x413001 x413002 x413003 x420000 x420001))) else (laws_FnTurns.j2 k x7 true x413000 x413001 x413002 x413003 x420000 x420001)) else (laws_FnTurns.j2 k x7 true x413000 x413001 x413002 x413003 x420000 x420001)) else (laws_FnTurns.j2 k x7 true x413000 x413001 x413002 x413003 x420000 x420001))) else (if x9 = 7 then (some true) else (some (x9 == 3))))
def laws_FnTurns.j2 : Nat → Int → Bool → Int → Int → Int → Int → List Int → List Int → Option (Bool)
 | 0, _, _, _, _, _, _, _, _ => none
 | k + 1, x7, x156, x413000, x413001, x413002, x413003, x420000, x420001 => if x156 = true then (some false) else ((impl_MoebiusDigits.f k 2 0 0 1 x420000 x420001 x7).bind fun bt449 => ((impl_MoebiusTurns.f k x413000 x413001 x413002 x413003 x420000 x420001 61).bind fun bt454 => (if bt449.2.2 = 4 then (some (bt454.2 == 2)) else (some false))))
end
def laws_FnTurns.f (k : Nat) (l0 : List Int) (l1 : List Int) : Option (Bool) := (laws_a2Long.f l0 l1).bind fun t407 => (if t407 = true then (some true) else ((spec_A2Machine.f k l0).bind fun bt408 => ((spec_A2Stream.f k l1).bind fun bt413 => ((laws_a2At.f l0 0 12).bind fun t420 => ((impl_MoebiusTurns.f k bt408.1 bt408.2.1 bt408.2.2.1 bt408.2.2.2 bt413.1 bt413.2 t420).bind fun bt421 => ((spec_MoebiusTurns.f k bt408.1 bt408.2.1 bt408.2.2.1 bt408.2.2.2 bt413.1 bt413.2 t420).bind fun bt425 => (if bt421.2 = bt425.2 then (laws_FnTurns.j0 k t420 bt421.1 bt421.2 bt425.1 ((bt421.1.length : Int) != (bt425.1.length : Int)) bt408.1 bt408.2.1 bt408.2.2.1 bt408.2.2.2 bt413.1 bt413.2) else (laws_FnTurns.j0 k t420 bt421.1 bt421.2 bt425.1 true bt408.1 bt408.2.1 bt408.2.2.1 bt408.2.2.2 bt413.1 bt413.2))))))))
theorem laws_FnTurns.mono_l : ∀ k, (∀ y0 y1 y2 y3 y4 y5 y6 y7 y8 y9 y10, LeO (laws_FnTurns.j0 k y0 y1 y2 y3 y4 y5 y6 y7 y8 y9 y10) (laws_FnTurns.j0 (k + 1) y0 y1 y2 y3 y4 y5 y6 y7 y8 y9 y10)) ∧ (∀ y0 y1 y2 y3 y4 y5 y6 y7 y8 y9 y10 y11 y12 y13, LeO (laws_FnTurns.l0 k y0 y1 y2 y3 y4 y5 y6 y7 y8 y9 y10 y11 y12 y13) (laws_FnTurns.l0 (k + 1) y0 y1 y2 y3 y4 y5 y6 y7 y8 y9 y10 y11 y12 y13)) ∧ (∀ y0 y1 y2 y3 y4 y5 y6 y7, LeO (laws_FnTurns.j2 k y0 y1 y2 y3 y4 y5 y6 y7) (laws_FnTurns.j2 (k + 1) y0 y1 y2 y3 y4 y5 y6 y7))
 | 0 => ⟨fun _ _ _ _ _ _ _ _ _ _ _ r h => by simp [laws_FnTurns.j0] at h, fun _ _ _ _ _ _ _ _ _ _ _ _ _ _ r h => by simp [laws_FnTurns.l0] at h, fun _ _ _ _ _ _ _ _ r h => by simp [laws_FnTurns.j2] at h⟩
 | k + 1 => by
  obtain ⟨ih0, ih1, ih2⟩ := laws_FnTurns.mono_l k
  refine ⟨?_, ?_, ?_⟩
  ·
   intro y0 y1 y2 y3 y4 y5 y6 y7 y8 y9 y10
   unfold laws_FnTurns.j0
   repeat' first
   | (with_reducible exact ih0 _ _ _ _ _ _ _ _ _ _ _)
   | (with_reducible exact ih1 _ _ _ _ _ _ _ _ _ _ _ _ _ _)
   | (with_reducible exact ih2 _ _ _ _ _ _ _ _)
   | (with_reducible exact impl_MoebiusDigits.mono _ _ _ _ _ _ _ _)
   | (with_reducible exact impl_MoebiusTurns.mono _ _ _ _ _ _ _ _)
   | (with_reducible exact spec_A2Alike.mono _ _ _)
   | (with_reducible exact spec_A2Machine.mono _ _)
   | (with_reducible exact spec_A2Stream.mono _ _)
   | (with_reducible exact spec_MoebiusTurns.mono _ _ _ _ _ _ _ _)
   | (with_reducible exact LeO.refl _)
   | (with_reducible exact LeO.none _)
   | (with_reducible refine LeO.ite ?_ ?_)
   | (with_reducible refine LeO.bind ?_ (fun _ => ?_))
   | exact ih0 _ _ _ _ _ _ _ _ _ _ _
   | exact ih1 _ _ _ _ _ _ _ _ _ _ _ _ _ _
   | exact ih2 _ _ _ _ _ _ _ _
   | exact LeO.none _
   | refine LeO.ite ?_ ?_
   | refine LeO.bind ?_ (fun _ => ?_)
  ·
   intro y0 y1 y2 y3 y4 y5 y6 y7 y8 y9 y10 y11 y12 y13
   unfold laws_FnTurns.l0
   repeat' first
   | (with_reducible exact ih0 _ _ _ _ _ _ _ _ _ _ _)
   | (with_reducible exact ih1 _ _ _ _ _ _ _ _ _ _ _ _ _ _)
   | (with_reducible exact ih2 _ _ _ _ _ _ _ _)
   | (with_reducible exact impl_MoebiusDigits.mono _ _ _ _ _ _ _ _)
   | (with_reducible exact impl_MoebiusTurns.mono _ _ _ _ _ _ _ _)
   | (with_reducible exact spec_A2Alike.mono _ _ _)
   | (with_reducible exact spec_A2Machine.mono _ _)
   | (with_reducible exact spec_A2Stream.mono _ _)
   | (with_reducible exact spec_MoebiusTurns.mono _ _ _ _ _ _ _ _)
   | (with_reducible exact LeO.refl _)
   | (with_reducible exact LeO.none _)
   | (with_reducible refine LeO.ite ?_ ?_)
   | (with_reducible refine LeO.bind ?_ (fun _ => ?_))
   | exact ih0 _ _ _ _ _ _ _ _ _ _ _
   | exact ih1 _ _ _ _ _ _ _ _ _ _ _ _ _ _
   | exact ih2 _ _ _ _ _ _ _ _
   | exact LeO.none _
   | refine LeO.ite ?_ ?_
   | refine LeO.bind ?_ (fun _ => ?_)
  ·
   intro y0 y1 y2 y3 y4 y5 y6 y7
   unfold laws_FnTurns.j2
   repeat' first
   | (with_reducible exact ih0 _ _ _ _ _ _ _ _ _ _ _)
   | (with_reducible exact ih1 _ _ _ _ _ _ _ _ _ _ _ _ _ _)
   | (with_reducible exact ih2 _ _ _ _ _ _ _ _)
   | (with_reducible exact impl_MoebiusDigits.mono _ _ _ _ _ _ _ _)
   | (with_reducible exact impl_MoebiusTurns.mono _ _ _ _ _ _ _ _)
   | (with_reducible exact spec_A2Alike.mono _ _ _)
   | (with_reducible exact spec_A2Machine.mono _ _)
   | (with_reducible exact spec_A2Stream.mono _ _)
   | (with_reducible exact spec_MoebiusTurns.mono _ _ _ _ _ _ _ _)
   | (with_reducible exact LeO.refl _)
   | (with_reducible exact LeO.none _)
   | (with_reducible refine LeO.ite ?_ ?_)
   | (with_reducible refine LeO.bind ?_ (fun _ => ?_))
   | exact ih0 _ _ _ _ _ _ _ _ _ _ _
   | exact ih1 _ _ _ _ _ _ _ _ _ _ _ _ _ _
   | exact ih2 _ _ _ _ _ _ _ _
   | exact LeO.none _
   | refine LeO.ite ?_ ?_
   | refine LeO.bind ?_ (fun _ => ?_)
theorem laws_FnTurns.mono : ∀ a0 a1 k, LeO (laws_FnTurns.f k a0 a1) (laws_FnTurns.f (k + 1) a0 a1) := by
 intro a0 a1 k
 obtain ⟨ih0, ih1, ih2⟩ := laws_FnTurns.mono_l k
 unfold laws_FnTurns.f
 repeat' first
   | (with_reducible exact ih0 _ _ _ _ _ _ _ _ _ _ _)
   | (with_reducible exact ih1 _ _ _ _ _ _ _ _ _ _ _ _ _ _)
   | (with_reducible exact ih2 _ _ _ _ _ _ _ _)
   | (with_reducible exact impl_MoebiusDigits.mono _ _ _ _ _ _ _ _)
   | (with_reducible exact impl_MoebiusTurns.mono _ _ _ _ _ _ _ _)
   | (with_reducible exact spec_A2Alike.mono _ _ _)
   | (with_reducible exact spec_A2Machine.mono _ _)
   | (with_reducible exact spec_A2Stream.mono _ _)
   | (with_reducible exact spec_MoebiusTurns.mono _ _ _ _ _ _ _ _)
   | (with_reducible exact LeO.refl _)
   | (with_reducible exact LeO.none _)
   | (with_reducible refine LeO.ite ?_ ?_)
   | (with_reducible refine LeO.bind ?_ (fun _ => ?_))
   | exact ih0 _ _ _ _ _ _ _ _ _ _ _
   | exact ih1 _ _ _ _ _ _ _ _ _ _ _ _ _ _
   | exact ih2 _ _ _ _ _ _ _ _
   | exact LeO.none _
   | refine LeO.ite ?_ ?_
   | refine LeO.bind ?_ (fun _ => ?_)
set_option maxHeartbeats 8000000 in
set_option maxRecDepth 100000 in
theorem laws_FnTurns.calls (k : Nat) (A0 : Option Addr) (c0 : Nat) (l0 : List Int) (A1 : Option Addr) (c1 : Nat) (l1 : List Int) (r : Bool) (w : World) (hr0 : Kd.C (Kd.int .u8) w A0 l0.length l0) (hc0 : l0.length ≤ c0) (hr1 : Kd.C (Kd.int .u8) w A1 l1.length l1) (hc1 : l1.length ≤ c1) (h : laws_FnTurns.f k l0 l1 = some r) :
  Calls Try.prog 5 #[.slice A0 l0.length c0, .slice A1 l1.length c1] w fun e w' => e = .returned (.bool r) ∧ Below w.heap.size w w' := by
 have hu31 := Try.underlying31
 have hu33 := Try.underlying33
 have hu51 := Try.underlying51
 have HR0 := A_ hr0
 have HC0 := A_ hc0
 clear hr0 hc0
 have HR1 := A_ hr1
 have HC1 := A_ hc1
 clear hr1 hc1
 have HB := A_ (Below.refl w.heap.size w)
 have H : ((laws_a2Long.f l0 l1).bind fun t407 => (if t407 = true then (some true) else ((spec_A2Machine.f k l0).bind fun bt408 => ((spec_A2Stream.f k l1).bind fun bt413 => ((laws_a2At.f l0 0 12).bind fun t420 => ((impl_MoebiusTurns.f k bt408.1 bt408.2.1 bt408.2.2.1 bt408.2.2.2 bt413.1 bt413.2 t420).bind fun bt421 => ((spec_MoebiusTurns.f k bt408.1 bt408.2.1 bt408.2.2.1 bt408.2.2.2 bt413.1 bt413.2 t420).bind fun bt425 => (if bt421.2 = bt425.2 then (laws_FnTurns.j0 k t420 bt421.1 bt421.2 bt425.1 ((bt421.1.length : Int) != (bt425.1.length : Int)) bt408.1 bt408.2.1 bt408.2.2.1 bt408.2.2.2 bt413.1 bt413.2) else (laws_FnTurns.j0 k t420 bt421.1 bt421.2 bt425.1 true bt408.1 bt408.2.1 bt408.2.2.1 bt408.2.2.2 bt413.1 bt413.2))))))))) = some r := h
 clear h
 replace H := Option.bind_eq_some_iff.mp H
 obtain ⟨t407, A30, H⟩ := H
 try dsimp only at H
 have A3 := A_ A30
 clear A30
 by_cases c4 : t407 = true
 ·
  subst c4
  have H1 := H; rw [if_pos rfl] at H1
  clear H
  have H := H1
  clear H1
  obtain rfl := Option.some.inj H
  go_enter Try.func5, Try.ntmps5
  go_wp2_with (first | (go_at_call 22; (with_reducible refine (laws_a2Long.calls _ _ l0 _ _ l1 true _ ?side1 ?side2 ?side3 ?side4 A3.out).mono ?_); (case side1 => repeat (first | exact HR0.out | (with_reducible refine Kd.C_alloc ?_ _) | (with_reducible refine Kd.C_drewN ?_ _) | (with_reducible refine Kd.C_drew ?_))); (case side2 => exact HC0.out); (case side3 => repeat (first | exact HR1.out | (with_reducible refine Kd.C_alloc ?_ _) | (with_reducible refine Kd.C_drewN ?_ _) | (with_reducible refine Kd.C_drew ?_))); (case side4 => exact HC1.out); rintro e w' ⟨rfl, ⟨nd, rfl⟩⟩; (try first | exact ⟨rfl, _, World.drewN_drewN _ _ _⟩ | exact ⟨rfl, _, Eq.trans (World.drewN_drewN _ _ _) (congrArg (World.drewN _) (Nat.add_assoc _ _ _))⟩)))
  repeat (go_quiet (first | (go_at_call 22; (with_reducible refine (laws_a2Long.calls _ _ l0 _ _ l1 true _ ?side1 ?side2 ?side3 ?side4 A3.out).mono ?_); (case side1 => repeat (first | exact HR0.out | (with_reducible refine Kd.C_alloc ?_ _) | (with_reducible refine Kd.C_drewN ?_ _) | (with_reducible refine Kd.C_drew ?_))); (case side2 => exact HC0.out); (case side3 => repeat (first | exact HR1.out | (with_reducible refine Kd.C_alloc ?_ _) | (with_reducible refine Kd.C_drewN ?_ _) | (with_reducible refine Kd.C_drew ?_))); (case side4 => exact HC1.out); rintro e w' ⟨rfl, ⟨nd, rfl⟩⟩; (try first | exact ⟨rfl, _, World.drewN_drewN _ _ _⟩ | exact ⟨rfl, _, Eq.trans (World.drewN_drewN _ _ _) (congrArg (World.drewN _) (Nat.add_assoc _ _ _))⟩))); try go_wp2_with (first | (go_at_call 22; (with_reducible refine (laws_a2Long.calls _ _ l0 _ _ l1 true _ ?side1 ?side2 ?side3 ?side4 A3.out).mono ?_); (case side1 => repeat (first | exact HR0.out | (with_reducible refine Kd.C_alloc ?_ _) | (with_reducible refine Kd.C_drewN ?_ _) | (with_reducible refine Kd.C_drew ?_))); (case side2 => exact HC0.out); (case side3 => repeat (first | exact HR1.out | (with_reducible refine Kd.C_alloc ?_ _) | (with_reducible refine Kd.C_drewN ?_ _) | (with_reducible refine Kd.C_drew ?_))); (case side4 => exact HC1.out); rintro e w' ⟨rfl, ⟨nd, rfl⟩⟩; (try first | exact ⟨rfl, _, World.drewN_drewN _ _ _⟩ | exact ⟨rfl, _, Eq.trans (World.drewN_drewN _ _ _) (congrArg (World.drewN _) (Nat.add_assoc _ _ _))⟩))))
  go_ret
  exact ⟨z10_16_, z10_13_⟩
 ·
  replace c4 := Bool.eq_false_iff.mpr c4
  subst c4
  have H1 := H; rw [if_neg (show ¬ (false = true) by decide)] at H1
  clear H
  have H := H1
  clear H1
  replace H := Option.bind_eq_some_iff.mp H
  obtain ⟨⟨t408, t409, t410, t411⟩, A50, H⟩ := H
  try dsimp only at H
  have A5 := A_ A50
  clear A50
  replace H := Option.bind_eq_some_iff.mp H
  obtain ⟨⟨t413, t416⟩, A60, H⟩ := H
  try dsimp only at H
  have A6 := A_ A60
  clear A60
  replace H := Option.bind_eq_some_iff.mp H
  obtain ⟨t420, A70, H⟩ := H
  try dsimp only at H
  have A7 := A_ A70
  clear A70
  replace H := Option.bind_eq_some_iff.mp H
  obtain ⟨⟨t421, t424⟩, A80, H⟩ := H
  try dsimp only at H
  have A8 := A_ A80
  clear A80
  replace H := Option.bind_eq_some_iff.mp H
  obtain ⟨⟨t425, t428⟩, A90, H⟩ := H
  try dsimp only at H
  have A9 := A_ A90
  clear A90
  have HC10 := A_ H
  clear H
  go_enter Try.func5, Try.ntmps5
  go_upto_region 8 with (first | (go_at_call 22; (with_reducible refine (laws_a2Long.calls _ _ l0 _ _ l1 false _ ?side1 ?side2 ?side3 ?side4 A3.out).mono ?_); (case side1 => repeat (first | exact HR0.out | (with_reducible refine Kd.C_alloc ?_ _) | (with_reducible refine Kd.C_drewN ?_ _) | (with_reducible refine Kd.C_drew ?_))); (case side2 => exact HC0.out); (case side3 => repeat (first | exact HR1.out | (with_reducible refine Kd.C_alloc ?_ _) | (with_reducible refine Kd.C_drewN ?_ _) | (with_reducible refine Kd.C_drew ?_))); (case side4 => exact HC1.out); rintro e w' ⟨rfl, ⟨nd, rfl⟩⟩; (try first | exact ⟨rfl, _, World.drewN_drewN _ _ _⟩ | exact ⟨rfl, _, Eq.trans (World.drewN_drewN _ _ _) (congrArg (World.drewN _) (Nat.add_assoc _ _ _))⟩)) | (go_at_call 23; (with_reducible refine (spec_A2Machine.calls k _ _ l0 t408 t409 t410 t411 _ ?side1 ?side2 A5.out).mono ?_); (case side1 => repeat (first | exact HR0.out | (with_reducible refine Kd.C_alloc ?_ _) | (with_reducible refine Kd.C_drewN ?_ _) | (with_reducible refine Kd.C_drew ?_))); (case side2 => exact HC0.out); rintro e w11 ⟨rfl, hb⟩; have _ := A_ (below_step z10_13_ hb); clear HB; rename_i HB; (try clear hb)) | ((with_reducible refine gate_dst (N := 5) rfl ?_); (try (refine gate_guard (by rfl) ?_; dsimp only)); refine box_event ?hg (N := 5) ?hd (cs := #[.int .i64 0, .int .i64 0, .int .i64 0, .int .i64 0]) (t := 31) ?hr ?_; (case hd => rfl); (case hg => rfl); (case hr => first | (go_simp; done) | (go_simp; rfl)); intro gb412 hg w12 hbox hb; have _ := A_ (below_step z10_13_ hb); have _ := A_ (hbox); have _ := A_ ((by rw [hg]; exact (below_size z10_13_) : w.heap.size ≤ gb412)); have _ := A_ ((by rw [hg]; exact (below_size z10_13_) : w.heap.size ≤ gb412)); clear HB; rename_i HB BK412 GW412 GE412; clear hb hbox hg; obtain ⟨hcz13_0, hcz13_1, hcz13_2, hcz13_3⟩ := bc4 BK412.out; obtain ⟨hfz13_0, hfz13_1, hfz13_2, hfz13_3⟩ := bf4 BK412.out) | (go_at_call 24; (with_reducible refine (spec_A2Stream.calls k _ _ l1 t413 t416 _ ?side1 ?side2 A6.out).mono ?_); (case side1 => exact Kd.C_below HR1.out z10_6_); (case side2 => exact HC1.out); rintro e w14 ⟨v414, v417, rfl, ho0, ho1, hb⟩; have _ := A_ (Kd.R_lower ho0 (below_size z10_6_)); have _ := A_ (Kd.R_lower ho1 (below_size z10_6_)); have _ := A_ (blk_below (g := gb412) (o := .cells #[.int .i64 t408, .int .i64 t409, .int .i64 t410, .int .i64 t411] 31 (0, 0)) z10_10_ hb); have _ := A_ (below_step z10_6_ hb); clear BK412 HB; rename_i HO415 HO418 BK412 HB; (try clear hb); (try clear ho0); (try clear ho1)) | ((with_reducible refine gate_dst (N := 6) rfl ?_); (try (refine gate_guard (by rfl) ?_; dsimp only)); refine box_event ?hg (N := 6) ?hd (cs := #[.slice none 0 0, .slice none 0 0]) (t := 33) ?hr ?_; (case hd => rfl); (case hg => rfl); (case hr => first | (go_simp; done) | (go_simp; rfl)); intro gb419 hg w15 hbox hb; have _ := A_ (Kd.R_below z10_19_ hb); have _ := A_ (Kd.R_below z10_18_ hb); have _ := A_ (blk_below (g := gb412) (o := .cells #[.int .i64 t408, .int .i64 t409, .int .i64 t410, .int .i64 t411] 31 (0, 0)) z10_2_ hb); have _ := A_ (below_step z10_6_ hb); have _ := A_ (hbox); have _ := A_ ((by rw [hg]; exact (below_size z10_6_) : w.heap.size ≤ gb419)); have _ := A_ ((by rw [hg]; exact (below_size z10_6_) : w.heap.size ≤ gb419)); have _ := A_ ((by rw [hg]; exact Nat.ne_of_lt (blk_lt (g := gb412) (o := .cells #[.int .i64 t408, .int .i64 t409, .int .i64 t410, .int .i64 t411] 31 (0, 0)) z10_2_) : gb412 ≠ gb419)); have _ := A_ ((by rw [hg]; exact Nat.ne_of_gt (blk_lt (g := gb412) (o := .cells #[.int .i64 t408, .int .i64 t409, .int .i64 t410, .int .i64 t411] 31 (0, 0)) z10_2_) : gb419 ≠ gb412)); clear HO415 HO418 BK412 HB; rename_i HO415 HO418 BK412 HB BK419 GW419 GE419 NB412_419 NB419_412; clear hb hbox hg; obtain ⟨Ao16, co16, eo16⟩ := Kd.R_slice HO415.out; subst eo16; have hnb17 := NB419_412.out; have hnc17 := NB412_419.out; obtain ⟨hcz18_0, hcz18_1⟩ := bc2 BK419.out; obtain ⟨hfz18_0, hfz18_1⟩ := bf2 BK419.out; obtain ⟨Ao19, co19, eo19⟩ := Kd.R_slice HO418.out; subst eo19) | (go_at_call 25; (with_reducible refine (laws_a2At.calls _ _ l0 0 12 t420 _ ?side1 ?side2 A7.out).mono ?_); (case side1 => exact Kd.C_below HR0.out z10_1_); (case side2 => exact HC0.out); rintro e w' ⟨rfl, ⟨nd, rfl⟩⟩; (try first | exact ⟨rfl, _, World.drewN_drewN _ _ _⟩ | exact ⟨rfl, _, Eq.trans (World.drewN_drewN _ _ _) (congrArg (World.drewN _) (Nat.add_assoc _ _ _))⟩); obtain ⟨hcz20_0, hcz20_1, hcz20_2, hcz20_3⟩ := bc4 BK412.out; obtain ⟨hfz20_0, hfz20_1, hfz20_2, hfz20_3⟩ := bf4 BK412.out) | (go_at_call 11; (with_reducible refine (impl_MoebiusTurns.calls k t408 t409 t410 t411 _ _ t413 _ _ t416 t420 t421 t424 _ ?side1 ?side2 ?side3 ?side4 A8.out).mono ?_); (case side1 => refine (Kd.R_reads' (e := 49) (base := w.heap.size) (ok := fun k_ => some k_ ≠ (.slice Ao19 t416.length co19 : Value).ownBlock) (n := t413.length) (c := co16) ?_).2.2; exact z10_12_); (case side2 => exact (Kd.R_reads' HO415.out).2.1); (case side3 => refine (Kd.R_reads' (e := 49) (base := w.heap.size) (ok := fun k_ => some k_ ≠ (.slice Ao16 t413.length co16 : Value).ownBlock) (n := t416.length) (c := co19) ?_).2.2; exact z10_11_); (case side4 => exact (Kd.R_reads' HO418.out).2.1); rintro e w21 ⟨v422, rfl, ho0, hb⟩; have _ := A_ (Kd.R_below z10_12_ hb); have _ := A_ (Kd.R_below z10_11_ hb); have _ := A_ (Kd.R_lower ho0 (below_size z10_1_)); have _ := A_ (blk_below (g := gb412) (o := .cells #[.int .i64 t408, .int .i64 t409, .int .i64 t410, .int .i64 t411] 31 (0, 0)) z10_17_ hb); have _ := A_ (blk_below (g := gb419) (o := .cells #[.slice Ao16 t413.length co16, .slice Ao19 t416.length co19] 33 (0, 0)) z10_15_ hb); have _ := A_ (below_step z10_1_ hb); clear HO415 HO418 BK412 BK419 HB; rename_i HO415 HO418 HO423 BK412 BK419 HB; (try clear hb); (try clear ho0); obtain ⟨hcz22_0, hcz22_1, hcz22_2, hcz22_3⟩ := bc4 BK412.out; obtain ⟨hfz22_0, hfz22_1, hfz22_2, hfz22_3⟩ := bf4 BK412.out; obtain ⟨hcz23_0, hcz23_1⟩ := bc2 BK419.out; obtain ⟨hfz23_0, hfz23_1⟩ := bf2 BK419.out) | (go_at_call 8; (with_reducible refine (spec_MoebiusTurns.calls k t408 t409 t410 t411 _ _ t413 _ _ t416 t420 t425 t428 _ ?side1 ?side2 ?side3 ?side4 A9.out).mono ?_); (case side1 => have hx_ := (Kd.R_reads' HO415.out).2.2; exact kc_); (case side2 => exact (Kd.R_reads' HO415.out).2.1); (case side3 => have hx_ := (Kd.R_reads' HO418.out).2.2; exact kc_); (case side4 => exact (Kd.R_reads' HO418.out).2.1); rintro e w24 ⟨v426, rfl, ho0, hb⟩; have _ := A_ (Kd.R_below z10_19_ hb); have _ := A_ (Kd.R_below z10_18_ hb); have _ := A_ (Kd.R_elder' z10_25_ (Kd.R_base ho0) hb); have _ := A_ (Kd.R_lower (Kd.R_new' ho0 (Kd.R_lt z10_25_)) (below_size z10_1_)); have _ := A_ (blk_below (g := gb412) (o := .cells #[.int .i64 t408, .int .i64 t409, .int .i64 t410, .int .i64 t411] 31 (0, 0)) z10_2_ hb); have _ := A_ (blk_below (g := gb419) (o := .cells #[.slice Ao16 t413.length co16, .slice Ao19 t416.length co19] 33 (0, 0)) z10_3_ hb); have _ := A_ (below_step z10_1_ hb); clear HO415 HO418 HO423 BK412 BK419 HB; rename_i HO415 HO418 HO423 HO427 BK412 BK419 HB; (try clear hb); (try clear ho0)))
  repeat (go_quiet (first | (go_at_call 22; (with_reducible refine (laws_a2Long.calls _ _ l0 _ _ l1 false _ ?side1 ?side2 ?side3 ?side4 A3.out).mono ?_); (case side1 => repeat (first | exact HR0.out | (with_reducible refine Kd.C_alloc ?_ _) | (with_reducible refine Kd.C_drewN ?_ _) | (with_reducible refine Kd.C_drew ?_))); (case side2 => exact HC0.out); (case side3 => repeat (first | exact HR1.out | (with_reducible refine Kd.C_alloc ?_ _) | (with_reducible refine Kd.C_drewN ?_ _) | (with_reducible refine Kd.C_drew ?_))); (case side4 => exact HC1.out); rintro e w' ⟨rfl, ⟨nd, rfl⟩⟩; (try first | exact ⟨rfl, _, World.drewN_drewN _ _ _⟩ | exact ⟨rfl, _, Eq.trans (World.drewN_drewN _ _ _) (congrArg (World.drewN _) (Nat.add_assoc _ _ _))⟩)) | (go_at_call 23; (with_reducible refine (spec_A2Machine.calls k _ _ l0 t408 t409 t410 t411 _ ?side1 ?side2 A5.out).mono ?_); (case side1 => repeat (first | exact HR0.out | (with_reducible refine Kd.C_alloc ?_ _) | (with_reducible refine Kd.C_drewN ?_ _) | (with_reducible refine Kd.C_drew ?_))); (case side2 => exact HC0.out); rintro e w11 ⟨rfl, hb⟩; have _ := A_ (below_step z10_13_ hb); clear HB; rename_i HB; (try clear hb)) | ((with_reducible refine gate_dst (N := 5) rfl ?_); (try (refine gate_guard (by rfl) ?_; dsimp only)); refine box_event ?hg (N := 5) ?hd (cs := #[.int .i64 0, .int .i64 0, .int .i64 0, .int .i64 0]) (t := 31) ?hr ?_; (case hd => rfl); (case hg => rfl); (case hr => first | (go_simp; done) | (go_simp; rfl)); intro gb412 hg w12 hbox hb; have _ := A_ (below_step z10_13_ hb); have _ := A_ (hbox); have _ := A_ ((by rw [hg]; exact (below_size z10_13_) : w.heap.size ≤ gb412)); have _ := A_ ((by rw [hg]; exact (below_size z10_13_) : w.heap.size ≤ gb412)); clear HB; rename_i HB BK412 GW412 GE412; clear hb hbox hg; obtain ⟨hcz13_0, hcz13_1, hcz13_2, hcz13_3⟩ := bc4 BK412.out; obtain ⟨hfz13_0, hfz13_1, hfz13_2, hfz13_3⟩ := bf4 BK412.out) | (go_at_call 24; (with_reducible refine (spec_A2Stream.calls k _ _ l1 t413 t416 _ ?side1 ?side2 A6.out).mono ?_); (case side1 => exact Kd.C_below HR1.out z10_6_); (case side2 => exact HC1.out); rintro e w14 ⟨v414, v417, rfl, ho0, ho1, hb⟩; have _ := A_ (Kd.R_lower ho0 (below_size z10_6_)); have _ := A_ (Kd.R_lower ho1 (below_size z10_6_)); have _ := A_ (blk_below (g := gb412) (o := .cells #[.int .i64 t408, .int .i64 t409, .int .i64 t410, .int .i64 t411] 31 (0, 0)) z10_10_ hb); have _ := A_ (below_step z10_6_ hb); clear BK412 HB; rename_i HO415 HO418 BK412 HB; (try clear hb); (try clear ho0); (try clear ho1)) | ((with_reducible refine gate_dst (N := 6) rfl ?_); (try (refine gate_guard (by rfl) ?_; dsimp only)); refine box_event ?hg (N := 6) ?hd (cs := #[.slice none 0 0, .slice none 0 0]) (t := 33) ?hr ?_; (case hd => rfl); (case hg => rfl); (case hr => first | (go_simp; done) | (go_simp; rfl)); intro gb419 hg w15 hbox hb; have _ := A_ (Kd.R_below z10_19_ hb); have _ := A_ (Kd.R_below z10_18_ hb); have _ := A_ (blk_below (g := gb412) (o := .cells #[.int .i64 t408, .int .i64 t409, .int .i64 t410, .int .i64 t411] 31 (0, 0)) z10_2_ hb); have _ := A_ (below_step z10_6_ hb); have _ := A_ (hbox); have _ := A_ ((by rw [hg]; exact (below_size z10_6_) : w.heap.size ≤ gb419)); have _ := A_ ((by rw [hg]; exact (below_size z10_6_) : w.heap.size ≤ gb419)); have _ := A_ ((by rw [hg]; exact Nat.ne_of_lt (blk_lt (g := gb412) (o := .cells #[.int .i64 t408, .int .i64 t409, .int .i64 t410, .int .i64 t411] 31 (0, 0)) z10_2_) : gb412 ≠ gb419)); have _ := A_ ((by rw [hg]; exact Nat.ne_of_gt (blk_lt (g := gb412) (o := .cells #[.int .i64 t408, .int .i64 t409, .int .i64 t410, .int .i64 t411] 31 (0, 0)) z10_2_) : gb419 ≠ gb412)); clear HO415 HO418 BK412 HB; rename_i HO415 HO418 BK412 HB BK419 GW419 GE419 NB412_419 NB419_412; clear hb hbox hg; obtain ⟨Ao16, co16, eo16⟩ := Kd.R_slice HO415.out; subst eo16; have hnb17 := NB419_412.out; have hnc17 := NB412_419.out; obtain ⟨hcz18_0, hcz18_1⟩ := bc2 BK419.out; obtain ⟨hfz18_0, hfz18_1⟩ := bf2 BK419.out; obtain ⟨Ao19, co19, eo19⟩ := Kd.R_slice HO418.out; subst eo19) | (go_at_call 25; (with_reducible refine (laws_a2At.calls _ _ l0 0 12 t420 _ ?side1 ?side2 A7.out).mono ?_); (case side1 => exact Kd.C_below HR0.out z10_1_); (case side2 => exact HC0.out); rintro e w' ⟨rfl, ⟨nd, rfl⟩⟩; (try first | exact ⟨rfl, _, World.drewN_drewN _ _ _⟩ | exact ⟨rfl, _, Eq.trans (World.drewN_drewN _ _ _) (congrArg (World.drewN _) (Nat.add_assoc _ _ _))⟩); obtain ⟨hcz20_0, hcz20_1, hcz20_2, hcz20_3⟩ := bc4 BK412.out; obtain ⟨hfz20_0, hfz20_1, hfz20_2, hfz20_3⟩ := bf4 BK412.out) | (go_at_call 11; (with_reducible refine (impl_MoebiusTurns.calls k t408 t409 t410 t411 _ _ t413 _ _ t416 t420 t421 t424 _ ?side1 ?side2 ?side3 ?side4 A8.out).mono ?_); (case side1 => refine (Kd.R_reads' (e := 49) (base := w.heap.size) (ok := fun k_ => some k_ ≠ (.slice Ao19 t416.length co19 : Value).ownBlock) (n := t413.length) (c := co16) ?_).2.2; exact z10_12_); (case side2 => exact (Kd.R_reads' HO415.out).2.1); (case side3 => refine (Kd.R_reads' (e := 49) (base := w.heap.size) (ok := fun k_ => some k_ ≠ (.slice Ao16 t413.length co16 : Value).ownBlock) (n := t416.length) (c := co19) ?_).2.2; exact z10_11_); (case side4 => exact (Kd.R_reads' HO418.out).2.1); rintro e w21 ⟨v422, rfl, ho0, hb⟩; have _ := A_ (Kd.R_below z10_12_ hb); have _ := A_ (Kd.R_below z10_11_ hb); have _ := A_ (Kd.R_lower ho0 (below_size z10_1_)); have _ := A_ (blk_below (g := gb412) (o := .cells #[.int .i64 t408, .int .i64 t409, .int .i64 t410, .int .i64 t411] 31 (0, 0)) z10_17_ hb); have _ := A_ (blk_below (g := gb419) (o := .cells #[.slice Ao16 t413.length co16, .slice Ao19 t416.length co19] 33 (0, 0)) z10_15_ hb); have _ := A_ (below_step z10_1_ hb); clear HO415 HO418 BK412 BK419 HB; rename_i HO415 HO418 HO423 BK412 BK419 HB; (try clear hb); (try clear ho0); obtain ⟨hcz22_0, hcz22_1, hcz22_2, hcz22_3⟩ := bc4 BK412.out; obtain ⟨hfz22_0, hfz22_1, hfz22_2, hfz22_3⟩ := bf4 BK412.out; obtain ⟨hcz23_0, hcz23_1⟩ := bc2 BK419.out; obtain ⟨hfz23_0, hfz23_1⟩ := bf2 BK419.out) | (go_at_call 8; (with_reducible refine (spec_MoebiusTurns.calls k t408 t409 t410 t411 _ _ t413 _ _ t416 t420 t425 t428 _ ?side1 ?side2 ?side3 ?side4 A9.out).mono ?_); (case side1 => have hx_ := (Kd.R_reads' HO415.out).2.2; exact kc_); (case side2 => exact (Kd.R_reads' HO415.out).2.1); (case side3 => have hx_ := (Kd.R_reads' HO418.out).2.2; exact kc_); (case side4 => exact (Kd.R_reads' HO418.out).2.1); rintro e w24 ⟨v426, rfl, ho0, hb⟩; have _ := A_ (Kd.R_below z10_19_ hb); have _ := A_ (Kd.R_below z10_18_ hb); have _ := A_ (Kd.R_elder' z10_25_ (Kd.R_base ho0) hb); have _ := A_ (Kd.R_lower (Kd.R_new' ho0 (Kd.R_lt z10_25_)) (below_size z10_1_)); have _ := A_ (blk_below (g := gb412) (o := .cells #[.int .i64 t408, .int .i64 t409, .int .i64 t410, .int .i64 t411] 31 (0, 0)) z10_2_ hb); have _ := A_ (blk_below (g := gb419) (o := .cells #[.slice Ao16 t413.length co16, .slice Ao19 t416.length co19] 33 (0, 0)) z10_3_ hb); have _ := A_ (below_step z10_1_ hb); clear HO415 HO418 HO423 BK412 BK419 HB; rename_i HO415 HO418 HO423 HO427 BK412 BK419 HB; (try clear hb); (try clear ho0))); go_upto_region 8 with (first | (go_at_call 22; (with_reducible refine (laws_a2Long.calls _ _ l0 _ _ l1 false _ ?side1 ?side2 ?side3 ?side4 A3.out).mono ?_); (case side1 => repeat (first | exact HR0.out | (with_reducible refine Kd.C_alloc ?_ _) | (with_reducible refine Kd.C_drewN ?_ _) | (with_reducible refine Kd.C_drew ?_))); (case side2 => exact HC0.out); (case side3 => repeat (first | exact HR1.out | (with_reducible refine Kd.C_alloc ?_ _) | (with_reducible refine Kd.C_drewN ?_ _) | (with_reducible refine Kd.C_drew ?_))); (case side4 => exact HC1.out); rintro e w' ⟨rfl, ⟨nd, rfl⟩⟩; (try first | exact ⟨rfl, _, World.drewN_drewN _ _ _⟩ | exact ⟨rfl, _, Eq.trans (World.drewN_drewN _ _ _) (congrArg (World.drewN _) (Nat.add_assoc _ _ _))⟩)) | (go_at_call 23; (with_reducible refine (spec_A2Machine.calls k _ _ l0 t408 t409 t410 t411 _ ?side1 ?side2 A5.out).mono ?_); (case side1 => repeat (first | exact HR0.out | (with_reducible refine Kd.C_alloc ?_ _) | (with_reducible refine Kd.C_drewN ?_ _) | (with_reducible refine Kd.C_drew ?_))); (case side2 => exact HC0.out); rintro e w11 ⟨rfl, hb⟩; have _ := A_ (below_step z10_13_ hb); clear HB; rename_i HB; (try clear hb)) | ((with_reducible refine gate_dst (N := 5) rfl ?_); (try (refine gate_guard (by rfl) ?_; dsimp only)); refine box_event ?hg (N := 5) ?hd (cs := #[.int .i64 0, .int .i64 0, .int .i64 0, .int .i64 0]) (t := 31) ?hr ?_; (case hd => rfl); (case hg => rfl); (case hr => first | (go_simp; done) | (go_simp; rfl)); intro gb412 hg w12 hbox hb; have _ := A_ (below_step z10_13_ hb); have _ := A_ (hbox); have _ := A_ ((by rw [hg]; exact (below_size z10_13_) : w.heap.size ≤ gb412)); have _ := A_ ((by rw [hg]; exact (below_size z10_13_) : w.heap.size ≤ gb412)); clear HB; rename_i HB BK412 GW412 GE412; clear hb hbox hg; obtain ⟨hcz13_0, hcz13_1, hcz13_2, hcz13_3⟩ := bc4 BK412.out; obtain ⟨hfz13_0, hfz13_1, hfz13_2, hfz13_3⟩ := bf4 BK412.out) | (go_at_call 24; (with_reducible refine (spec_A2Stream.calls k _ _ l1 t413 t416 _ ?side1 ?side2 A6.out).mono ?_); (case side1 => exact Kd.C_below HR1.out z10_6_); (case side2 => exact HC1.out); rintro e w14 ⟨v414, v417, rfl, ho0, ho1, hb⟩; have _ := A_ (Kd.R_lower ho0 (below_size z10_6_)); have _ := A_ (Kd.R_lower ho1 (below_size z10_6_)); have _ := A_ (blk_below (g := gb412) (o := .cells #[.int .i64 t408, .int .i64 t409, .int .i64 t410, .int .i64 t411] 31 (0, 0)) z10_10_ hb); have _ := A_ (below_step z10_6_ hb); clear BK412 HB; rename_i HO415 HO418 BK412 HB; (try clear hb); (try clear ho0); (try clear ho1)) | ((with_reducible refine gate_dst (N := 6) rfl ?_); (try (refine gate_guard (by rfl) ?_; dsimp only)); refine box_event ?hg (N := 6) ?hd (cs := #[.slice none 0 0, .slice none 0 0]) (t := 33) ?hr ?_; (case hd => rfl); (case hg => rfl); (case hr => first | (go_simp; done) | (go_simp; rfl)); intro gb419 hg w15 hbox hb; have _ := A_ (Kd.R_below z10_19_ hb); have _ := A_ (Kd.R_below z10_18_ hb); have _ := A_ (blk_below (g := gb412) (o := .cells #[.int .i64 t408, .int .i64 t409, .int .i64 t410, .int .i64 t411] 31 (0, 0)) z10_2_ hb); have _ := A_ (below_step z10_6_ hb); have _ := A_ (hbox); have _ := A_ ((by rw [hg]; exact (below_size z10_6_) : w.heap.size ≤ gb419)); have _ := A_ ((by rw [hg]; exact (below_size z10_6_) : w.heap.size ≤ gb419)); have _ := A_ ((by rw [hg]; exact Nat.ne_of_lt (blk_lt (g := gb412) (o := .cells #[.int .i64 t408, .int .i64 t409, .int .i64 t410, .int .i64 t411] 31 (0, 0)) z10_2_) : gb412 ≠ gb419)); have _ := A_ ((by rw [hg]; exact Nat.ne_of_gt (blk_lt (g := gb412) (o := .cells #[.int .i64 t408, .int .i64 t409, .int .i64 t410, .int .i64 t411] 31 (0, 0)) z10_2_) : gb419 ≠ gb412)); clear HO415 HO418 BK412 HB; rename_i HO415 HO418 BK412 HB BK419 GW419 GE419 NB412_419 NB419_412; clear hb hbox hg; obtain ⟨Ao16, co16, eo16⟩ := Kd.R_slice HO415.out; subst eo16; have hnb17 := NB419_412.out; have hnc17 := NB412_419.out; obtain ⟨hcz18_0, hcz18_1⟩ := bc2 BK419.out; obtain ⟨hfz18_0, hfz18_1⟩ := bf2 BK419.out; obtain ⟨Ao19, co19, eo19⟩ := Kd.R_slice HO418.out; subst eo19) | (go_at_call 25; (with_reducible refine (laws_a2At.calls _ _ l0 0 12 t420 _ ?side1 ?side2 A7.out).mono ?_); (case side1 => exact Kd.C_below HR0.out z10_1_); (case side2 => exact HC0.out); rintro e w' ⟨rfl, ⟨nd, rfl⟩⟩; (try first | exact ⟨rfl, _, World.drewN_drewN _ _ _⟩ | exact ⟨rfl, _, Eq.trans (World.drewN_drewN _ _ _) (congrArg (World.drewN _) (Nat.add_assoc _ _ _))⟩); obtain ⟨hcz20_0, hcz20_1, hcz20_2, hcz20_3⟩ := bc4 BK412.out; obtain ⟨hfz20_0, hfz20_1, hfz20_2, hfz20_3⟩ := bf4 BK412.out) | (go_at_call 11; (with_reducible refine (impl_MoebiusTurns.calls k t408 t409 t410 t411 _ _ t413 _ _ t416 t420 t421 t424 _ ?side1 ?side2 ?side3 ?side4 A8.out).mono ?_); (case side1 => refine (Kd.R_reads' (e := 49) (base := w.heap.size) (ok := fun k_ => some k_ ≠ (.slice Ao19 t416.length co19 : Value).ownBlock) (n := t413.length) (c := co16) ?_).2.2; exact z10_12_); (case side2 => exact (Kd.R_reads' HO415.out).2.1); (case side3 => refine (Kd.R_reads' (e := 49) (base := w.heap.size) (ok := fun k_ => some k_ ≠ (.slice Ao16 t413.length co16 : Value).ownBlock) (n := t416.length) (c := co19) ?_).2.2; exact z10_11_); (case side4 => exact (Kd.R_reads' HO418.out).2.1); rintro e w21 ⟨v422, rfl, ho0, hb⟩; have _ := A_ (Kd.R_below z10_12_ hb); have _ := A_ (Kd.R_below z10_11_ hb); have _ := A_ (Kd.R_lower ho0 (below_size z10_1_)); have _ := A_ (blk_below (g := gb412) (o := .cells #[.int .i64 t408, .int .i64 t409, .int .i64 t410, .int .i64 t411] 31 (0, 0)) z10_17_ hb); have _ := A_ (blk_below (g := gb419) (o := .cells #[.slice Ao16 t413.length co16, .slice Ao19 t416.length co19] 33 (0, 0)) z10_15_ hb); have _ := A_ (below_step z10_1_ hb); clear HO415 HO418 BK412 BK419 HB; rename_i HO415 HO418 HO423 BK412 BK419 HB; (try clear hb); (try clear ho0); obtain ⟨hcz22_0, hcz22_1, hcz22_2, hcz22_3⟩ := bc4 BK412.out; obtain ⟨hfz22_0, hfz22_1, hfz22_2, hfz22_3⟩ := bf4 BK412.out; obtain ⟨hcz23_0, hcz23_1⟩ := bc2 BK419.out; obtain ⟨hfz23_0, hfz23_1⟩ := bf2 BK419.out) | (go_at_call 8; (with_reducible refine (spec_MoebiusTurns.calls k t408 t409 t410 t411 _ _ t413 _ _ t416 t420 t425 t428 _ ?side1 ?side2 ?side3 ?side4 A9.out).mono ?_); (case side1 => have hx_ := (Kd.R_reads' HO415.out).2.2; exact kc_); (case side2 => exact (Kd.R_reads' HO415.out).2.1); (case side3 => have hx_ := (Kd.R_reads' HO418.out).2.2; exact kc_); (case side4 => exact (Kd.R_reads' HO418.out).2.1); rintro e w24 ⟨v426, rfl, ho0, hb⟩; have _ := A_ (Kd.R_below z10_19_ hb); have _ := A_ (Kd.R_below z10_18_ hb); have _ := A_ (Kd.R_elder' z10_25_ (Kd.R_base ho0) hb); have _ := A_ (Kd.R_lower (Kd.R_new' ho0 (Kd.R_lt z10_25_)) (below_size z10_1_)); have _ := A_ (blk_below (g := gb412) (o := .cells #[.int .i64 t408, .int .i64 t409, .int .i64 t410, .int .i64 t411] 31 (0, 0)) z10_2_ hb); have _ := A_ (blk_below (g := gb419) (o := .cells #[.slice Ao16 t413.length co16, .slice Ao19 t416.length co19] 33 (0, 0)) z10_3_ hb); have _ := A_ (below_step z10_1_ hb); clear HO415 HO418 HO423 BK412 BK419 HB; rename_i HO415 HO418 HO423 HO427 BK412 BK419 HB; (try clear hb); (try clear ho0))))
  (try simp only [Act.put, sA_, sB_, sC_])
  go_cut [58] (fun v58 wc => ∃ (kq : Nat) (x58_9 : Bool), v58 = .bool x58_9 ∧ Aside0 (laws_FnTurns.j0 kq t420 t421 t424 t425 x58_9 t408 t409 t410 t411 t413 t416 = some r) ∧ Aside0 (kq ≤ k) ∧ Aside0 (Kd.R k51 51 wc w.heap.size (fun k_ => some k_ ≠ (v426 : Value).ownBlock) v422 t421) ∧ Aside0 (Kd.R k51 51 wc w.heap.size (fun k_ => some k_ ≠ (v422 : Value).ownBlock) v426 t425) ∧ Aside0 (Kd.R (Kd.int .i8) 49 wc w.heap.size (fun k_ => some k_ ≠ ((.slice Ao19 t416.length co19) : Value).ownBlock) (.slice Ao16 t413.length co16) t413) ∧ Aside0 (Kd.R (Kd.int .i8) 49 wc w.heap.size (fun k_ => some k_ ≠ ((.slice Ao16 t413.length co16) : Value).ownBlock) (.slice Ao19 t416.length co19) t416) ∧ Aside0 (wc.heap[gb412]? = some (.cells #[.int .i64 t408, .int .i64 t409, .int .i64 t410, .int .i64 t411] 31 (0, 0))) ∧ Aside0 (wc.heap[gb419]? = some (.cells #[(.slice Ao16 t413.length co16), (.slice Ao19 t416.length co19)] 33 (0, 0))) ∧ Aside0 (Below w.heap.size w wc))
  case first =>
   have H := HC10.out
   clear HC10
   by_cases c25 : t424 = t428
   ·
    rw [if_pos c25] at H
    have c25b0 := beq_iff_eq.mpr c25
    have c25b1 := bne_eq_false_iff_eq.mpr c25
    clear c25
    (first | rw [c25b0] | (simp only [i64_w, i32_w]; rw [c25b0]) | skip)
    have H' := A_ H
    clear H
    obtain ⟨Ao26, co26, eo26⟩ := Kd.R_slice HO423.out
    subst eo26
    obtain ⟨Ao27, co27, eo27⟩ := Kd.R_slice HO427.out
    subst eo27
    go_wp2
    repeat (go_quiet (fail); try go_wp2)
    go_meet
    case rel => exact ⟨_, (((t421.length : Int) != (t425.length : Int))), z10_14_, H', ⟨(by first | omega | exact Nat.le_refl _)⟩, ⟨z10_28_⟩, ⟨z10_27_⟩, ⟨z10_19_⟩, ⟨z10_18_⟩, ⟨z10_2_⟩, ⟨z10_3_⟩, ⟨z10_1_⟩⟩
   ·
    rw [if_neg c25] at H
    have c25b0 : (t424 == t428) = false := beq_eq_false_iff_ne.mpr c25
    have c25b1 : (t424 != t428) = true := bne_iff_ne.mpr c25
    (first | rw [c25b0] | (simp only [i64_w, i32_w]; rw [c25b0]) | skip)
    have H' := A_ H
    clear H
    go_wp2
    repeat (go_quiet (fail); try go_wp2)
    go_meet
    case rel => exact ⟨_, (true), z10_14_, H', ⟨(by first | omega | exact Nat.le_refl _)⟩, ⟨z10_28_⟩, ⟨z10_27_⟩, ⟨z10_19_⟩, ⟨z10_18_⟩, ⟨z10_2_⟩, ⟨z10_3_⟩, ⟨z10_1_⟩⟩
  case rest =>
   clear HC10
   try clear c1
   try clear c2
   try clear p2
   try clear c4
   try clear c5
   try clear c17
   try clear c25
   try clear c25b0
   try clear c25b1
   try clear hcz13_0
   try clear hcz13_1
   try clear hcz13_2
   try clear hcz13_3
   try clear hcz18_0
   try clear hcz18_1
   try clear hcz20_0
   try clear hcz20_1
   try clear hcz20_2
   try clear hcz20_3
   try clear hcz22_0
   try clear hcz22_1
   try clear hcz22_2
   try clear hcz22_3
   try clear hcz23_0
   try clear hcz23_1
   try clear hfz13_0
   try clear hfz13_1
   try clear hfz13_2
   try clear hfz13_3
   try clear hfz18_0
   try clear hfz18_1
   try clear hfz20_0
   try clear hfz20_1
   try clear hfz20_2
   try clear hfz20_3
   try clear hfz22_0
   try clear hfz22_1
   try clear hfz22_2
   try clear hfz22_3
   try clear hfz23_0
   try clear hfz23_1
   obtain ⟨kq, x58_9, rfl, HA, HJ9, HO_8, HO_10, HO_420000, HO_420001, BK412, BK419, HB⟩ := hcut
   cases kq with
   | zero => exact absurd HA.out (by simp [laws_FnTurns.j0])
   | succ kj9 =>
    have H := HA.out
    clear HA
    simp only [laws_FnTurns.j0] at H
    by_cases c28 : x58_9 = true
    ·
     subst c28
     have H1 := H; rw [if_pos rfl] at H1
     clear H
     have H := H1
     clear H1
     obtain rfl := Option.some.inj H
     go_wp2
     repeat (go_quiet (fail); try go_wp2)
     go_ret
     exact ⟨z10_16_, z10_1_⟩
    ·
     replace c28 := Bool.eq_false_iff.mpr c28
     subst c28
     have H1 := H; rw [if_neg (show ¬ (false = true) by decide)] at H1
     clear H
     have H := H1
     clear H1
     obtain ⟨y429, hy429⟩ : ∃ y_ : List Int, y_ = (([] : List Int)) := ⟨_, rfl⟩
     replace H : (laws_FnTurns.l0 kj9 t420 t421 t424 t425 0 0 y429 0 t408 t409 t410 t411 t413 t416) = some r := by first | (rw [hy429]; with_reducible exact H) | (have H2_ := (Option.bind_some _ _).symm.trans H; rw [hy429]; with_reducible exact H2_) | (have H2_ := (Option.bind_some _ _).symm.trans H; with_reducible exact H2_) | with_reducible exact H | (rw [hy429]; exact H) | exact H
     have Ny429 := A_ hy429
     clear hy429
     have H' := A_ H
     clear H
     go_wp2_with (first | ((with_reducible refine gate_dst (N := 59) rfl ?_); (try (refine gate_guard (by rfl) ?_; dsimp only)); refine Kd.R_lit (Kd.int .i8) _ 49 ?hg (N := 59) ?hd (xs := ([] : List Int)) (inner := []) (ok := fun _ => True) (okp := fun _ => True) ?hr ?hp (fun _ hk => hk) trivial (Below.refl _ _) (Nat.le_refl _) (by simp) ?_; (case hd => rfl); (case hg => rfl); (case hr => first | (go_simp; done) | (go_simp; rfl)); (case hp => exact (Reps.none _ _)); intro v430 w29 ho30 hb hg_ hnew_; clear hg_ hnew_; (first | rw [← Ny429.out] at ho30 | (simp only [Int.reduceToNat] at ho30; rw [← Ny429.out] at ho30)); have _ := A_ (Kd.R_below z10_9_ hb); have _ := A_ (Kd.R_below z10_8_ hb); have _ := A_ (Kd.R_elder' z10_5_ (Kd.R_base ho30) hb); have _ := A_ (Kd.R_elder' z10_4_ (Kd.R_base ho30) hb); have _ := A_ (Kd.R_lower (Kd.R_new' (Kd.R_new' ho30 (Kd.R_lt z10_5_)) (Kd.R_lt z10_4_)) (below_size z10_1_)); have _ := A_ (blk_below (g := gb412) (o := .cells #[.int .i64 t408, .int .i64 t409, .int .i64 t410, .int .i64 t411] 31 (0, 0)) z10_2_ hb); have _ := A_ (blk_below (g := gb419) (o := .cells #[.slice Ao16 t413.length co16, .slice Ao19 t416.length co19] 33 (0, 0)) z10_3_ hb); have _ := A_ (below_step z10_1_ hb); clear HO_8 HO_10 HO_420000 HO_420001 BK412 BK419 HB; rename_i HO_8 HO_10 HO_420000 HO_420001 HO431 BK412 BK419 HB; clear hb ho30))
     repeat (go_quiet (first | ((with_reducible refine gate_dst (N := 59) rfl ?_); (try (refine gate_guard (by rfl) ?_; dsimp only)); refine Kd.R_lit (Kd.int .i8) _ 49 ?hg (N := 59) ?hd (xs := ([] : List Int)) (inner := []) (ok := fun _ => True) (okp := fun _ => True) ?hr ?hp (fun _ hk => hk) trivial (Below.refl _ _) (Nat.le_refl _) (by simp) ?_; (case hd => rfl); (case hg => rfl); (case hr => first | (go_simp; done) | (go_simp; rfl)); (case hp => exact (Reps.none _ _)); intro v430 w29 ho30 hb hg_ hnew_; clear hg_ hnew_; (first | rw [← Ny429.out] at ho30 | (simp only [Int.reduceToNat] at ho30; rw [← Ny429.out] at ho30)); have _ := A_ (Kd.R_below z10_9_ hb); have _ := A_ (Kd.R_below z10_8_ hb); have _ := A_ (Kd.R_elder' z10_5_ (Kd.R_base ho30) hb); have _ := A_ (Kd.R_elder' z10_4_ (Kd.R_base ho30) hb); have _ := A_ (Kd.R_lower (Kd.R_new' (Kd.R_new' ho30 (Kd.R_lt z10_5_)) (Kd.R_lt z10_4_)) (below_size z10_1_)); have _ := A_ (blk_below (g := gb412) (o := .cells #[.int .i64 t408, .int .i64 t409, .int .i64 t410, .int .i64 t411] 31 (0, 0)) z10_2_ hb); have _ := A_ (blk_below (g := gb419) (o := .cells #[.slice Ao16 t413.length co16, .slice Ao19 t416.length co19] 33 (0, 0)) z10_3_ hb); have _ := A_ (below_step z10_1_ hb); clear HO_8 HO_10 HO_420000 HO_420001 BK412 BK419 HB; rename_i HO_8 HO_10 HO_420000 HO_420001 HO431 BK412 BK419 HB; clear hb ho30)); try go_wp2_with (first | ((with_reducible refine gate_dst (N := 59) rfl ?_); (try (refine gate_guard (by rfl) ?_; dsimp only)); refine Kd.R_lit (Kd.int .i8) _ 49 ?hg (N := 59) ?hd (xs := ([] : List Int)) (inner := []) (ok := fun _ => True) (okp := fun _ => True) ?hr ?hp (fun _ hk => hk) trivial (Below.refl _ _) (Nat.le_refl _) (by simp) ?_; (case hd => rfl); (case hg => rfl); (case hr => first | (go_simp; done) | (go_simp; rfl)); (case hp => exact (Reps.none _ _)); intro v430 w29 ho30 hb hg_ hnew_; clear hg_ hnew_; (first | rw [← Ny429.out] at ho30 | (simp only [Int.reduceToNat] at ho30; rw [← Ny429.out] at ho30)); have _ := A_ (Kd.R_below z10_9_ hb); have _ := A_ (Kd.R_below z10_8_ hb); have _ := A_ (Kd.R_elder' z10_5_ (Kd.R_base ho30) hb); have _ := A_ (Kd.R_elder' z10_4_ (Kd.R_base ho30) hb); have _ := A_ (Kd.R_lower (Kd.R_new' (Kd.R_new' ho30 (Kd.R_lt z10_5_)) (Kd.R_lt z10_4_)) (below_size z10_1_)); have _ := A_ (blk_below (g := gb412) (o := .cells #[.int .i64 t408, .int .i64 t409, .int .i64 t410, .int .i64 t411] 31 (0, 0)) z10_2_ hb); have _ := A_ (blk_below (g := gb419) (o := .cells #[.slice Ao16 t413.length co16, .slice Ao19 t416.length co19] 33 (0, 0)) z10_3_ hb); have _ := A_ (below_step z10_1_ hb); clear HO_8 HO_10 HO_420000 HO_420001 BK412 BK419 HB; rename_i HO_8 HO_10 HO_420000 HO_420001 HO431 BK412 BK419 HB; clear hb ho30)))
     go_loopg [12, 13, 14, 15] kj9 (fun kq v12 v13 v14 v15 w' => ∃ (x12_2 : Int) (x13_2 : Int) (x14_2 : List Int) (x15_2 : Int), v12 = .int .i64 x12_2 ∧ v13 = .int .i64 x13_2 ∧ v15 = .int .i64 x15_2 ∧ Aside0 (laws_FnTurns.l0 kq t420 t421 t424 t425 x12_2 x13_2 x14_2 x15_2 t408 t409 t410 t411 t413 t416 = some r) ∧ Aside0 (kq ≤ kj9) ∧ Aside0 (Kd.R k51 51 w' w.heap.size (fun k_ => some k_ ≠ (v426 : Value).ownBlock) v422 t421) ∧ Aside0 (Kd.R k51 51 w' w.heap.size (fun k_ => some k_ ≠ (v422 : Value).ownBlock) v426 t425) ∧ Aside0 (Kd.R (Kd.int .i8) 49 w' w.heap.size (fun k_ => some k_ ≠ ((.slice Ao16 t413.length co16) : Value).ownBlock ∧ some k_ ≠ ((.slice Ao19 t416.length co19) : Value).ownBlock) v14 x14_2) ∧ Aside0 (Kd.R (Kd.int .i8) 49 w' w.heap.size (fun k_ => some k_ ≠ (v14 : Value).ownBlock ∧ some k_ ≠ ((.slice Ao19 t416.length co19) : Value).ownBlock) (.slice Ao16 t413.length co16) t413) ∧ Aside0 (Kd.R (Kd.int .i8) 49 w' w.heap.size (fun k_ => some k_ ≠ (v14 : Value).ownBlock ∧ some k_ ≠ ((.slice Ao16 t413.length co16) : Value).ownBlock) (.slice Ao19 t416.length co19) t416) ∧ Aside0 (w'.heap[gb412]? = some (.cells #[.int .i64 t408, .int .i64 t409, .int .i64 t410, .int .i64 t411] 31 (0, 0))) ∧ Aside0 (w'.heap[gb419]? = some (.cells #[(.slice Ao16 t413.length co16), (.slice Ao19 t416.length co19)] 33 (0, 0))) ∧ Aside0 (Below w.heap.size w w'))
     case atStart => exact ⟨(0), (0), (y429), (0), z10_14_, z10_14_, z10_14_, H', ⟨Nat.le_refl _⟩, ⟨z10_9_⟩, ⟨z10_8_⟩, ⟨(by (with_reducible repeat (first | apply Kd.R_alloc | apply Kd.R_drewN | apply Kd.R_drew)); exact Kd.R_mono HO431.out (fun _ hk => ⟨hk.1.2, hk.2⟩))⟩, ⟨z10_23_⟩, ⟨z10_22_⟩, ⟨z10_2_⟩, ⟨z10_3_⟩, ⟨z10_1_⟩⟩
     case round =>
      clear H'
      try clear c1
      try clear c2
      try clear p2
      try clear c4
      try clear c5
      try clear c17
      try clear c25
      try clear c25b0
      try clear c25b1
      try clear c28
      try clear hcz13_0
      try clear hcz13_1
      try clear hcz13_2
      try clear hcz13_3
      try clear hcz18_0
      try clear hcz18_1
      try clear hcz20_0
      try clear hcz20_1
      try clear hcz20_2
      try clear hcz20_3
      try clear hcz22_0
      try clear hcz22_1
      try clear hcz22_2
      try clear hcz22_3
      try clear hcz23_0
      try clear hcz23_1
      try clear hfz13_0
      try clear hfz13_1
      try clear hfz13_2
      try clear hfz13_3
      try clear hfz18_0
      try clear hfz18_1
      try clear hfz20_0
      try clear hfz20_1
      try clear hfz20_2
      try clear hfz20_3
      try clear hfz22_0
      try clear hfz22_1
      try clear hfz22_2
      try clear hfz22_3
      try clear hfz23_0
      try clear hfz23_1
      try clear p2
      obtain ⟨x12_2, x13_2, x14_2, x15_2, rfl, rfl, rfl, HA, HK2, HO_8, HO_10, HO_14, HO_420000, HO_420001, BK412, BK419, HB⟩ := hrel
      cases gk with
      | zero => exact absurd HA.out (by simp [laws_FnTurns.l0])
      | succ k2 =>
       have H := HA.out
       clear HA
       simp only [laws_FnTurns.l0] at H
       by_cases c31 : x15_2 < (t425.length : Int)
       ·
        rw [if_pos c31] at H
        have c31b0 := decide_eq_true c31
        clear c31
        by_cases c32 : 0 ≤ x15_2
        ·
         rw [if_pos c32] at H
         have c32b0 := decide_eq_true c32
         clear c32
         by_cases c33 : x15_2 < (t421.length : Int)
         ·
          rw [if_pos c33] at H
          have c33b0 := decide_eq_true c33
          clear c33
          by_cases c34 : (!(((rd_T51 t421 x15_2).f0) == ((rd_T51 t425 x15_2).f0)) || (!(((rd_T51 t421 x15_2).f1) == ((rd_T51 t425 x15_2).f1)) || ((!(((rd_T51 t421 x15_2).f2.f0) == ((rd_T51 t425 x15_2).f2.f0)) || (!(((rd_T51 t421 x15_2).f2.f1) == ((rd_T51 t425 x15_2).f2.f1)) || (!(((rd_T51 t421 x15_2).f2.f2) == ((rd_T51 t425 x15_2).f2.f2)) || (!(((rd_T51 t421 x15_2).f2.f3) == ((rd_T51 t425 x15_2).f2.f3))))))))) = true
          ·
           rw [if_pos c34] at H
           have c34b0 : (!(((rd_T51 t421 x15_2).f0) == ((rd_T51 t425 x15_2).f0)) || (!(((rd_T51 t421 x15_2).f1) == ((rd_T51 t425 x15_2).f1)) || ((!(((rd_T51 t421 x15_2).f2.f0) == ((rd_T51 t425 x15_2).f2.f0)) || (!(((rd_T51 t421 x15_2).f2.f1) == ((rd_T51 t425 x15_2).f2.f1)) || (!(((rd_T51 t421 x15_2).f2.f2) == ((rd_T51 t425 x15_2).f2.f2)) || (!(((rd_T51 t421 x15_2).f2.f3) == ((rd_T51 t425 x15_2).f2.f3))))))))) = true := c34
           clear c34
           obtain rfl := Option.some.inj H
           obtain ⟨Ao35, co35, eo35⟩ := Kd.R_slice HO_10.out
           subst eo35
           obtain ⟨Ao36, co36, eo36⟩ := Kd.R_slice HO_8.out
           subst eo36
           have p432 : 0 ≤ (x15_2 : Int) := of_decide_eq_true (by assumption)
           have q432 : x15_2 < (t421.length : Int) := of_decide_eq_true (by assumption)
           obtain ⟨ad432, e432, hx432_0, hx432_1, hx432_2, hx432_3, hx432_4, hx432_5⟩ := at_T51 (Kd.R_reads' HO_8.out).2.2 x15_2 p432 q432
           cases e432
           replace p432 := eq_true p432
           replace q432 := eq_true q432
           have p433 : 0 ≤ (x15_2 : Int) := of_decide_eq_true (by assumption)
           have q433 : x15_2 < (t425.length : Int) := of_decide_eq_true (by assumption)
           obtain ⟨ad433, e433, hx433_0, hx433_1, hx433_2, hx433_3, hx433_4, hx433_5⟩ := at_T51 (Kd.R_reads' HO_10.out).2.2 x15_2 p433 q433
           cases e433
           replace p433 := eq_true p433
           replace q433 := eq_true q433
           go_wp2
           repeat (go_quiet (fail); try go_wp2)
           go_ret
           exact ⟨z10_16_, z10_1_⟩
          ·
           rw [if_neg c34] at H
           have c34b0 : (!(((rd_T51 t421 x15_2).f0) == ((rd_T51 t425 x15_2).f0)) || (!(((rd_T51 t421 x15_2).f1) == ((rd_T51 t425 x15_2).f1)) || ((!(((rd_T51 t421 x15_2).f2.f0) == ((rd_T51 t425 x15_2).f2.f0)) || (!(((rd_T51 t421 x15_2).f2.f1) == ((rd_T51 t425 x15_2).f2.f1)) || (!(((rd_T51 t421 x15_2).f2.f2) == ((rd_T51 t425 x15_2).f2.f2)) || (!(((rd_T51 t421 x15_2).f2.f3) == ((rd_T51 t425 x15_2).f2.f3))))))))) = false := by simpa using c34
           clear c34
           obtain ⟨bq37, hbq37⟩ : ∃ b_ : Bool, b_ = ((rd_T51 t425 x15_2).f0) := ⟨_, rfl⟩
           (try rw [← hbq37] at c34b0)
           replace H : (if bq37 = true then (if x14_2.length < 140737488355328 then (laws_FnTurns.l0 k2 t420 t421 t424 t425 (wrap64 (x12_2 + 1)) x13_2 (x14_2 ++ [(rd_T51 t425 x15_2).f1]) (wrap64 (x15_2 + 1)) t408 t409 t410 t411 t413 t416) else (none)) else ((impl_DigitAt.f t413 t416 x13_2).bind fun bt439 => (if bt439.2 = 0 then (if bt439.1 = ((rd_T51 t425 x15_2).f1) then (laws_FnTurns.l0 k2 t420 t421 t424 t425 x12_2 (wrap64 (x13_2 + 1)) x14_2 (wrap64 (x15_2 + 1)) t408 t409 t410 t411 t413 t416) else (some false)) else (some false)))) = some r := by rw [← hbq37] at H; exact H
           have Nbq37 := A_ hbq37
           clear hbq37
           by_cases c38 : bq37 = true
           ·
            subst c38
            (try simp only [beq_true, beq_false, Bool.not_not] at c34b0)
            have H1 := H; rw [if_pos rfl] at H1
            clear H
            have H := H1
            clear H1
            by_cases c39 : x14_2.length < 140737488355328
            ·
             rw [if_pos c39] at H
             have LMc39 := A_ c39
             clear c39
             obtain ⟨y436, hy436⟩ : ∃ y_ : List Int, y_ = (x14_2 ++ [(rd_T51 t425 x15_2).f1]) := ⟨_, rfl⟩
             replace H : (laws_FnTurns.l0 k2 t420 t421 t424 t425 (wrap64 (x12_2 + 1)) x13_2 y436 (wrap64 (x15_2 + 1)) t408 t409 t410 t411 t413 t416) = some r := by first | (rw [hy436]; with_reducible exact H) | (have H2_ := (Option.bind_some _ _).symm.trans H; rw [hy436]; with_reducible exact H2_) | (have H2_ := (Option.bind_some _ _).symm.trans H; with_reducible exact H2_) | with_reducible exact H | (rw [hy436]; exact H) | exact H
             have Ny436 := A_ hy436
             clear hy436
             have H' := A_ H
             clear H
             obtain ⟨Ao40, co40, eo40⟩ := Kd.R_slice HO_10.out
             subst eo40
             obtain ⟨Ao41, co41, eo41⟩ := Kd.R_slice HO_8.out
             subst eo41
             have p432 : 0 ≤ (x15_2 : Int) := of_decide_eq_true (by assumption)
             have q432 : x15_2 < (t421.length : Int) := of_decide_eq_true (by assumption)
             obtain ⟨ad432, e432, hx432_0, hx432_1, hx432_2, hx432_3, hx432_4, hx432_5⟩ := at_T51 (Kd.R_reads' HO_8.out).2.2 x15_2 p432 q432
             (try rw [← Nbq37.out] at hx432_0)
             cases e432
             replace p432 := eq_true p432
             replace q432 := eq_true q432
             have p433 : 0 ≤ (x15_2 : Int) := of_decide_eq_true (by assumption)
             have q433 : x15_2 < (t425.length : Int) := of_decide_eq_true (by assumption)
             obtain ⟨ad433, e433, hx433_0, hx433_1, hx433_2, hx433_3, hx433_4, hx433_5⟩ := at_T51 (Kd.R_reads' HO_10.out).2.2 x15_2 p433 q433
             (try rw [← Nbq37.out] at hx433_0)
             cases e433
             replace p433 := eq_true p433
             replace q433 := eq_true q433
             have p434 : 0 ≤ (x15_2 : Int) := of_decide_eq_true (by assumption)
             have q434 : x15_2 < (t425.length : Int) := of_decide_eq_true (by assumption)
             obtain ⟨ad434, e434, hx434_0, hx434_1, hx434_2, hx434_3, hx434_4, hx434_5⟩ := at_T51 (Kd.R_reads' HO_10.out).2.2 x15_2 p434 q434
             (try rw [← Nbq37.out] at hx434_0)
             obtain rfl : ad433 = ad434 := (by injection e434)
             replace p434 := eq_true p434
             replace q434 := eq_true q434
             have p435 : 0 ≤ (x15_2 : Int) := of_decide_eq_true (by assumption)
             have q435 : x15_2 < (t425.length : Int) := of_decide_eq_true (by assumption)
             obtain ⟨ad435, e435, hx435_0, hx435_1, hx435_2, hx435_3, hx435_4, hx435_5⟩ := at_T51 (Kd.R_reads' HO_10.out).2.2 x15_2 p435 q435
             (try rw [← Nbq37.out] at hx435_0)
             obtain rfl : ad433 = ad435 := (by injection e435)
             replace p435 := eq_true p435
             replace q435 := eq_true q435
             go_wp2_with (first | ((with_reducible refine gate_builtin (b := .append) (xs := #[.tmp 82, .tmp 88]) rfl ?_); (try (refine gate_guard (by rfl) ?_; dsimp only)); at_builtin; refine Kd.R_append (Kd.int .i8) (w0 := w) w.heap.size rfl (.tmp 82) (.tmp 88) 24 49 (.int .i8 0) 1 rfl Try.underlying24 info49 rfl (by decide) (by omega) u14 x14_2 ((rd_T51 t425 x15_2).f1) [.int .i8 ((rd_T51 t425 x15_2).f1)] (fun k_ => some k_ ≠ (.slice Ao16 t413.length co16 : Value).ownBlock ∧ some k_ ≠ (.slice Ao19 t416.length co19 : Value).ownBlock) (fun _ => False) rfl rfl ?aP (fun _ hk => hk.elim) ?aF ?aO ?aB ?aS ?aL ?_; (case aP => exact rfl); (case aB => exact z10_1_); (case aF => exact (fun k_ hk => ⟨Kd.fresh' (Kd.R_lt z10_5_) k_ hk, Kd.fresh' (Kd.R_lt z10_4_) k_ hk⟩)); (case aO => exact z10_7_); (case aS => exact (below_size z10_1_)); (case aL => have := LMc39.out; omega); intro v437 w42 ho hb hg hat; rw [← Ny436.out] at ho; have _ := A_ (Kd.R_over' z10_9_ (Kd.R_typed z10_7_) (by decide) hg); have _ := A_ (Kd.R_over' z10_8_ (Kd.R_typed z10_7_) (by decide) hg); have _ := A_ (Kd.R_after (ok := (fun k_ => some k_ ≠ (.slice Ao19 t416.length co19 : Value).ownBlock)) z10_23_ hg hat); have _ := A_ (Kd.R_after (ok := (fun k_ => some k_ ≠ (.slice Ao16 t413.length co16 : Value).ownBlock)) z10_22_ hg hat); have _ := A_ (blk_grown (g := gb412) (o := .cells #[.int .i64 t408, .int .i64 t409, .int .i64 t410, .int .i64 t411] 31 (0, 0)) z10_2_ hg (Kd.R_ne HO_14.out BK412.out (by decide))); have _ := A_ (blk_grown (g := gb419) (o := .cells #[.slice Ao16 t413.length co16, .slice Ao19 t416.length co19] 33 (0, 0)) z10_3_ hg (Kd.R_ne HO_14.out BK419.out (by decide))); have _ := A_ (hb); have _ := A_ (ho); clear HO_8 HO_10 HO_420000 HO_420001 BK412 BK419 HB HO_14; rename_i HO_8 HO_10 HO_420000 HO_420001 BK412 BK419 HB HO438; clear ho hb hg hat))
             repeat (go_quiet (first | ((with_reducible refine gate_builtin (b := .append) (xs := #[.tmp 82, .tmp 88]) rfl ?_); (try (refine gate_guard (by rfl) ?_; dsimp only)); at_builtin; refine Kd.R_append (Kd.int .i8) (w0 := w) w.heap.size rfl (.tmp 82) (.tmp 88) 24 49 (.int .i8 0) 1 rfl Try.underlying24 info49 rfl (by decide) (by omega) u14 x14_2 ((rd_T51 t425 x15_2).f1) [.int .i8 ((rd_T51 t425 x15_2).f1)] (fun k_ => some k_ ≠ (.slice Ao16 t413.length co16 : Value).ownBlock ∧ some k_ ≠ (.slice Ao19 t416.length co19 : Value).ownBlock) (fun _ => False) rfl rfl ?aP (fun _ hk => hk.elim) ?aF ?aO ?aB ?aS ?aL ?_; (case aP => exact rfl); (case aB => exact z10_1_); (case aF => exact (fun k_ hk => ⟨Kd.fresh' (Kd.R_lt z10_5_) k_ hk, Kd.fresh' (Kd.R_lt z10_4_) k_ hk⟩)); (case aO => exact z10_7_); (case aS => exact (below_size z10_1_)); (case aL => have := LMc39.out; omega); intro v437 w42 ho hb hg hat; rw [← Ny436.out] at ho; have _ := A_ (Kd.R_over' z10_9_ (Kd.R_typed z10_7_) (by decide) hg); have _ := A_ (Kd.R_over' z10_8_ (Kd.R_typed z10_7_) (by decide) hg); have _ := A_ (Kd.R_after (ok := (fun k_ => some k_ ≠ (.slice Ao19 t416.length co19 : Value).ownBlock)) z10_23_ hg hat); have _ := A_ (Kd.R_after (ok := (fun k_ => some k_ ≠ (.slice Ao16 t413.length co16 : Value).ownBlock)) z10_22_ hg hat); have _ := A_ (blk_grown (g := gb412) (o := .cells #[.int .i64 t408, .int .i64 t409, .int .i64 t410, .int .i64 t411] 31 (0, 0)) z10_2_ hg (Kd.R_ne HO_14.out BK412.out (by decide))); have _ := A_ (blk_grown (g := gb419) (o := .cells #[.slice Ao16 t413.length co16, .slice Ao19 t416.length co19] 33 (0, 0)) z10_3_ hg (Kd.R_ne HO_14.out BK419.out (by decide))); have _ := A_ (hb); have _ := A_ (ho); clear HO_8 HO_10 HO_420000 HO_420001 BK412 BK419 HB HO_14; rename_i HO_8 HO_10 HO_420000 HO_420001 BK412 BK419 HB HO438; clear ho hb hg hat)); try go_wp2_with (first | ((with_reducible refine gate_builtin (b := .append) (xs := #[.tmp 82, .tmp 88]) rfl ?_); (try (refine gate_guard (by rfl) ?_; dsimp only)); at_builtin; refine Kd.R_append (Kd.int .i8) (w0 := w) w.heap.size rfl (.tmp 82) (.tmp 88) 24 49 (.int .i8 0) 1 rfl Try.underlying24 info49 rfl (by decide) (by omega) u14 x14_2 ((rd_T51 t425 x15_2).f1) [.int .i8 ((rd_T51 t425 x15_2).f1)] (fun k_ => some k_ ≠ (.slice Ao16 t413.length co16 : Value).ownBlock ∧ some k_ ≠ (.slice Ao19 t416.length co19 : Value).ownBlock) (fun _ => False) rfl rfl ?aP (fun _ hk => hk.elim) ?aF ?aO ?aB ?aS ?aL ?_; (case aP => exact rfl); (case aB => exact z10_1_); (case aF => exact (fun k_ hk => ⟨Kd.fresh' (Kd.R_lt z10_5_) k_ hk, Kd.fresh' (Kd.R_lt z10_4_) k_ hk⟩)); (case aO => exact z10_7_); (case aS => exact (below_size z10_1_)); (case aL => have := LMc39.out; omega); intro v437 w42 ho hb hg hat; rw [← Ny436.out] at ho; have _ := A_ (Kd.R_over' z10_9_ (Kd.R_typed z10_7_) (by decide) hg); have _ := A_ (Kd.R_over' z10_8_ (Kd.R_typed z10_7_) (by decide) hg); have _ := A_ (Kd.R_after (ok := (fun k_ => some k_ ≠ (.slice Ao19 t416.length co19 : Value).ownBlock)) z10_23_ hg hat); have _ := A_ (Kd.R_after (ok := (fun k_ => some k_ ≠ (.slice Ao16 t413.length co16 : Value).ownBlock)) z10_22_ hg hat); have _ := A_ (blk_grown (g := gb412) (o := .cells #[.int .i64 t408, .int .i64 t409, .int .i64 t410, .int .i64 t411] 31 (0, 0)) z10_2_ hg (Kd.R_ne HO_14.out BK412.out (by decide))); have _ := A_ (blk_grown (g := gb419) (o := .cells #[.slice Ao16 t413.length co16, .slice Ao19 t416.length co19] 33 (0, 0)) z10_3_ hg (Kd.R_ne HO_14.out BK419.out (by decide))); have _ := A_ (hb); have _ := A_ (ho); clear HO_8 HO_10 HO_420000 HO_420001 BK412 BK419 HB HO_14; rename_i HO_8 HO_10 HO_420000 HO_420001 BK412 BK419 HB HO438; clear ho hb hg hat)))
             go_roundg k2
             case measure => have := HJ9.out; have := HK2.out; omega
             case rel => exact ⟨(wrap64 (x12_2 + 1)), (x13_2), (y436), (wrap64 (x15_2 + 1)), z10_14_, z10_14_, z10_14_, H', ⟨(by have := HJ9.out; have := HK2.out; omega)⟩, ⟨z10_9_⟩, ⟨z10_8_⟩, ⟨(by (with_reducible repeat (first | apply Kd.R_alloc | apply Kd.R_drewN | apply Kd.R_drew)); exact HO438.out)⟩, ⟨z10_23_⟩, ⟨z10_22_⟩, ⟨z10_2_⟩, ⟨z10_3_⟩, ⟨z10_1_⟩⟩
            ·
             rw [if_neg c39] at H
             exact absurd H (by simp)
           ·
            replace c38 := Bool.eq_false_iff.mpr c38
            subst c38
            (try simp only [beq_true, beq_false, Bool.not_not] at c34b0)
            have H1 := H; rw [if_neg (show ¬ (false = true) by decide)] at H1
            clear H
            have H := H1
            clear H1
            replace H := Option.bind_eq_some_iff.mp H
            obtain ⟨⟨t439, t440⟩, A430, H⟩ := H
            try dsimp only at H
            have A43 := A_ A430
            clear A430
            by_cases c44 : t440 = 0
            ·
             rw [if_pos c44] at H
             have c44b0 := beq_iff_eq.mpr c44
             have c44b1 := bne_eq_false_iff_eq.mpr c44
             clear c44
             by_cases c45 : t439 = ((rd_T51 t425 x15_2).f1)
             ·
              rw [if_pos c45] at H
              have c45b0 := beq_iff_eq.mpr c45
              have c45b1 := bne_eq_false_iff_eq.mpr c45
              clear c45
              have H' := A_ H
              clear H
              obtain ⟨Ao46, co46, eo46⟩ := Kd.R_slice HO_10.out
              subst eo46
              obtain ⟨Ao47, co47, eo47⟩ := Kd.R_slice HO_8.out
              subst eo47
              have p432 : 0 ≤ (x15_2 : Int) := of_decide_eq_true (by assumption)
              have q432 : x15_2 < (t421.length : Int) := of_decide_eq_true (by assumption)
              obtain ⟨ad432, e432, hx432_0, hx432_1, hx432_2, hx432_3, hx432_4, hx432_5⟩ := at_T51 (Kd.R_reads' HO_8.out).2.2 x15_2 p432 q432
              (try rw [← Nbq37.out] at hx432_0)
              cases e432
              replace p432 := eq_true p432
              replace q432 := eq_true q432
              have p433 : 0 ≤ (x15_2 : Int) := of_decide_eq_true (by assumption)
              have q433 : x15_2 < (t425.length : Int) := of_decide_eq_true (by assumption)
              obtain ⟨ad433, e433, hx433_0, hx433_1, hx433_2, hx433_3, hx433_4, hx433_5⟩ := at_T51 (Kd.R_reads' HO_10.out).2.2 x15_2 p433 q433
              (try rw [← Nbq37.out] at hx433_0)
              cases e433
              replace p433 := eq_true p433
              replace q433 := eq_true q433
              have p434 : 0 ≤ (x15_2 : Int) := of_decide_eq_true (by assumption)
              have q434 : x15_2 < (t425.length : Int) := of_decide_eq_true (by assumption)
              obtain ⟨ad434, e434, hx434_0, hx434_1, hx434_2, hx434_3, hx434_4, hx434_5⟩ := at_T51 (Kd.R_reads' HO_10.out).2.2 x15_2 p434 q434
              (try rw [← Nbq37.out] at hx434_0)
              obtain rfl : ad433 = ad434 := (by injection e434)
              replace p434 := eq_true p434
              replace q434 := eq_true q434
              have hnb48 := NB419_412.out
              have hnc48 := NB412_419.out
              obtain ⟨hcz49_0, hcz49_1⟩ := bc2 BK419.out
              obtain ⟨hfz49_0, hfz49_1⟩ := bf2 BK419.out
              go_wp2_with (first | (go_at_call 26; (with_reducible refine (impl_DigitAt.calls _ _ t413 _ _ t416 x13_2 t439 t440 _ ?side1 ?side2 ?side3 ?side4 A43.out).mono ?_); (case side1 => have hx_ := (Kd.R_reads' HO_420000.out).2.2; exact kc_); (case side2 => exact (Kd.R_reads' HO_420000.out).2.1); (case side3 => have hx_ := (Kd.R_reads' HO_420001.out).2.2; exact kc_); (case side4 => exact (Kd.R_reads' HO_420001.out).2.1); rintro e w50 ⟨rfl, hb⟩; have _ := A_ (Kd.R_below z10_9_ hb); have _ := A_ (Kd.R_below z10_8_ hb); have _ := A_ (Kd.R_below z10_7_ hb); have _ := A_ (Kd.R_below z10_5_ hb); have _ := A_ (Kd.R_below z10_4_ hb); have _ := A_ (blk_below (g := gb412) (o := .cells #[.int .i64 t408, .int .i64 t409, .int .i64 t410, .int .i64 t411] 31 (0, 0)) z10_2_ hb); have _ := A_ (blk_below (g := gb419) (o := .cells #[.slice Ao16 t413.length co16, .slice Ao19 t416.length co19] 33 (0, 0)) z10_3_ hb); have _ := A_ (below_step z10_1_ hb); clear HO_8 HO_10 HO_14 HO_420000 HO_420001 BK412 BK419 HB; rename_i HO_8 HO_10 HO_14 HO_420000 HO_420001 BK412 BK419 HB; (try clear hb); have p441 : 0 ≤ (x15_2 : Int) := of_decide_eq_true (by assumption); have q441 : x15_2 < (t425.length : Int) := of_decide_eq_true (by assumption); obtain ⟨ad441, e441, hx441_0, hx441_1, hx441_2, hx441_3, hx441_4, hx441_5⟩ := at_T51 (Kd.R_reads' HO_10.out).2.2 x15_2 p441 q441; (try rw [← Nbq37.out] at hx441_0); obtain rfl : ad433 = ad441 := (by injection e441); replace p441 := eq_true p441; replace q441 := eq_true q441))
              repeat (go_quiet (first | (go_at_call 26; (with_reducible refine (impl_DigitAt.calls _ _ t413 _ _ t416 x13_2 t439 t440 _ ?side1 ?side2 ?side3 ?side4 A43.out).mono ?_); (case side1 => have hx_ := (Kd.R_reads' HO_420000.out).2.2; exact kc_); (case side2 => exact (Kd.R_reads' HO_420000.out).2.1); (case side3 => have hx_ := (Kd.R_reads' HO_420001.out).2.2; exact kc_); (case side4 => exact (Kd.R_reads' HO_420001.out).2.1); rintro e w50 ⟨rfl, hb⟩; have _ := A_ (Kd.R_below z10_9_ hb); have _ := A_ (Kd.R_below z10_8_ hb); have _ := A_ (Kd.R_below z10_7_ hb); have _ := A_ (Kd.R_below z10_5_ hb); have _ := A_ (Kd.R_below z10_4_ hb); have _ := A_ (blk_below (g := gb412) (o := .cells #[.int .i64 t408, .int .i64 t409, .int .i64 t410, .int .i64 t411] 31 (0, 0)) z10_2_ hb); have _ := A_ (blk_below (g := gb419) (o := .cells #[.slice Ao16 t413.length co16, .slice Ao19 t416.length co19] 33 (0, 0)) z10_3_ hb); have _ := A_ (below_step z10_1_ hb); clear HO_8 HO_10 HO_14 HO_420000 HO_420001 BK412 BK419 HB; rename_i HO_8 HO_10 HO_14 HO_420000 HO_420001 BK412 BK419 HB; (try clear hb); have p441 : 0 ≤ (x15_2 : Int) := of_decide_eq_true (by assumption); have q441 : x15_2 < (t425.length : Int) := of_decide_eq_true (by assumption); obtain ⟨ad441, e441, hx441_0, hx441_1, hx441_2, hx441_3, hx441_4, hx441_5⟩ := at_T51 (Kd.R_reads' HO_10.out).2.2 x15_2 p441 q441; (try rw [← Nbq37.out] at hx441_0); obtain rfl : ad433 = ad441 := (by injection e441); replace p441 := eq_true p441; replace q441 := eq_true q441)); try go_wp2_with (first | (go_at_call 26; (with_reducible refine (impl_DigitAt.calls _ _ t413 _ _ t416 x13_2 t439 t440 _ ?side1 ?side2 ?side3 ?side4 A43.out).mono ?_); (case side1 => have hx_ := (Kd.R_reads' HO_420000.out).2.2; exact kc_); (case side2 => exact (Kd.R_reads' HO_420000.out).2.1); (case side3 => have hx_ := (Kd.R_reads' HO_420001.out).2.2; exact kc_); (case side4 => exact (Kd.R_reads' HO_420001.out).2.1); rintro e w50 ⟨rfl, hb⟩; have _ := A_ (Kd.R_below z10_9_ hb); have _ := A_ (Kd.R_below z10_8_ hb); have _ := A_ (Kd.R_below z10_7_ hb); have _ := A_ (Kd.R_below z10_5_ hb); have _ := A_ (Kd.R_below z10_4_ hb); have _ := A_ (blk_below (g := gb412) (o := .cells #[.int .i64 t408, .int .i64 t409, .int .i64 t410, .int .i64 t411] 31 (0, 0)) z10_2_ hb); have _ := A_ (blk_below (g := gb419) (o := .cells #[.slice Ao16 t413.length co16, .slice Ao19 t416.length co19] 33 (0, 0)) z10_3_ hb); have _ := A_ (below_step z10_1_ hb); clear HO_8 HO_10 HO_14 HO_420000 HO_420001 BK412 BK419 HB; rename_i HO_8 HO_10 HO_14 HO_420000 HO_420001 BK412 BK419 HB; (try clear hb); have p441 : 0 ≤ (x15_2 : Int) := of_decide_eq_true (by assumption); have q441 : x15_2 < (t425.length : Int) := of_decide_eq_true (by assumption); obtain ⟨ad441, e441, hx441_0, hx441_1, hx441_2, hx441_3, hx441_4, hx441_5⟩ := at_T51 (Kd.R_reads' HO_10.out).2.2 x15_2 p441 q441; (try rw [← Nbq37.out] at hx441_0); obtain rfl : ad433 = ad441 := (by injection e441); replace p441 := eq_true p441; replace q441 := eq_true q441)))
              go_roundg k2
              case measure => have := HJ9.out; have := HK2.out; omega
              case rel => exact ⟨(x12_2), (wrap64 (x13_2 + 1)), (x14_2), (wrap64 (x15_2 + 1)), z10_14_, z10_14_, z10_14_, H', ⟨(by have := HJ9.out; have := HK2.out; omega)⟩, ⟨z10_9_⟩, ⟨z10_8_⟩, ⟨z10_7_⟩, ⟨z10_5_⟩, ⟨z10_4_⟩, ⟨z10_2_⟩, ⟨z10_3_⟩, ⟨z10_1_⟩⟩
             ·
              rw [if_neg c45] at H
              have c45b0 : (t439 == ((rd_T51 t425 x15_2).f1)) = false := beq_eq_false_iff_ne.mpr c45
              have c45b1 : (t439 != ((rd_T51 t425 x15_2).f1)) = true := bne_iff_ne.mpr c45
              obtain rfl := Option.some.inj H
              obtain ⟨Ao51, co51, eo51⟩ := Kd.R_slice HO_10.out
              subst eo51
              obtain ⟨Ao52, co52, eo52⟩ := Kd.R_slice HO_8.out
              subst eo52
              have p432 : 0 ≤ (x15_2 : Int) := of_decide_eq_true (by assumption)
              have q432 : x15_2 < (t421.length : Int) := of_decide_eq_true (by assumption)
              obtain ⟨ad432, e432, hx432_0, hx432_1, hx432_2, hx432_3, hx432_4, hx432_5⟩ := at_T51 (Kd.R_reads' HO_8.out).2.2 x15_2 p432 q432
              (try rw [← Nbq37.out] at hx432_0)
              cases e432
              replace p432 := eq_true p432
              replace q432 := eq_true q432
              have p433 : 0 ≤ (x15_2 : Int) := of_decide_eq_true (by assumption)
              have q433 : x15_2 < (t425.length : Int) := of_decide_eq_true (by assumption)
              obtain ⟨ad433, e433, hx433_0, hx433_1, hx433_2, hx433_3, hx433_4, hx433_5⟩ := at_T51 (Kd.R_reads' HO_10.out).2.2 x15_2 p433 q433
              (try rw [← Nbq37.out] at hx433_0)
              cases e433
              replace p433 := eq_true p433
              replace q433 := eq_true q433
              have p434 : 0 ≤ (x15_2 : Int) := of_decide_eq_true (by assumption)
              have q434 : x15_2 < (t425.length : Int) := of_decide_eq_true (by assumption)
              obtain ⟨ad434, e434, hx434_0, hx434_1, hx434_2, hx434_3, hx434_4, hx434_5⟩ := at_T51 (Kd.R_reads' HO_10.out).2.2 x15_2 p434 q434
              (try rw [← Nbq37.out] at hx434_0)
              obtain rfl : ad433 = ad434 := (by injection e434)
              replace p434 := eq_true p434
              replace q434 := eq_true q434
              have hnb53 := NB419_412.out
              have hnc53 := NB412_419.out
              obtain ⟨hcz54_0, hcz54_1⟩ := bc2 BK419.out
              obtain ⟨hfz54_0, hfz54_1⟩ := bf2 BK419.out
              go_wp2_with (first | (go_at_call 26; (with_reducible refine (impl_DigitAt.calls _ _ t413 _ _ t416 x13_2 t439 t440 _ ?side1 ?side2 ?side3 ?side4 A43.out).mono ?_); (case side1 => have hx_ := (Kd.R_reads' HO_420000.out).2.2; exact kc_); (case side2 => exact (Kd.R_reads' HO_420000.out).2.1); (case side3 => have hx_ := (Kd.R_reads' HO_420001.out).2.2; exact kc_); (case side4 => exact (Kd.R_reads' HO_420001.out).2.1); rintro e w55 ⟨rfl, hb⟩; have _ := A_ (Kd.R_below z10_9_ hb); have _ := A_ (Kd.R_below z10_8_ hb); have _ := A_ (Kd.R_below z10_7_ hb); have _ := A_ (Kd.R_below z10_5_ hb); have _ := A_ (Kd.R_below z10_4_ hb); have _ := A_ (blk_below (g := gb412) (o := .cells #[.int .i64 t408, .int .i64 t409, .int .i64 t410, .int .i64 t411] 31 (0, 0)) z10_2_ hb); have _ := A_ (blk_below (g := gb419) (o := .cells #[.slice Ao16 t413.length co16, .slice Ao19 t416.length co19] 33 (0, 0)) z10_3_ hb); have _ := A_ (below_step z10_1_ hb); clear HO_8 HO_10 HO_14 HO_420000 HO_420001 BK412 BK419 HB; rename_i HO_8 HO_10 HO_14 HO_420000 HO_420001 BK412 BK419 HB; (try clear hb); have p441 : 0 ≤ (x15_2 : Int) := of_decide_eq_true (by assumption); have q441 : x15_2 < (t425.length : Int) := of_decide_eq_true (by assumption); obtain ⟨ad441, e441, hx441_0, hx441_1, hx441_2, hx441_3, hx441_4, hx441_5⟩ := at_T51 (Kd.R_reads' HO_10.out).2.2 x15_2 p441 q441; (try rw [← Nbq37.out] at hx441_0); obtain rfl : ad433 = ad441 := (by injection e441); replace p441 := eq_true p441; replace q441 := eq_true q441))
              repeat (go_quiet (first | (go_at_call 26; (with_reducible refine (impl_DigitAt.calls _ _ t413 _ _ t416 x13_2 t439 t440 _ ?side1 ?side2 ?side3 ?side4 A43.out).mono ?_); (case side1 => have hx_ := (Kd.R_reads' HO_420000.out).2.2; exact kc_); (case side2 => exact (Kd.R_reads' HO_420000.out).2.1); (case side3 => have hx_ := (Kd.R_reads' HO_420001.out).2.2; exact kc_); (case side4 => exact (Kd.R_reads' HO_420001.out).2.1); rintro e w55 ⟨rfl, hb⟩; have _ := A_ (Kd.R_below z10_9_ hb); have _ := A_ (Kd.R_below z10_8_ hb); have _ := A_ (Kd.R_below z10_7_ hb); have _ := A_ (Kd.R_below z10_5_ hb); have _ := A_ (Kd.R_below z10_4_ hb); have _ := A_ (blk_below (g := gb412) (o := .cells #[.int .i64 t408, .int .i64 t409, .int .i64 t410, .int .i64 t411] 31 (0, 0)) z10_2_ hb); have _ := A_ (blk_below (g := gb419) (o := .cells #[.slice Ao16 t413.length co16, .slice Ao19 t416.length co19] 33 (0, 0)) z10_3_ hb); have _ := A_ (below_step z10_1_ hb); clear HO_8 HO_10 HO_14 HO_420000 HO_420001 BK412 BK419 HB; rename_i HO_8 HO_10 HO_14 HO_420000 HO_420001 BK412 BK419 HB; (try clear hb); have p441 : 0 ≤ (x15_2 : Int) := of_decide_eq_true (by assumption); have q441 : x15_2 < (t425.length : Int) := of_decide_eq_true (by assumption); obtain ⟨ad441, e441, hx441_0, hx441_1, hx441_2, hx441_3, hx441_4, hx441_5⟩ := at_T51 (Kd.R_reads' HO_10.out).2.2 x15_2 p441 q441; (try rw [← Nbq37.out] at hx441_0); obtain rfl : ad433 = ad441 := (by injection e441); replace p441 := eq_true p441; replace q441 := eq_true q441)); try go_wp2_with (first | (go_at_call 26; (with_reducible refine (impl_DigitAt.calls _ _ t413 _ _ t416 x13_2 t439 t440 _ ?side1 ?side2 ?side3 ?side4 A43.out).mono ?_); (case side1 => have hx_ := (Kd.R_reads' HO_420000.out).2.2; exact kc_); (case side2 => exact (Kd.R_reads' HO_420000.out).2.1); (case side3 => have hx_ := (Kd.R_reads' HO_420001.out).2.2; exact kc_); (case side4 => exact (Kd.R_reads' HO_420001.out).2.1); rintro e w55 ⟨rfl, hb⟩; have _ := A_ (Kd.R_below z10_9_ hb); have _ := A_ (Kd.R_below z10_8_ hb); have _ := A_ (Kd.R_below z10_7_ hb); have _ := A_ (Kd.R_below z10_5_ hb); have _ := A_ (Kd.R_below z10_4_ hb); have _ := A_ (blk_below (g := gb412) (o := .cells #[.int .i64 t408, .int .i64 t409, .int .i64 t410, .int .i64 t411] 31 (0, 0)) z10_2_ hb); have _ := A_ (blk_below (g := gb419) (o := .cells #[.slice Ao16 t413.length co16, .slice Ao19 t416.length co19] 33 (0, 0)) z10_3_ hb); have _ := A_ (below_step z10_1_ hb); clear HO_8 HO_10 HO_14 HO_420000 HO_420001 BK412 BK419 HB; rename_i HO_8 HO_10 HO_14 HO_420000 HO_420001 BK412 BK419 HB; (try clear hb); have p441 : 0 ≤ (x15_2 : Int) := of_decide_eq_true (by assumption); have q441 : x15_2 < (t425.length : Int) := of_decide_eq_true (by assumption); obtain ⟨ad441, e441, hx441_0, hx441_1, hx441_2, hx441_3, hx441_4, hx441_5⟩ := at_T51 (Kd.R_reads' HO_10.out).2.2 x15_2 p441 q441; (try rw [← Nbq37.out] at hx441_0); obtain rfl : ad433 = ad441 := (by injection e441); replace p441 := eq_true p441; replace q441 := eq_true q441)))
              go_ret
              exact ⟨z10_16_, z10_1_⟩
            ·
             rw [if_neg c44] at H
             have c44b0 : (t440 == 0) = false := beq_eq_false_iff_ne.mpr c44
             have c44b1 : (t440 != 0) = true := bne_iff_ne.mpr c44
             obtain rfl := Option.some.inj H
             obtain ⟨Ao56, co56, eo56⟩ := Kd.R_slice HO_10.out
             subst eo56
             obtain ⟨Ao57, co57, eo57⟩ := Kd.R_slice HO_8.out
             subst eo57
             have p432 : 0 ≤ (x15_2 : Int) := of_decide_eq_true (by assumption)
             have q432 : x15_2 < (t421.length : Int) := of_decide_eq_true (by assumption)
             obtain ⟨ad432, e432, hx432_0, hx432_1, hx432_2, hx432_3, hx432_4, hx432_5⟩ := at_T51 (Kd.R_reads' HO_8.out).2.2 x15_2 p432 q432
             (try rw [← Nbq37.out] at hx432_0)
             cases e432
             replace p432 := eq_true p432
             replace q432 := eq_true q432
             have p433 : 0 ≤ (x15_2 : Int) := of_decide_eq_true (by assumption)
             have q433 : x15_2 < (t425.length : Int) := of_decide_eq_true (by assumption)
             obtain ⟨ad433, e433, hx433_0, hx433_1, hx433_2, hx433_3, hx433_4, hx433_5⟩ := at_T51 (Kd.R_reads' HO_10.out).2.2 x15_2 p433 q433
             (try rw [← Nbq37.out] at hx433_0)
             cases e433
             replace p433 := eq_true p433
             replace q433 := eq_true q433
             have p434 : 0 ≤ (x15_2 : Int) := of_decide_eq_true (by assumption)
             have q434 : x15_2 < (t425.length : Int) := of_decide_eq_true (by assumption)
             obtain ⟨ad434, e434, hx434_0, hx434_1, hx434_2, hx434_3, hx434_4, hx434_5⟩ := at_T51 (Kd.R_reads' HO_10.out).2.2 x15_2 p434 q434
             (try rw [← Nbq37.out] at hx434_0)
             obtain rfl : ad433 = ad434 := (by injection e434)
             replace p434 := eq_true p434
             replace q434 := eq_true q434
             have hnb58 := NB419_412.out
             have hnc58 := NB412_419.out
             obtain ⟨hcz59_0, hcz59_1⟩ := bc2 BK419.out
             obtain ⟨hfz59_0, hfz59_1⟩ := bf2 BK419.out
             go_wp2_with (first | (go_at_call 26; (with_reducible refine (impl_DigitAt.calls _ _ t413 _ _ t416 x13_2 t439 t440 _ ?side1 ?side2 ?side3 ?side4 A43.out).mono ?_); (case side1 => have hx_ := (Kd.R_reads' HO_420000.out).2.2; exact kc_); (case side2 => exact (Kd.R_reads' HO_420000.out).2.1); (case side3 => have hx_ := (Kd.R_reads' HO_420001.out).2.2; exact kc_); (case side4 => exact (Kd.R_reads' HO_420001.out).2.1); rintro e w60 ⟨rfl, hb⟩; have _ := A_ (Kd.R_below z10_9_ hb); have _ := A_ (Kd.R_below z10_8_ hb); have _ := A_ (Kd.R_below z10_7_ hb); have _ := A_ (Kd.R_below z10_5_ hb); have _ := A_ (Kd.R_below z10_4_ hb); have _ := A_ (blk_below (g := gb412) (o := .cells #[.int .i64 t408, .int .i64 t409, .int .i64 t410, .int .i64 t411] 31 (0, 0)) z10_2_ hb); have _ := A_ (blk_below (g := gb419) (o := .cells #[.slice Ao16 t413.length co16, .slice Ao19 t416.length co19] 33 (0, 0)) z10_3_ hb); have _ := A_ (below_step z10_1_ hb); clear HO_8 HO_10 HO_14 HO_420000 HO_420001 BK412 BK419 HB; rename_i HO_8 HO_10 HO_14 HO_420000 HO_420001 BK412 BK419 HB; (try clear hb)))
             repeat (go_quiet (first | (go_at_call 26; (with_reducible refine (impl_DigitAt.calls _ _ t413 _ _ t416 x13_2 t439 t440 _ ?side1 ?side2 ?side3 ?side4 A43.out).mono ?_); (case side1 => have hx_ := (Kd.R_reads' HO_420000.out).2.2; exact kc_); (case side2 => exact (Kd.R_reads' HO_420000.out).2.1); (case side3 => have hx_ := (Kd.R_reads' HO_420001.out).2.2; exact kc_); (case side4 => exact (Kd.R_reads' HO_420001.out).2.1); rintro e w60 ⟨rfl, hb⟩; have _ := A_ (Kd.R_below z10_9_ hb); have _ := A_ (Kd.R_below z10_8_ hb); have _ := A_ (Kd.R_below z10_7_ hb); have _ := A_ (Kd.R_below z10_5_ hb); have _ := A_ (Kd.R_below z10_4_ hb); have _ := A_ (blk_below (g := gb412) (o := .cells #[.int .i64 t408, .int .i64 t409, .int .i64 t410, .int .i64 t411] 31 (0, 0)) z10_2_ hb); have _ := A_ (blk_below (g := gb419) (o := .cells #[.slice Ao16 t413.length co16, .slice Ao19 t416.length co19] 33 (0, 0)) z10_3_ hb); have _ := A_ (below_step z10_1_ hb); clear HO_8 HO_10 HO_14 HO_420000 HO_420001 BK412 BK419 HB; rename_i HO_8 HO_10 HO_14 HO_420000 HO_420001 BK412 BK419 HB; (try clear hb))); try go_wp2_with (first | (go_at_call 26; (with_reducible refine (impl_DigitAt.calls _ _ t413 _ _ t416 x13_2 t439 t440 _ ?side1 ?side2 ?side3 ?side4 A43.out).mono ?_); (case side1 => have hx_ := (Kd.R_reads' HO_420000.out).2.2; exact kc_); (case side2 => exact (Kd.R_reads' HO_420000.out).2.1); (case side3 => have hx_ := (Kd.R_reads' HO_420001.out).2.2; exact kc_); (case side4 => exact (Kd.R_reads' HO_420001.out).2.1); rintro e w60 ⟨rfl, hb⟩; have _ := A_ (Kd.R_below z10_9_ hb); have _ := A_ (Kd.R_below z10_8_ hb); have _ := A_ (Kd.R_below z10_7_ hb); have _ := A_ (Kd.R_below z10_5_ hb); have _ := A_ (Kd.R_below z10_4_ hb); have _ := A_ (blk_below (g := gb412) (o := .cells #[.int .i64 t408, .int .i64 t409, .int .i64 t410, .int .i64 t411] 31 (0, 0)) z10_2_ hb); have _ := A_ (blk_below (g := gb419) (o := .cells #[.slice Ao16 t413.length co16, .slice Ao19 t416.length co19] 33 (0, 0)) z10_3_ hb); have _ := A_ (below_step z10_1_ hb); clear HO_8 HO_10 HO_14 HO_420000 HO_420001 BK412 BK419 HB; rename_i HO_8 HO_10 HO_14 HO_420000 HO_420001 BK412 BK419 HB; (try clear hb))))
             go_ret
             exact ⟨z10_16_, z10_1_⟩
         ·
          rw [if_neg c33] at H
          exact absurd H (by simp)
        ·
         rw [if_neg c32] at H
         exact absurd H (by simp)
       ·
        rw [if_neg c31] at H
        have c31b0 := decide_eq_false c31
        clear c31
        by_cases c61 : t424 = 0
        ·
         rw [if_pos c61] at H
         have c61b0 := beq_iff_eq.mpr c61
         have c61b1 := bne_eq_false_iff_eq.mpr c61
         clear c61
         replace H := Option.bind_eq_some_iff.mp H
         obtain ⟨⟨t442, t445, t446⟩, A620, H⟩ := H
         try dsimp only at H
         have A62 := A_ A620
         clear A620
         have HC63 := A_ H
         clear H
         obtain ⟨Ao64, co64, eo64⟩ := Kd.R_slice HO_10.out
         subst eo64
         have hnb65 := NB412_419.out
         have hnc65 := NB419_412.out
         obtain ⟨hcz66_0, hcz66_1, hcz66_2, hcz66_3⟩ := bc4 BK412.out
         obtain ⟨hfz66_0, hfz66_1, hfz66_2, hfz66_3⟩ := bf4 BK412.out
         obtain ⟨hcz67_0, hcz67_1⟩ := bc2 BK419.out
         obtain ⟨hfz67_0, hfz67_1⟩ := bf2 BK419.out
         go_upto_region 28 with (first | (go_at_call 18; (with_reducible refine (impl_MoebiusDigits.calls k2 t408 t409 t410 t411 _ _ t413 _ _ t416 t420 t442 t445 t446 _ ?side1 ?side2 ?side3 ?side4 A62.out).mono ?_); (case side1 => have hx_ := (Kd.R_reads' HO_420000.out).2.2; exact kc_); (case side2 => exact (Kd.R_reads' HO_420000.out).2.1); (case side3 => have hx_ := (Kd.R_reads' HO_420001.out).2.2; exact kc_); (case side4 => exact (Kd.R_reads' HO_420001.out).2.1); rintro e w68 ⟨v443, rfl, ho0, hb⟩; have _ := A_ (Kd.R_below z10_9_ hb); have _ := A_ (Kd.R_below z10_8_ hb); have _ := A_ (Kd.R_elder' z10_7_ (Kd.R_base ho0) hb); have _ := A_ (Kd.R_elder' z10_5_ (Kd.R_base ho0) hb); have _ := A_ (Kd.R_elder' z10_4_ (Kd.R_base ho0) hb); have _ := A_ (Kd.R_lower (Kd.R_new' (Kd.R_new' (Kd.R_new' ho0 (Kd.R_lt z10_7_)) (Kd.R_lt z10_5_)) (Kd.R_lt z10_4_)) (below_size z10_1_)); have _ := A_ (blk_below (g := gb412) (o := .cells #[.int .i64 t408, .int .i64 t409, .int .i64 t410, .int .i64 t411] 31 (0, 0)) z10_2_ hb); have _ := A_ (blk_below (g := gb419) (o := .cells #[.slice Ao16 t413.length co16, .slice Ao19 t416.length co19] 33 (0, 0)) z10_3_ hb); have _ := A_ (below_step z10_1_ hb); clear HO_8 HO_10 HO_14 HO_420000 HO_420001 BK412 BK419 HB; rename_i HO_8 HO_10 HO_14 HO_420000 HO_420001 HO444 BK412 BK419 HB; (try clear hb); (try clear ho0)))
         repeat (go_quiet (first | (go_at_call 18; (with_reducible refine (impl_MoebiusDigits.calls k2 t408 t409 t410 t411 _ _ t413 _ _ t416 t420 t442 t445 t446 _ ?side1 ?side2 ?side3 ?side4 A62.out).mono ?_); (case side1 => have hx_ := (Kd.R_reads' HO_420000.out).2.2; exact kc_); (case side2 => exact (Kd.R_reads' HO_420000.out).2.1); (case side3 => have hx_ := (Kd.R_reads' HO_420001.out).2.2; exact kc_); (case side4 => exact (Kd.R_reads' HO_420001.out).2.1); rintro e w68 ⟨v443, rfl, ho0, hb⟩; have _ := A_ (Kd.R_below z10_9_ hb); have _ := A_ (Kd.R_below z10_8_ hb); have _ := A_ (Kd.R_elder' z10_7_ (Kd.R_base ho0) hb); have _ := A_ (Kd.R_elder' z10_5_ (Kd.R_base ho0) hb); have _ := A_ (Kd.R_elder' z10_4_ (Kd.R_base ho0) hb); have _ := A_ (Kd.R_lower (Kd.R_new' (Kd.R_new' (Kd.R_new' ho0 (Kd.R_lt z10_7_)) (Kd.R_lt z10_5_)) (Kd.R_lt z10_4_)) (below_size z10_1_)); have _ := A_ (blk_below (g := gb412) (o := .cells #[.int .i64 t408, .int .i64 t409, .int .i64 t410, .int .i64 t411] 31 (0, 0)) z10_2_ hb); have _ := A_ (blk_below (g := gb419) (o := .cells #[.slice Ao16 t413.length co16, .slice Ao19 t416.length co19] 33 (0, 0)) z10_3_ hb); have _ := A_ (below_step z10_1_ hb); clear HO_8 HO_10 HO_14 HO_420000 HO_420001 BK412 BK419 HB; rename_i HO_8 HO_10 HO_14 HO_420000 HO_420001 HO444 BK412 BK419 HB; (try clear hb); (try clear ho0))); go_upto_region 28 with (first | (go_at_call 18; (with_reducible refine (impl_MoebiusDigits.calls k2 t408 t409 t410 t411 _ _ t413 _ _ t416 t420 t442 t445 t446 _ ?side1 ?side2 ?side3 ?side4 A62.out).mono ?_); (case side1 => have hx_ := (Kd.R_reads' HO_420000.out).2.2; exact kc_); (case side2 => exact (Kd.R_reads' HO_420000.out).2.1); (case side3 => have hx_ := (Kd.R_reads' HO_420001.out).2.2; exact kc_); (case side4 => exact (Kd.R_reads' HO_420001.out).2.1); rintro e w68 ⟨v443, rfl, ho0, hb⟩; have _ := A_ (Kd.R_below z10_9_ hb); have _ := A_ (Kd.R_below z10_8_ hb); have _ := A_ (Kd.R_elder' z10_7_ (Kd.R_base ho0) hb); have _ := A_ (Kd.R_elder' z10_5_ (Kd.R_base ho0) hb); have _ := A_ (Kd.R_elder' z10_4_ (Kd.R_base ho0) hb); have _ := A_ (Kd.R_lower (Kd.R_new' (Kd.R_new' (Kd.R_new' ho0 (Kd.R_lt z10_7_)) (Kd.R_lt z10_5_)) (Kd.R_lt z10_4_)) (below_size z10_1_)); have _ := A_ (blk_below (g := gb412) (o := .cells #[.int .i64 t408, .int .i64 t409, .int .i64 t410, .int .i64 t411] 31 (0, 0)) z10_2_ hb); have _ := A_ (blk_below (g := gb419) (o := .cells #[.slice Ao16 t413.length co16, .slice Ao19 t416.length co19] 33 (0, 0)) z10_3_ hb); have _ := A_ (below_step z10_1_ hb); clear HO_8 HO_10 HO_14 HO_420000 HO_420001 BK412 BK419 HB; rename_i HO_8 HO_10 HO_14 HO_420000 HO_420001 HO444 BK412 BK419 HB; (try clear hb); (try clear ho0))))
         (try simp only [Act.put, sA_, sB_, sC_])
         go_cut [156] (fun v156 wc => ∃ (kq : Nat) (x156_62 : Bool), v156 = .bool x156_62 ∧ Aside0 (laws_FnTurns.j2 kq t420 x156_62 t408 t409 t410 t411 t413 t416 = some r) ∧ Aside0 (kq ≤ k2) ∧ Aside0 (Kd.R (Kd.int .i8) 49 wc w.heap.size (fun k_ => some k_ ≠ ((.slice Ao19 t416.length co19) : Value).ownBlock) (.slice Ao16 t413.length co16) t413) ∧ Aside0 (Kd.R (Kd.int .i8) 49 wc w.heap.size (fun k_ => some k_ ≠ ((.slice Ao16 t413.length co16) : Value).ownBlock) (.slice Ao19 t416.length co19) t416) ∧ Aside0 (wc.heap[gb412]? = some (.cells #[.int .i64 t408, .int .i64 t409, .int .i64 t410, .int .i64 t411] 31 (0, 0))) ∧ Aside0 (wc.heap[gb419]? = some (.cells #[(.slice Ao16 t413.length co16), (.slice Ao19 t416.length co19)] 33 (0, 0))) ∧ Aside0 (Below w.heap.size w wc))
         case first =>
          have H := HC63.out
          clear HC63
          by_cases c69 : x12_2 = t420
          ·
           rw [if_pos c69] at H
           have c69b0 := beq_iff_eq.mpr c69
           have c69b1 := bne_eq_false_iff_eq.mpr c69
           clear c69
           (first | rw [c69b0] | (simp only [i64_w, i32_w]; rw [c69b0]) | skip)
           by_cases c70 : t446 = 0
           ·
            rw [if_pos c70] at H
            have c70b0 := beq_iff_eq.mpr c70
            have c70b1 := bne_eq_false_iff_eq.mpr c70
            clear c70
            by_cases c71 : t445 = x13_2
            ·
             rw [if_pos c71] at H
             have c71b0 := beq_iff_eq.mpr c71
             have c71b1 := bne_eq_false_iff_eq.mpr c71
             clear c71
             replace H := Option.bind_eq_some_iff.mp H
             obtain ⟨t447, A720, H⟩ := H
             try dsimp only at H
             have A72 := A_ A720
             clear A720
             by_cases c73 : t447 = true
             ·
              subst c73
              have H1 := H; rw [if_pos rfl] at H1
              clear H
              have H := H1
              clear H1
              by_cases c74 : t420 > 0
              ·
               rw [if_pos c74] at H
               have c74b0 := decide_eq_true c74
               clear c74
               obtain ⟨ji75, hji75⟩ : ∃ j_ : Int, (wrap64 ((t425.length : Int) - 1)) = j_ := ⟨_, rfl⟩
               replace H : (if 0 ≤ (ji75) then (if (ji75) < (t425.length : Int) then (laws_FnTurns.j2 k2 t420 (!((rd_T51 t425 (ji75)).f0)) t408 t409 t410 t411 t413 t416) else (none)) else (none)) = some r := by first | (rw [hji75] at H; exact H) | (simp only [hji75] at H ⊢; exact H)
               (try rw [hji75] at A72)
               have hji75w : (IntKind.i64.wrap ((t425.length : Int) - 1)) = ji75 := (i64_w _).trans hji75
               by_cases c76 : 0 ≤ (ji75)
               ·
                rw [if_pos c76] at H
                have c76b0 := decide_eq_true c76
                clear c76
                by_cases c77 : (ji75) < (t425.length : Int)
                ·
                 rw [if_pos c77] at H
                 have c77b0 := decide_eq_true c77
                 clear c77
                 have H' := A_ H
                 clear H
                 obtain ⟨Ao78, co78, eo78⟩ := Kd.R_slice HO444.out
                 subst eo78
                 obtain ⟨Ao79, co79, eo79⟩ := Kd.R_slice HO_14.out
                 subst eo79
                 go_wp2_with (first | (go_at_call 27; (with_reducible refine (spec_A2Alike.calls k2 _ _ t442 _ _ x14_2 true _ ?side1 ?side2 ?side3 ?side4 A72.out).mono ?_); (case side1 => have hx_ := (Kd.R_reads' HO444.out).2.2; exact kc_); (case side2 => exact (Kd.R_reads' HO444.out).2.1); (case side3 => have hx_ := (Kd.R_reads' HO_14.out).2.2; exact kc_); (case side4 => exact (Kd.R_reads' HO_14.out).2.1); rintro e w' ⟨rfl, ⟨nd, rfl⟩⟩; (try first | exact ⟨rfl, _, World.drewN_drewN _ _ _⟩ | exact ⟨rfl, _, Eq.trans (World.drewN_drewN _ _ _) (congrArg (World.drewN _) (Nat.add_assoc _ _ _))⟩); have p448 : 0 ≤ ((ji75) : Int) := of_decide_eq_true (by assumption); have q448 : (ji75) < (t425.length : Int) := of_decide_eq_true (by assumption); obtain ⟨ad448, e448, hx448_0, hx448_1, hx448_2, hx448_3, hx448_4, hx448_5⟩ := at_T51 (Kd.R_reads' HO_10.out).2.2 (ji75) p448 q448; cases e448; replace p448 := eq_true p448; replace q448 := eq_true q448))
                 repeat (go_quiet (first | (go_at_call 27; (with_reducible refine (spec_A2Alike.calls k2 _ _ t442 _ _ x14_2 true _ ?side1 ?side2 ?side3 ?side4 A72.out).mono ?_); (case side1 => have hx_ := (Kd.R_reads' HO444.out).2.2; exact kc_); (case side2 => exact (Kd.R_reads' HO444.out).2.1); (case side3 => have hx_ := (Kd.R_reads' HO_14.out).2.2; exact kc_); (case side4 => exact (Kd.R_reads' HO_14.out).2.1); rintro e w' ⟨rfl, ⟨nd, rfl⟩⟩; (try first | exact ⟨rfl, _, World.drewN_drewN _ _ _⟩ | exact ⟨rfl, _, Eq.trans (World.drewN_drewN _ _ _) (congrArg (World.drewN _) (Nat.add_assoc _ _ _))⟩); have p448 : 0 ≤ ((ji75) : Int) := of_decide_eq_true (by assumption); have q448 : (ji75) < (t425.length : Int) := of_decide_eq_true (by assumption); obtain ⟨ad448, e448, hx448_0, hx448_1, hx448_2, hx448_3, hx448_4, hx448_5⟩ := at_T51 (Kd.R_reads' HO_10.out).2.2 (ji75) p448 q448; cases e448; replace p448 := eq_true p448; replace q448 := eq_true q448)); try go_wp2_with (first | (go_at_call 27; (with_reducible refine (spec_A2Alike.calls k2 _ _ t442 _ _ x14_2 true _ ?side1 ?side2 ?side3 ?side4 A72.out).mono ?_); (case side1 => have hx_ := (Kd.R_reads' HO444.out).2.2; exact kc_); (case side2 => exact (Kd.R_reads' HO444.out).2.1); (case side3 => have hx_ := (Kd.R_reads' HO_14.out).2.2; exact kc_); (case side4 => exact (Kd.R_reads' HO_14.out).2.1); rintro e w' ⟨rfl, ⟨nd, rfl⟩⟩; (try first | exact ⟨rfl, _, World.drewN_drewN _ _ _⟩ | exact ⟨rfl, _, Eq.trans (World.drewN_drewN _ _ _) (congrArg (World.drewN _) (Nat.add_assoc _ _ _))⟩); have p448 : 0 ≤ ((ji75) : Int) := of_decide_eq_true (by assumption); have q448 : (ji75) < (t425.length : Int) := of_decide_eq_true (by assumption); obtain ⟨ad448, e448, hx448_0, hx448_1, hx448_2, hx448_3, hx448_4, hx448_5⟩ := at_T51 (Kd.R_reads' HO_10.out).2.2 (ji75) p448 q448; cases e448; replace p448 := eq_true p448; replace q448 := eq_true q448)))
                 go_meet
                 case rel => exact ⟨_, (!((rd_T51 t425 (ji75)).f0)), (by first | rfl | (simp; done) | (simp only [← hji75] <;> (first | rfl | simp)) | (simp [*]; done)), H', ⟨z10_26_⟩, ⟨z10_21_⟩, ⟨z10_20_⟩, ⟨z10_2_⟩, ⟨z10_3_⟩, ⟨z10_1_⟩⟩
                ·
                 rw [if_neg c77] at H
                 exact absurd H (by simp)
               ·
                rw [if_neg c76] at H
                exact absurd H (by simp)
              ·
               rw [if_neg c74] at H
               have c74b0 := decide_eq_false c74
               clear c74
               have H' := A_ H
               clear H
               obtain ⟨Ao80, co80, eo80⟩ := Kd.R_slice HO444.out
               subst eo80
               obtain ⟨Ao81, co81, eo81⟩ := Kd.R_slice HO_14.out
               subst eo81
               go_wp2_with (first | (go_at_call 27; (with_reducible refine (spec_A2Alike.calls k2 _ _ t442 _ _ x14_2 true _ ?side1 ?side2 ?side3 ?side4 A72.out).mono ?_); (case side1 => have hx_ := (Kd.R_reads' HO444.out).2.2; exact kc_); (case side2 => exact (Kd.R_reads' HO444.out).2.1); (case side3 => have hx_ := (Kd.R_reads' HO_14.out).2.2; exact kc_); (case side4 => exact (Kd.R_reads' HO_14.out).2.1); rintro e w' ⟨rfl, ⟨nd, rfl⟩⟩; (try first | exact ⟨rfl, _, World.drewN_drewN _ _ _⟩ | exact ⟨rfl, _, Eq.trans (World.drewN_drewN _ _ _) (congrArg (World.drewN _) (Nat.add_assoc _ _ _))⟩)))
               repeat (go_quiet (first | (go_at_call 27; (with_reducible refine (spec_A2Alike.calls k2 _ _ t442 _ _ x14_2 true _ ?side1 ?side2 ?side3 ?side4 A72.out).mono ?_); (case side1 => have hx_ := (Kd.R_reads' HO444.out).2.2; exact kc_); (case side2 => exact (Kd.R_reads' HO444.out).2.1); (case side3 => have hx_ := (Kd.R_reads' HO_14.out).2.2; exact kc_); (case side4 => exact (Kd.R_reads' HO_14.out).2.1); rintro e w' ⟨rfl, ⟨nd, rfl⟩⟩; (try first | exact ⟨rfl, _, World.drewN_drewN _ _ _⟩ | exact ⟨rfl, _, Eq.trans (World.drewN_drewN _ _ _) (congrArg (World.drewN _) (Nat.add_assoc _ _ _))⟩))); try go_wp2_with (first | (go_at_call 27; (with_reducible refine (spec_A2Alike.calls k2 _ _ t442 _ _ x14_2 true _ ?side1 ?side2 ?side3 ?side4 A72.out).mono ?_); (case side1 => have hx_ := (Kd.R_reads' HO444.out).2.2; exact kc_); (case side2 => exact (Kd.R_reads' HO444.out).2.1); (case side3 => have hx_ := (Kd.R_reads' HO_14.out).2.2; exact kc_); (case side4 => exact (Kd.R_reads' HO_14.out).2.1); rintro e w' ⟨rfl, ⟨nd, rfl⟩⟩; (try first | exact ⟨rfl, _, World.drewN_drewN _ _ _⟩ | exact ⟨rfl, _, Eq.trans (World.drewN_drewN _ _ _) (congrArg (World.drewN _) (Nat.add_assoc _ _ _))⟩))))
               go_meet
               case rel => exact ⟨_, (false), z10_14_, H', ⟨z10_26_⟩, ⟨z10_21_⟩, ⟨z10_20_⟩, ⟨z10_2_⟩, ⟨z10_3_⟩, ⟨z10_1_⟩⟩
             ·
              replace c73 := Bool.eq_false_iff.mpr c73
              subst c73
              have H1 := H; rw [if_neg (show ¬ (false = true) by decide)] at H1
              clear H
              have H := H1
              clear H1
              have H' := A_ H
              clear H
              obtain ⟨Ao82, co82, eo82⟩ := Kd.R_slice HO444.out
              subst eo82
              obtain ⟨Ao83, co83, eo83⟩ := Kd.R_slice HO_14.out
              subst eo83
              go_wp2_with (first | (go_at_call 27; (with_reducible refine (spec_A2Alike.calls k2 _ _ t442 _ _ x14_2 false _ ?side1 ?side2 ?side3 ?side4 A72.out).mono ?_); (case side1 => have hx_ := (Kd.R_reads' HO444.out).2.2; exact kc_); (case side2 => exact (Kd.R_reads' HO444.out).2.1); (case side3 => have hx_ := (Kd.R_reads' HO_14.out).2.2; exact kc_); (case side4 => exact (Kd.R_reads' HO_14.out).2.1); rintro e w' ⟨rfl, ⟨nd, rfl⟩⟩; (try first | exact ⟨rfl, _, World.drewN_drewN _ _ _⟩ | exact ⟨rfl, _, Eq.trans (World.drewN_drewN _ _ _) (congrArg (World.drewN _) (Nat.add_assoc _ _ _))⟩)))
              repeat (go_quiet (first | (go_at_call 27; (with_reducible refine (spec_A2Alike.calls k2 _ _ t442 _ _ x14_2 false _ ?side1 ?side2 ?side3 ?side4 A72.out).mono ?_); (case side1 => have hx_ := (Kd.R_reads' HO444.out).2.2; exact kc_); (case side2 => exact (Kd.R_reads' HO444.out).2.1); (case side3 => have hx_ := (Kd.R_reads' HO_14.out).2.2; exact kc_); (case side4 => exact (Kd.R_reads' HO_14.out).2.1); rintro e w' ⟨rfl, ⟨nd, rfl⟩⟩; (try first | exact ⟨rfl, _, World.drewN_drewN _ _ _⟩ | exact ⟨rfl, _, Eq.trans (World.drewN_drewN _ _ _) (congrArg (World.drewN _) (Nat.add_assoc _ _ _))⟩))); try go_wp2_with (first | (go_at_call 27; (with_reducible refine (spec_A2Alike.calls k2 _ _ t442 _ _ x14_2 false _ ?side1 ?side2 ?side3 ?side4 A72.out).mono ?_); (case side1 => have hx_ := (Kd.R_reads' HO444.out).2.2; exact kc_); (case side2 => exact (Kd.R_reads' HO444.out).2.1); (case side3 => have hx_ := (Kd.R_reads' HO_14.out).2.2; exact kc_); (case side4 => exact (Kd.R_reads' HO_14.out).2.1); rintro e w' ⟨rfl, ⟨nd, rfl⟩⟩; (try first | exact ⟨rfl, _, World.drewN_drewN _ _ _⟩ | exact ⟨rfl, _, Eq.trans (World.drewN_drewN _ _ _) (congrArg (World.drewN _) (Nat.add_assoc _ _ _))⟩))))
              go_meet
              case rel => exact ⟨_, (true), z10_14_, H', ⟨z10_26_⟩, ⟨z10_21_⟩, ⟨z10_20_⟩, ⟨z10_2_⟩, ⟨z10_3_⟩, ⟨z10_1_⟩⟩
            ·
             rw [if_neg c71] at H
             have c71b0 : (t445 == x13_2) = false := beq_eq_false_iff_ne.mpr c71
             have c71b1 : (t445 != x13_2) = true := bne_iff_ne.mpr c71
             have H' := A_ H
             clear H
             go_wp2
             repeat (go_quiet (fail); try go_wp2)
             go_meet
             case rel => exact ⟨_, (true), z10_14_, H', ⟨z10_26_⟩, ⟨z10_21_⟩, ⟨z10_20_⟩, ⟨z10_2_⟩, ⟨z10_3_⟩, ⟨z10_1_⟩⟩
           ·
            rw [if_neg c70] at H
            have c70b0 : (t446 == 0) = false := beq_eq_false_iff_ne.mpr c70
            have c70b1 : (t446 != 0) = true := bne_iff_ne.mpr c70
            have H' := A_ H
            clear H
            go_wp2
            repeat (go_quiet (fail); try go_wp2)
            go_meet
            case rel => exact ⟨_, (true), z10_14_, H', ⟨z10_26_⟩, ⟨z10_21_⟩, ⟨z10_20_⟩, ⟨z10_2_⟩, ⟨z10_3_⟩, ⟨z10_1_⟩⟩
          ·
           rw [if_neg c69] at H
           have c69b0 : (x12_2 == t420) = false := beq_eq_false_iff_ne.mpr c69
           have c69b1 : (x12_2 != t420) = true := bne_iff_ne.mpr c69
           (first | rw [c69b0] | (simp only [i64_w, i32_w]; rw [c69b0]) | skip)
           have H' := A_ H
           clear H
           go_wp2
           repeat (go_quiet (fail); try go_wp2)
           go_meet
           case rel => exact ⟨_, (true), z10_14_, H', ⟨z10_26_⟩, ⟨z10_21_⟩, ⟨z10_20_⟩, ⟨z10_2_⟩, ⟨z10_3_⟩, ⟨z10_1_⟩⟩
         case rest =>
          clear HC63
          try clear c1
          try clear c2
          try clear p2
          try clear c3
          try clear q3
          try clear c4
          try clear p4
          try clear q4
          try clear hx4
          try clear c5
          try clear c6
          try clear p6
          try clear c7
          try clear c17
          try clear c25
          try clear c25b0
          try clear c25b1
          try clear c28
          try clear c31
          try clear c31b0
          try clear c32
          try clear c32b0
          try clear c33
          try clear c33b0
          try clear c34
          try clear c34b0
          try clear q37
          try clear c38
          try clear c39
          try clear p43
          try clear q43
          try clear hx43
          try clear c44
          try clear c44b0
          try clear c44b1
          try clear p44
          try clear q44
          try clear hx44
          try clear c45
          try clear c45b0
          try clear c45b1
          try clear c48
          try clear c53
          try clear c58
          try clear c61
          try clear c61b0
          try clear c61b1
          try clear p64
          try clear c65
          try clear c69
          try clear c69b0
          try clear c69b1
          try clear c70
          try clear c70b0
          try clear c70b1
          try clear c71
          try clear c71b0
          try clear c71b1
          try clear c73
          try clear c74
          try clear c74b0
          try clear c76
          try clear c76b0
          try clear c77
          try clear c77b0
          try clear hcz13_0
          try clear hcz13_1
          try clear hcz13_2
          try clear hcz13_3
          try clear hcz18_0
          try clear hcz18_1
          try clear hcz20_0
          try clear hcz20_1
          try clear hcz20_2
          try clear hcz20_3
          try clear hcz22_0
          try clear hcz22_1
          try clear hcz22_2
          try clear hcz22_3
          try clear hcz23_0
          try clear hcz23_1
          try clear hcz49_0
          try clear hcz49_1
          try clear hcz54_0
          try clear hcz54_1
          try clear hcz59_0
          try clear hcz59_1
          try clear hcz66_0
          try clear hcz66_1
          try clear hcz66_2
          try clear hcz66_3
          try clear hcz67_0
          try clear hcz67_1
          try clear hfz13_0
          try clear hfz13_1
          try clear hfz13_2
          try clear hfz13_3
          try clear hfz18_0
          try clear hfz18_1
          try clear hfz20_0
          try clear hfz20_1
          try clear hfz20_2
          try clear hfz20_3
          try clear hfz22_0
          try clear hfz22_1
          try clear hfz22_2
          try clear hfz22_3
          try clear hfz23_0
          try clear hfz23_1
          try clear hfz49_0
          try clear hfz49_1
          try clear hfz54_0
          try clear hfz54_1
          try clear hfz59_0
          try clear hfz59_1
          try clear hfz66_0
          try clear hfz66_1
          try clear hfz66_2
          try clear hfz66_3
          try clear hfz67_0
          try clear hfz67_1
          try clear hx432_0
          try clear hx432_1
          try clear hx432_2
          try clear hx432_3
          try clear hx432_4
          try clear hx432_5
          try clear hx433_0
          try clear hx433_1
          try clear hx433_2
          try clear hx433_3
          try clear hx433_4
          try clear hx433_5
          try clear hx434_0
          try clear hx434_1
          try clear hx434_2
          try clear hx434_3
          try clear hx434_4
          try clear hx434_5
          try clear hx435_0
          try clear hx435_1
          try clear hx435_2
          try clear hx435_3
          try clear hx435_4
          try clear hx435_5
          try clear hx441_0
          try clear hx441_1
          try clear hx441_2
          try clear hx441_3
          try clear hx441_4
          try clear hx441_5
          try clear hx448_0
          try clear hx448_1
          try clear hx448_2
          try clear hx448_3
          try clear hx448_4
          try clear hx448_5
          try clear p2
          try clear p432
          try clear p433
          try clear p434
          try clear p435
          try clear p441
          try clear p448
          try clear q432
          try clear q433
          try clear q434
          try clear q435
          try clear q441
          try clear q448
          obtain ⟨kq, x156_62, rfl, HA, HJ62, HO_420000, HO_420001, BK412, BK419, HB⟩ := hcut
          cases kq with
          | zero => exact absurd HA.out (by simp [laws_FnTurns.j2])
          | succ kj62 =>
           have H := HA.out
           clear HA
           simp only [laws_FnTurns.j2] at H
           by_cases c84 : x156_62 = true
           ·
            subst c84
            have H1 := H; rw [if_pos rfl] at H1
            clear H
            have H := H1
            clear H1
            obtain rfl := Option.some.inj H
            go_wp2
            repeat (go_quiet (fail); try go_wp2)
            go_ret
            exact ⟨z10_16_, z10_1_⟩
           ·
            replace c84 := Bool.eq_false_iff.mpr c84
            subst c84
            have H1 := H; rw [if_neg (show ¬ (false = true) by decide)] at H1
            clear H
            have H := H1
            clear H1
            replace H := Option.bind_eq_some_iff.mp H
            obtain ⟨⟨t449, t452, t453⟩, A850, H⟩ := H
            try dsimp only at H
            have A85 := A_ A850
            clear A850
            replace H := Option.bind_eq_some_iff.mp H
            obtain ⟨⟨t454, t457⟩, A860, H⟩ := H
            try dsimp only at H
            have A86 := A_ A860
            clear A860
            by_cases c87 : t453 = 4
            ·
             rw [if_pos c87] at H
             have c87b0 := beq_iff_eq.mpr c87
             have c87b1 := bne_eq_false_iff_eq.mpr c87
             clear c87
             obtain rfl := Option.some.inj H
             have hnb88 := NB419_412.out
             have hnc88 := NB412_419.out
             obtain ⟨hcz89_0, hcz89_1⟩ := bc2 BK419.out
             obtain ⟨hfz89_0, hfz89_1⟩ := bf2 BK419.out
             go_wp2_with (first | (go_at_call 18; (with_reducible refine (impl_MoebiusDigits.calls kj62 2 0 0 1 _ _ t413 _ _ t416 t420 t449 t452 t453 _ ?side1 ?side2 ?side3 ?side4 A85.out).mono ?_); (case side1 => have hx_ := (Kd.R_reads' HO_420000.out).2.2; exact kc_); (case side2 => exact (Kd.R_reads' HO_420000.out).2.1); (case side3 => have hx_ := (Kd.R_reads' HO_420001.out).2.2; exact kc_); (case side4 => exact (Kd.R_reads' HO_420001.out).2.1); rintro e w90 ⟨v450, rfl, ho0, hb⟩; have _ := A_ (Kd.R_elder' z10_5_ (Kd.R_base ho0) hb); have _ := A_ (Kd.R_elder' z10_4_ (Kd.R_base ho0) hb); have _ := A_ (Kd.R_lower (Kd.R_new' (Kd.R_new' ho0 (Kd.R_lt z10_5_)) (Kd.R_lt z10_4_)) (below_size z10_1_)); have _ := A_ (blk_below (g := gb412) (o := .cells #[.int .i64 t408, .int .i64 t409, .int .i64 t410, .int .i64 t411] 31 (0, 0)) z10_2_ hb); have _ := A_ (blk_below (g := gb419) (o := .cells #[.slice Ao16 t413.length co16, .slice Ao19 t416.length co19] 33 (0, 0)) z10_3_ hb); have _ := A_ (below_step z10_1_ hb); clear HO_420000 HO_420001 BK412 BK419 HB; rename_i HO_420000 HO_420001 HO451 BK412 BK419 HB; (try clear hb); (try clear ho0); obtain ⟨hcz91_0, hcz91_1, hcz91_2, hcz91_3⟩ := bc4 BK412.out; obtain ⟨hfz91_0, hfz91_1, hfz91_2, hfz91_3⟩ := bf4 BK412.out; obtain ⟨hcz92_0, hcz92_1⟩ := bc2 BK419.out; obtain ⟨hfz92_0, hfz92_1⟩ := bf2 BK419.out) | (go_at_call 11; (with_reducible refine (impl_MoebiusTurns.calls kj62 t408 t409 t410 t411 _ _ t413 _ _ t416 61 t454 t457 _ ?side1 ?side2 ?side3 ?side4 A86.out).mono ?_); (case side1 => have hx_ := (Kd.R_reads' HO_420000.out).2.2; exact kc_); (case side2 => exact (Kd.R_reads' HO_420000.out).2.1); (case side3 => have hx_ := (Kd.R_reads' HO_420001.out).2.2; exact kc_); (case side4 => exact (Kd.R_reads' HO_420001.out).2.1); rintro e w93 ⟨v455, rfl, ho0, hb⟩; have _ := A_ (Kd.R_below z10_5_ hb); have _ := A_ (Kd.R_below z10_4_ hb); have _ := A_ (Kd.R_below z10_24_ hb); have _ := A_ (Kd.R_lower ho0 (below_size z10_1_)); have _ := A_ (blk_below (g := gb412) (o := .cells #[.int .i64 t408, .int .i64 t409, .int .i64 t410, .int .i64 t411] 31 (0, 0)) z10_2_ hb); have _ := A_ (blk_below (g := gb419) (o := .cells #[.slice Ao16 t413.length co16, .slice Ao19 t416.length co19] 33 (0, 0)) z10_3_ hb); have _ := A_ (below_step z10_1_ hb); clear HO_420000 HO_420001 HO451 BK412 BK419 HB; rename_i HO_420000 HO_420001 HO451 HO456 BK412 BK419 HB; (try clear hb); (try clear ho0)))
             repeat (go_quiet (first | (go_at_call 18; (with_reducible refine (impl_MoebiusDigits.calls kj62 2 0 0 1 _ _ t413 _ _ t416 t420 t449 t452 t453 _ ?side1 ?side2 ?side3 ?side4 A85.out).mono ?_); (case side1 => have hx_ := (Kd.R_reads' HO_420000.out).2.2; exact kc_); (case side2 => exact (Kd.R_reads' HO_420000.out).2.1); (case side3 => have hx_ := (Kd.R_reads' HO_420001.out).2.2; exact kc_); (case side4 => exact (Kd.R_reads' HO_420001.out).2.1); rintro e w90 ⟨v450, rfl, ho0, hb⟩; have _ := A_ (Kd.R_elder' z10_5_ (Kd.R_base ho0) hb); have _ := A_ (Kd.R_elder' z10_4_ (Kd.R_base ho0) hb); have _ := A_ (Kd.R_lower (Kd.R_new' (Kd.R_new' ho0 (Kd.R_lt z10_5_)) (Kd.R_lt z10_4_)) (below_size z10_1_)); have _ := A_ (blk_below (g := gb412) (o := .cells #[.int .i64 t408, .int .i64 t409, .int .i64 t410, .int .i64 t411] 31 (0, 0)) z10_2_ hb); have _ := A_ (blk_below (g := gb419) (o := .cells #[.slice Ao16 t413.length co16, .slice Ao19 t416.length co19] 33 (0, 0)) z10_3_ hb); have _ := A_ (below_step z10_1_ hb); clear HO_420000 HO_420001 BK412 BK419 HB; rename_i HO_420000 HO_420001 HO451 BK412 BK419 HB; (try clear hb); (try clear ho0); obtain ⟨hcz91_0, hcz91_1, hcz91_2, hcz91_3⟩ := bc4 BK412.out; obtain ⟨hfz91_0, hfz91_1, hfz91_2, hfz91_3⟩ := bf4 BK412.out; obtain ⟨hcz92_0, hcz92_1⟩ := bc2 BK419.out; obtain ⟨hfz92_0, hfz92_1⟩ := bf2 BK419.out) | (go_at_call 11; (with_reducible refine (impl_MoebiusTurns.calls kj62 t408 t409 t410 t411 _ _ t413 _ _ t416 61 t454 t457 _ ?side1 ?side2 ?side3 ?side4 A86.out).mono ?_); (case side1 => have hx_ := (Kd.R_reads' HO_420000.out).2.2; exact kc_); (case side2 => exact (Kd.R_reads' HO_420000.out).2.1); (case side3 => have hx_ := (Kd.R_reads' HO_420001.out).2.2; exact kc_); (case side4 => exact (Kd.R_reads' HO_420001.out).2.1); rintro e w93 ⟨v455, rfl, ho0, hb⟩; have _ := A_ (Kd.R_below z10_5_ hb); have _ := A_ (Kd.R_below z10_4_ hb); have _ := A_ (Kd.R_below z10_24_ hb); have _ := A_ (Kd.R_lower ho0 (below_size z10_1_)); have _ := A_ (blk_below (g := gb412) (o := .cells #[.int .i64 t408, .int .i64 t409, .int .i64 t410, .int .i64 t411] 31 (0, 0)) z10_2_ hb); have _ := A_ (blk_below (g := gb419) (o := .cells #[.slice Ao16 t413.length co16, .slice Ao19 t416.length co19] 33 (0, 0)) z10_3_ hb); have _ := A_ (below_step z10_1_ hb); clear HO_420000 HO_420001 HO451 BK412 BK419 HB; rename_i HO_420000 HO_420001 HO451 HO456 BK412 BK419 HB; (try clear hb); (try clear ho0))); try go_wp2_with (first | (go_at_call 18; (with_reducible refine (impl_MoebiusDigits.calls kj62 2 0 0 1 _ _ t413 _ _ t416 t420 t449 t452 t453 _ ?side1 ?side2 ?side3 ?side4 A85.out).mono ?_); (case side1 => have hx_ := (Kd.R_reads' HO_420000.out).2.2; exact kc_); (case side2 => exact (Kd.R_reads' HO_420000.out).2.1); (case side3 => have hx_ := (Kd.R_reads' HO_420001.out).2.2; exact kc_); (case side4 => exact (Kd.R_reads' HO_420001.out).2.1); rintro e w90 ⟨v450, rfl, ho0, hb⟩; have _ := A_ (Kd.R_elder' z10_5_ (Kd.R_base ho0) hb); have _ := A_ (Kd.R_elder' z10_4_ (Kd.R_base ho0) hb); have _ := A_ (Kd.R_lower (Kd.R_new' (Kd.R_new' ho0 (Kd.R_lt z10_5_)) (Kd.R_lt z10_4_)) (below_size z10_1_)); have _ := A_ (blk_below (g := gb412) (o := .cells #[.int .i64 t408, .int .i64 t409, .int .i64 t410, .int .i64 t411] 31 (0, 0)) z10_2_ hb); have _ := A_ (blk_below (g := gb419) (o := .cells #[.slice Ao16 t413.length co16, .slice Ao19 t416.length co19] 33 (0, 0)) z10_3_ hb); have _ := A_ (below_step z10_1_ hb); clear HO_420000 HO_420001 BK412 BK419 HB; rename_i HO_420000 HO_420001 HO451 BK412 BK419 HB; (try clear hb); (try clear ho0); obtain ⟨hcz91_0, hcz91_1, hcz91_2, hcz91_3⟩ := bc4 BK412.out; obtain ⟨hfz91_0, hfz91_1, hfz91_2, hfz91_3⟩ := bf4 BK412.out; obtain ⟨hcz92_0, hcz92_1⟩ := bc2 BK419.out; obtain ⟨hfz92_0, hfz92_1⟩ := bf2 BK419.out) | (go_at_call 11; (with_reducible refine (impl_MoebiusTurns.calls kj62 t408 t409 t410 t411 _ _ t413 _ _ t416 61 t454 t457 _ ?side1 ?side2 ?side3 ?side4 A86.out).mono ?_); (case side1 => have hx_ := (Kd.R_reads' HO_420000.out).2.2; exact kc_); (case side2 => exact (Kd.R_reads' HO_420000.out).2.1); (case side3 => have hx_ := (Kd.R_reads' HO_420001.out).2.2; exact kc_); (case side4 => exact (Kd.R_reads' HO_420001.out).2.1); rintro e w93 ⟨v455, rfl, ho0, hb⟩; have _ := A_ (Kd.R_below z10_5_ hb); have _ := A_ (Kd.R_below z10_4_ hb); have _ := A_ (Kd.R_below z10_24_ hb); have _ := A_ (Kd.R_lower ho0 (below_size z10_1_)); have _ := A_ (blk_below (g := gb412) (o := .cells #[.int .i64 t408, .int .i64 t409, .int .i64 t410, .int .i64 t411] 31 (0, 0)) z10_2_ hb); have _ := A_ (blk_below (g := gb419) (o := .cells #[.slice Ao16 t413.length co16, .slice Ao19 t416.length co19] 33 (0, 0)) z10_3_ hb); have _ := A_ (below_step z10_1_ hb); clear HO_420000 HO_420001 HO451 BK412 BK419 HB; rename_i HO_420000 HO_420001 HO451 HO456 BK412 BK419 HB; (try clear hb); (try clear ho0))))
             go_ret
             exact ⟨z10_16_, z10_1_⟩
            ·
             rw [if_neg c87] at H
             have c87b0 : (t453 == 4) = false := beq_eq_false_iff_ne.mpr c87
             have c87b1 : (t453 != 4) = true := bne_iff_ne.mpr c87
             obtain rfl := Option.some.inj H
             have hnb94 := NB419_412.out
             have hnc94 := NB412_419.out
             obtain ⟨hcz95_0, hcz95_1⟩ := bc2 BK419.out
             obtain ⟨hfz95_0, hfz95_1⟩ := bf2 BK419.out
             go_wp2_with (first | (go_at_call 18; (with_reducible refine (impl_MoebiusDigits.calls kj62 2 0 0 1 _ _ t413 _ _ t416 t420 t449 t452 t453 _ ?side1 ?side2 ?side3 ?side4 A85.out).mono ?_); (case side1 => have hx_ := (Kd.R_reads' HO_420000.out).2.2; exact kc_); (case side2 => exact (Kd.R_reads' HO_420000.out).2.1); (case side3 => have hx_ := (Kd.R_reads' HO_420001.out).2.2; exact kc_); (case side4 => exact (Kd.R_reads' HO_420001.out).2.1); rintro e w96 ⟨v450, rfl, ho0, hb⟩; have _ := A_ (Kd.R_elder' z10_5_ (Kd.R_base ho0) hb); have _ := A_ (Kd.R_elder' z10_4_ (Kd.R_base ho0) hb); have _ := A_ (Kd.R_lower (Kd.R_new' (Kd.R_new' ho0 (Kd.R_lt z10_5_)) (Kd.R_lt z10_4_)) (below_size z10_1_)); have _ := A_ (blk_below (g := gb412) (o := .cells #[.int .i64 t408, .int .i64 t409, .int .i64 t410, .int .i64 t411] 31 (0, 0)) z10_2_ hb); have _ := A_ (blk_below (g := gb419) (o := .cells #[.slice Ao16 t413.length co16, .slice Ao19 t416.length co19] 33 (0, 0)) z10_3_ hb); have _ := A_ (below_step z10_1_ hb); clear HO_420000 HO_420001 BK412 BK419 HB; rename_i HO_420000 HO_420001 HO451 BK412 BK419 HB; (try clear hb); (try clear ho0); obtain ⟨hcz97_0, hcz97_1, hcz97_2, hcz97_3⟩ := bc4 BK412.out; obtain ⟨hfz97_0, hfz97_1, hfz97_2, hfz97_3⟩ := bf4 BK412.out; obtain ⟨hcz98_0, hcz98_1⟩ := bc2 BK419.out; obtain ⟨hfz98_0, hfz98_1⟩ := bf2 BK419.out) | (go_at_call 11; (with_reducible refine (impl_MoebiusTurns.calls kj62 t408 t409 t410 t411 _ _ t413 _ _ t416 61 t454 t457 _ ?side1 ?side2 ?side3 ?side4 A86.out).mono ?_); (case side1 => have hx_ := (Kd.R_reads' HO_420000.out).2.2; exact kc_); (case side2 => exact (Kd.R_reads' HO_420000.out).2.1); (case side3 => have hx_ := (Kd.R_reads' HO_420001.out).2.2; exact kc_); (case side4 => exact (Kd.R_reads' HO_420001.out).2.1); rintro e w99 ⟨v455, rfl, ho0, hb⟩; have _ := A_ (Kd.R_below z10_5_ hb); have _ := A_ (Kd.R_below z10_4_ hb); have _ := A_ (Kd.R_below z10_24_ hb); have _ := A_ (Kd.R_lower ho0 (below_size z10_1_)); have _ := A_ (blk_below (g := gb412) (o := .cells #[.int .i64 t408, .int .i64 t409, .int .i64 t410, .int .i64 t411] 31 (0, 0)) z10_2_ hb); have _ := A_ (blk_below (g := gb419) (o := .cells #[.slice Ao16 t413.length co16, .slice Ao19 t416.length co19] 33 (0, 0)) z10_3_ hb); have _ := A_ (below_step z10_1_ hb); clear HO_420000 HO_420001 HO451 BK412 BK419 HB; rename_i HO_420000 HO_420001 HO451 HO456 BK412 BK419 HB; (try clear hb); (try clear ho0)))
             repeat (go_quiet (first | (go_at_call 18; (with_reducible refine (impl_MoebiusDigits.calls kj62 2 0 0 1 _ _ t413 _ _ t416 t420 t449 t452 t453 _ ?side1 ?side2 ?side3 ?side4 A85.out).mono ?_); (case side1 => have hx_ := (Kd.R_reads' HO_420000.out).2.2; exact kc_); (case side2 => exact (Kd.R_reads' HO_420000.out).2.1); (case side3 => have hx_ := (Kd.R_reads' HO_420001.out).2.2; exact kc_); (case side4 => exact (Kd.R_reads' HO_420001.out).2.1); rintro e w96 ⟨v450, rfl, ho0, hb⟩; have _ := A_ (Kd.R_elder' z10_5_ (Kd.R_base ho0) hb); have _ := A_ (Kd.R_elder' z10_4_ (Kd.R_base ho0) hb); have _ := A_ (Kd.R_lower (Kd.R_new' (Kd.R_new' ho0 (Kd.R_lt z10_5_)) (Kd.R_lt z10_4_)) (below_size z10_1_)); have _ := A_ (blk_below (g := gb412) (o := .cells #[.int .i64 t408, .int .i64 t409, .int .i64 t410, .int .i64 t411] 31 (0, 0)) z10_2_ hb); have _ := A_ (blk_below (g := gb419) (o := .cells #[.slice Ao16 t413.length co16, .slice Ao19 t416.length co19] 33 (0, 0)) z10_3_ hb); have _ := A_ (below_step z10_1_ hb); clear HO_420000 HO_420001 BK412 BK419 HB; rename_i HO_420000 HO_420001 HO451 BK412 BK419 HB; (try clear hb); (try clear ho0); obtain ⟨hcz97_0, hcz97_1, hcz97_2, hcz97_3⟩ := bc4 BK412.out; obtain ⟨hfz97_0, hfz97_1, hfz97_2, hfz97_3⟩ := bf4 BK412.out; obtain ⟨hcz98_0, hcz98_1⟩ := bc2 BK419.out; obtain ⟨hfz98_0, hfz98_1⟩ := bf2 BK419.out) | (go_at_call 11; (with_reducible refine (impl_MoebiusTurns.calls kj62 t408 t409 t410 t411 _ _ t413 _ _ t416 61 t454 t457 _ ?side1 ?side2 ?side3 ?side4 A86.out).mono ?_); (case side1 => have hx_ := (Kd.R_reads' HO_420000.out).2.2; exact kc_); (case side2 => exact (Kd.R_reads' HO_420000.out).2.1); (case side3 => have hx_ := (Kd.R_reads' HO_420001.out).2.2; exact kc_); (case side4 => exact (Kd.R_reads' HO_420001.out).2.1); rintro e w99 ⟨v455, rfl, ho0, hb⟩; have _ := A_ (Kd.R_below z10_5_ hb); have _ := A_ (Kd.R_below z10_4_ hb); have _ := A_ (Kd.R_below z10_24_ hb); have _ := A_ (Kd.R_lower ho0 (below_size z10_1_)); have _ := A_ (blk_below (g := gb412) (o := .cells #[.int .i64 t408, .int .i64 t409, .int .i64 t410, .int .i64 t411] 31 (0, 0)) z10_2_ hb); have _ := A_ (blk_below (g := gb419) (o := .cells #[.slice Ao16 t413.length co16, .slice Ao19 t416.length co19] 33 (0, 0)) z10_3_ hb); have _ := A_ (below_step z10_1_ hb); clear HO_420000 HO_420001 HO451 BK412 BK419 HB; rename_i HO_420000 HO_420001 HO451 HO456 BK412 BK419 HB; (try clear hb); (try clear ho0))); try go_wp2_with (first | (go_at_call 18; (with_reducible refine (impl_MoebiusDigits.calls kj62 2 0 0 1 _ _ t413 _ _ t416 t420 t449 t452 t453 _ ?side1 ?side2 ?side3 ?side4 A85.out).mono ?_); (case side1 => have hx_ := (Kd.R_reads' HO_420000.out).2.2; exact kc_); (case side2 => exact (Kd.R_reads' HO_420000.out).2.1); (case side3 => have hx_ := (Kd.R_reads' HO_420001.out).2.2; exact kc_); (case side4 => exact (Kd.R_reads' HO_420001.out).2.1); rintro e w96 ⟨v450, rfl, ho0, hb⟩; have _ := A_ (Kd.R_elder' z10_5_ (Kd.R_base ho0) hb); have _ := A_ (Kd.R_elder' z10_4_ (Kd.R_base ho0) hb); have _ := A_ (Kd.R_lower (Kd.R_new' (Kd.R_new' ho0 (Kd.R_lt z10_5_)) (Kd.R_lt z10_4_)) (below_size z10_1_)); have _ := A_ (blk_below (g := gb412) (o := .cells #[.int .i64 t408, .int .i64 t409, .int .i64 t410, .int .i64 t411] 31 (0, 0)) z10_2_ hb); have _ := A_ (blk_below (g := gb419) (o := .cells #[.slice Ao16 t413.length co16, .slice Ao19 t416.length co19] 33 (0, 0)) z10_3_ hb); have _ := A_ (below_step z10_1_ hb); clear HO_420000 HO_420001 BK412 BK419 HB; rename_i HO_420000 HO_420001 HO451 BK412 BK419 HB; (try clear hb); (try clear ho0); obtain ⟨hcz97_0, hcz97_1, hcz97_2, hcz97_3⟩ := bc4 BK412.out; obtain ⟨hfz97_0, hfz97_1, hfz97_2, hfz97_3⟩ := bf4 BK412.out; obtain ⟨hcz98_0, hcz98_1⟩ := bc2 BK419.out; obtain ⟨hfz98_0, hfz98_1⟩ := bf2 BK419.out) | (go_at_call 11; (with_reducible refine (impl_MoebiusTurns.calls kj62 t408 t409 t410 t411 _ _ t413 _ _ t416 61 t454 t457 _ ?side1 ?side2 ?side3 ?side4 A86.out).mono ?_); (case side1 => have hx_ := (Kd.R_reads' HO_420000.out).2.2; exact kc_); (case side2 => exact (Kd.R_reads' HO_420000.out).2.1); (case side3 => have hx_ := (Kd.R_reads' HO_420001.out).2.2; exact kc_); (case side4 => exact (Kd.R_reads' HO_420001.out).2.1); rintro e w99 ⟨v455, rfl, ho0, hb⟩; have _ := A_ (Kd.R_below z10_5_ hb); have _ := A_ (Kd.R_below z10_4_ hb); have _ := A_ (Kd.R_below z10_24_ hb); have _ := A_ (Kd.R_lower ho0 (below_size z10_1_)); have _ := A_ (blk_below (g := gb412) (o := .cells #[.int .i64 t408, .int .i64 t409, .int .i64 t410, .int .i64 t411] 31 (0, 0)) z10_2_ hb); have _ := A_ (blk_below (g := gb419) (o := .cells #[.slice Ao16 t413.length co16, .slice Ao19 t416.length co19] 33 (0, 0)) z10_3_ hb); have _ := A_ (below_step z10_1_ hb); clear HO_420000 HO_420001 HO451 BK412 BK419 HB; rename_i HO_420000 HO_420001 HO451 HO456 BK412 BK419 HB; (try clear hb); (try clear ho0))))
             go_ret
             exact ⟨z10_16_, z10_1_⟩
        ·
         rw [if_neg c61] at H
         have c61b0 : (t424 == 0) = false := beq_eq_false_iff_ne.mpr c61
         have c61b1 : (t424 != 0) = true := bne_iff_ne.mpr c61
         by_cases c100 : t424 = 7
         ·
          rw [if_pos c100] at H
          have c100b0 := beq_iff_eq.mpr c100
          have c100b1 := bne_eq_false_iff_eq.mpr c100
          clear c100
          obtain rfl := Option.some.inj H
          obtain ⟨Ao101, co101, eo101⟩ := Kd.R_slice HO_10.out
          subst eo101
          go_wp2
          repeat (go_quiet (fail); try go_wp2)
          go_ret
          exact ⟨z10_16_, z10_1_⟩
         ·
          rw [if_neg c100] at H
          have c100b0 : (t424 == 7) = false := beq_eq_false_iff_ne.mpr c100
          have c100b1 : (t424 != 7) = true := bne_iff_ne.mpr c100
          obtain rfl := Option.some.inj H
          obtain ⟨Ao102, co102, eo102⟩ := Kd.R_slice HO_10.out
          subst eo102
          go_wp2
          repeat (go_quiet (fail); try go_wp2)
          go_ret
          exact ⟨z10_16_, z10_1_⟩
/-- THE ONE PURE STATEMENT of laws_FnTurns: yours. -/
def laws_FnTurns.Pure : Prop := ∀ (l0 : List Int) (l1 : List Int), l0.length ≤ maxLen → l0.length * 1 ≤ 140737488351232 → (∀ x ∈ l0, (Lit.int .u8 x).wf = true) → l1.length ≤ maxLen → l1.length * 1 ≤ 140737488351232 → (∀ x ∈ l1, (Lit.int .u8 x).wf = true) → ∃ k, laws_FnTurns.f k l0 l1 = some true
theorem laws_FnTurns.walk (P : laws_FnTurns.Pure) (a0 : Option Addr) (len0 cap0 : Nat) (z0 : List Int) (a1 : Option Addr) (len1 cap1 : Nat) (z1 : List Int) (w : World) (w0 : (a0 = none ∧ len0 = 0 ∧ cap0 = 0 ∧ z0 = []) ∨ ∃ x, a0 = some x ∧ len0 ≤ cap0 ∧ cap0 ≤ maxLen ∧ z0.length = cap0 ∧ (∀ i, i < z0.length → w.cell? (x.add i) = some (.int .u8 (z0.getD i 0))) ∧ ∀ n ∈ z0, (Lit.int .u8 n).wf = true) (y0 : len0 * 1 ≤ 140737488351232) (w1 : (a1 = none ∧ len1 = 0 ∧ cap1 = 0 ∧ z1 = []) ∨ ∃ x, a1 = some x ∧ len1 ≤ cap1 ∧ cap1 ≤ maxLen ∧ z1.length = cap1 ∧ (∀ i, i < z1.length → w.cell? (x.add i) = some (.int .u8 (z1.getD i 0))) ∧ ∀ n ∈ z1, (Lit.int .u8 n).wf = true) (y1 : len1 * 1 ≤ 140737488351232) :
  Calls Try.prog 5 #[.slice a0 len0 cap0, .slice a1 len1 cap1] w fun e w' => e = .returned (.bool true) ∧ Below w.heap.size w w' := by
 obtain ⟨l0, rfl, hr0, hm0, hw0, hc0⟩ := ReadsInt.ofRowC w0
 obtain ⟨l1, rfl, hr1, hm1, hw1, hc1⟩ := ReadsInt.ofRowC w1
 obtain ⟨k, h⟩ := P l0 l1 hm0 y0 hw0 hm1 y1 hw1
 refine (laws_FnTurns.calls k _ _ l0 _ _ l1 true w (Kd.C_of_reads (d := (0 : Int)) (h1 := fun _ => rfl) hr0) hc0 (Kd.C_of_reads (d := (0 : Int)) (h1 := fun _ => rfl) hr1) hc1 h).mono ?_
 rintro e w' ⟨rfl, hd⟩
 exact ⟨rfl, hd⟩
end Go.Proofs.Ytififhihgkbafaa.PM

-- Written by a program (xprint.py) out of the translation's own print; Lean checks it.
import Derived.Test.YtpfnohdnaocpdaaPTx0
import Derived.Test.YtpfnohdnaocpdaaPTx1
import Derived.Test.YtpfnohdnaocpdaaPTx2
import Derived.Test.YtpfnohdnaocpdaaPTx3
import Derived.Test.YtpfnohdnaocpdaaPTx8
import Derived.Test.YtpfnohdnaocpdaaPTx13
import Derived.Test.YtpfnohdnaocpdaaPTx14
namespace Go.Proofs.Ytpfnohdnaocpdaa.PT
open Go.RowKit Go.Proofs.YtpfnohdnaocpdaaW.PrintWords Go.Proofs.YtpfnohdnaocpdaaW.PrintLast Go.Proofs.YtpfnohdnaocpdaaW.PrintMore Go.Proofs.YtpfnohdnaocpdaaRP
attribute [local go_sem] Go.Proofs.YtpfnohdnaocpdaaRP.tmod_len   -- for this text's walks alone
set_option linter.unusedVariables false
set_option linter.unusedSimpArgs false
theorem z15_1_ {P : Prop} (h : P := by repeat (first | (with_reducible first | exact HB.out | apply below_alloc | apply pw_below_drewN | apply below_drew1 | refine below_set ?_ GE371.out | refine below_set ?_ GE383.out | refine below_set ?_ GE387.out | refine below_set ?_ GE395.out) | exact HB.out)) : P := h
theorem z15_2_ {P : Prop} (h : P := by (with_reducible repeat (first | refine blk_drewN ?_ _ | refine blk_drew ?_ | refine blk_alloc ?_ _)); exact BK371.out) : P := h
theorem z15_3_ {P : Prop} (h : P := by (try simp only [List.map_toArray, List.map_cons, List.map_nil]); first | done | rfl | (simp only [List.length_drop, List.length_take]; rfl)) : P := h
theorem z15_4_ {P : Prop} (h : P := by (with_reducible repeat (first | refine blk_drewN ?_ _ | refine blk_drew ?_ | refine blk_alloc ?_ _)); exact BK383.out) : P := h
theorem z15_5_ {P : Prop} (h : P := by (with_reducible repeat (first | refine blk_drewN ?_ _ | refine blk_drew ?_ | refine blk_alloc ?_ _)); exact BK387.out) : P := h
theorem z15_6_ {P : Prop} (h : P := by repeat (first | (with_reducible first | exact HB.out | apply below_alloc | apply pw_below_drewN | apply below_drew1 | refine below_set ?_ GE371.out) | exact HB.out)) : P := h
theorem z15_7_ {P : Prop} (h : P := by (with_reducible repeat (first | refine blk_drewN ?_ _ | refine blk_drew ?_ | refine blk_alloc ?_ _)); exact BK395.out) : P := h
theorem z15_8_ {P : Prop} (h : P := by repeat (first | (with_reducible first | exact HB.out | apply below_alloc | apply pw_below_drewN | apply below_drew1 | refine below_set ?_ GE371.out | refine below_set ?_ GE383.out | refine below_set ?_ GE387.out) | exact HB.out)) : P := h
theorem z15_9_ {P : Prop} (h : P := by (with_reducible repeat (first | apply Kd.R_alloc | apply Kd.R_drewN | apply Kd.R_drew)); exact HO_396001.out) : P := h
theorem z15_10_ {P : Prop} (h : P := by (with_reducible repeat (first | apply Kd.R_alloc | apply Kd.R_drewN | apply Kd.R_drew)); exact HO_396000.out) : P := h
theorem z15_11_ {P : Prop} (h : P := by (with_reducible repeat (first | apply Kd.R_alloc | apply Kd.R_drewN | apply Kd.R_drew)); exact HO_388000.out) : P := h
theorem z15_12_ {P : Prop} (h : P := by (with_reducible repeat (first | apply Kd.R_alloc | apply Kd.R_drewN | apply Kd.R_drew)); exact HO_384001.out) : P := h
theorem z15_13_ {P : Prop} (h : P := by (with_reducible repeat (first | apply Kd.R_alloc | apply Kd.R_drewN | apply Kd.R_drew)); exact HO_384000.out) : P := h
theorem z15_14_ {P : Prop} (h : P := by (with_reducible repeat (first | apply Kd.R_alloc | apply Kd.R_drewN | apply Kd.R_drew)); exact (Kd.R_mono (Kd.R_far (p := ⟨gb418, 1, none⟩) (Kd.R_far (p := ⟨gb418, 0, none⟩) (Kd.R_types HO_384001.out BK418.out (by decide)) (fun _ hk => hk.2) (.slice Ao113 t411.length co113)) (fun _ hk => hk.2) (.slice Ao119 t414.length co119)) (fun _ h_ => h_.1))) : P := h
theorem z15_15_ {P : Prop} (h : P := by (with_reducible repeat (first | apply Kd.R_alloc | apply Kd.R_drewN | apply Kd.R_drew)); exact (Kd.R_mono (Kd.R_far (p := ⟨gb418, 1, none⟩) (Kd.R_far (p := ⟨gb418, 0, none⟩) (Kd.R_types HO_384000.out BK418.out (by decide)) (fun _ hk => hk.2) (.slice Ao113 t411.length co113)) (fun _ hk => hk.2) (.slice Ao119 t414.length co119)) (fun _ h_ => h_.1))) : P := h
theorem z15_16_ {P : Prop} (h : P := by (with_reducible repeat (first | apply Kd.R_alloc | apply Kd.R_drewN | apply Kd.R_drew)); exact (Kd.R_mono (Kd.R_far (p := ⟨gb418, 1, none⟩) (Kd.R_far (p := ⟨gb418, 0, none⟩) (Kd.R_types HO416.out BK418.out (by decide)) (fun _ hk => hk.2) (.slice Ao113 t411.length co113)) (fun _ hk => hk.2) (.slice Ao119 t414.length co119)) (fun _ h_ => h_.1))) : P := h
theorem z15_17_ {P : Prop} (h : P := by (with_reducible repeat (first | apply Kd.R_alloc | apply Kd.R_drewN | apply Kd.R_drew)); exact (Kd.R_mono (Kd.R_far (p := ⟨gb418, 1, none⟩) (Kd.R_far (p := ⟨gb418, 0, none⟩) (Kd.R_types HO413.out BK418.out (by decide)) (fun _ hk => hk.2) (.slice Ao113 t411.length co113)) (fun _ hk => hk.2) (.slice Ao119 t414.length co119)) (fun _ h_ => h_.1))) : P := h
theorem z15_18_ {P : Prop} (h : P := by (with_reducible repeat (first | apply Kd.R_alloc | apply Kd.R_drewN | apply Kd.R_drew)); exact (Kd.R_mono (Kd.R_far (p := ⟨gb395, 1, none⟩) (Kd.R_far (p := ⟨gb395, 0, none⟩) (Kd.R_types HO393.out BK395.out (by decide)) (fun _ hk => hk.2) (.slice Ao33 t388.length co33)) (fun _ hk => hk.2) (.slice Ao38 t391.length co38)) (fun _ h_ => h_.1))) : P := h
theorem z15_19_ {P : Prop} (h : P := by (with_reducible repeat (first | apply Kd.R_alloc | apply Kd.R_drewN | apply Kd.R_drew)); exact (Kd.R_mono (Kd.R_far (p := ⟨gb395, 1, none⟩) (Kd.R_far (p := ⟨gb395, 0, none⟩) (Kd.R_types HO390.out BK395.out (by decide)) (fun _ hk => hk.2) (.slice Ao33 t388.length co33)) (fun _ hk => hk.2) (.slice Ao38 t391.length co38)) (fun _ h_ => h_.1))) : P := h
theorem z15_20_ {P : Prop} (h : P := by (with_reducible repeat (first | apply Kd.R_alloc | apply Kd.R_drewN | apply Kd.R_drew)); exact (Kd.R_mono (Kd.R_far (p := ⟨gb395, 1, none⟩) (Kd.R_far (p := ⟨gb395, 0, none⟩) (Kd.R_types HO381.out BK395.out (by decide)) (fun _ hk => hk.2) (.slice Ao33 t388.length co33)) (fun _ hk => hk.2) (.slice Ao38 t391.length co38)) (fun _ h_ => h_.1))) : P := h
theorem z15_21_ {P : Prop} (h : P := by (with_reducible repeat (first | apply Kd.R_alloc | apply Kd.R_drewN | apply Kd.R_drew)); exact (Kd.R_mono (Kd.R_far (p := ⟨gb395, 1, none⟩) (Kd.R_far (p := ⟨gb395, 0, none⟩) (Kd.R_types HO378.out BK395.out (by decide)) (fun _ hk => hk.2) (.slice Ao33 t388.length co33)) (fun _ hk => hk.2) (.slice Ao38 t391.length co38)) (fun _ h_ => h_.1))) : P := h
theorem z15_22_ {P : Prop} (h : P := by repeat (first | (with_reducible first | exact HB.out | apply below_alloc | apply pw_below_drewN | apply below_drew1 | refine below_set ?_ GE371.out | refine below_set ?_ GE383.out) | exact HB.out)) : P := h
theorem z15_23_ {P : Prop} (h : P := by repeat (first | (with_reducible first | exact HB.out | apply below_alloc | apply pw_below_drewN | apply below_drew1) | exact HB.out)) : P := h
theorem z15_24_ {P : Prop} (h : P := by repeat (first | (with_reducible first | exact HB.out | apply below_alloc | apply pw_below_drewN | apply below_drew1 | refine below_set ?_ GE371.out | refine below_set ?_ GE383.out | refine below_set ?_ GE387.out | refine below_set ?_ GE395.out | refine below_set ?_ GE418.out) | exact HB.out)) : P := h
theorem z15_25_ {P : Prop} (h : P := by (with_reducible repeat (first | apply Kd.R_alloc | apply Kd.R_drewN | apply Kd.R_drew)); exact (Kd.R_mono (Kd.R_far (p := ⟨gb387, 0, none⟩) (Kd.R_types HO381.out BK387.out (by decide)) (fun _ hk => hk.2) (.slice Ao27 t384.length co27)) (fun _ h_ => h_.1))) : P := h
theorem z15_26_ {P : Prop} (h : P := by (with_reducible repeat (first | apply Kd.R_alloc | apply Kd.R_drewN | apply Kd.R_drew)); exact (Kd.R_mono (Kd.R_far (p := ⟨gb387, 0, none⟩) (Kd.R_types HO378.out BK387.out (by decide)) (fun _ hk => hk.2) (.slice Ao27 t384.length co27)) (fun _ h_ => h_.1))) : P := h
theorem z15_27_ {P : Prop} (h : P := by (with_reducible repeat (first | refine blk_drewN ?_ _ | refine blk_drew ?_ | refine blk_alloc ?_ _)); refine blk_put (cs := #[.slice Ao113 t411.length co113, .slice none 0 0]) ?_ 1 _ rfl; (with_reducible repeat (first | refine blk_drewN ?_ _ | refine blk_drew ?_ | refine blk_alloc ?_ _)); refine blk_put (cs := #[.slice none 0 0, .slice none 0 0]) ?_ 0 _ rfl; (with_reducible repeat (first | refine blk_drewN ?_ _ | refine blk_drew ?_ | refine blk_alloc ?_ _)); exact BK418.out) : P := h
theorem z15_28_ {P : Prop} (h : P := by (with_reducible repeat (first | refine blk_drewN ?_ _ | refine blk_drew ?_ | refine blk_alloc ?_ _)); refine blk_put (cs := #[.slice Ao33 t388.length co33, .slice none 0 0]) ?_ 1 _ rfl; (with_reducible repeat (first | refine blk_drewN ?_ _ | refine blk_drew ?_ | refine blk_alloc ?_ _)); refine blk_put (cs := #[.slice none 0 0, .slice none 0 0]) ?_ 0 _ rfl; (with_reducible repeat (first | refine blk_drewN ?_ _ | refine blk_drew ?_ | refine blk_alloc ?_ _)); exact BK395.out) : P := h
theorem z15_29_ {P : Prop} (h : P := by first | rfl | (simp; done) | (simp [*]; done) | (simp [isE_]; done)) : P := h
theorem z15_30_ {P : Prop} (h : P := by (with_reducible repeat (first | refine blk_drewN ?_ _ | refine blk_drew ?_ | refine blk_alloc ?_ _)); refine blk_far ?_ NB395_418.out _; (with_reducible repeat (first | refine blk_drewN ?_ _ | refine blk_drew ?_ | refine blk_alloc ?_ _)); refine blk_far ?_ NB395_418.out _; (with_reducible repeat (first | refine blk_drewN ?_ _ | refine blk_drew ?_ | refine blk_alloc ?_ _)); exact BK395.out) : P := h
theorem z15_31_ {P : Prop} (h : P := by (with_reducible repeat (first | refine blk_drewN ?_ _ | refine blk_drew ?_ | refine blk_alloc ?_ _)); refine blk_far ?_ NB387_418.out _; (with_reducible repeat (first | refine blk_drewN ?_ _ | refine blk_drew ?_ | refine blk_alloc ?_ _)); refine blk_far ?_ NB387_418.out _; (with_reducible repeat (first | refine blk_drewN ?_ _ | refine blk_drew ?_ | refine blk_alloc ?_ _)); exact BK387.out) : P := h
theorem z15_32_ {P : Prop} (h : P := by (with_reducible repeat (first | refine blk_drewN ?_ _ | refine blk_drew ?_ | refine blk_alloc ?_ _)); refine blk_far ?_ NB387_395.out _; (with_reducible repeat (first | refine blk_drewN ?_ _ | refine blk_drew ?_ | refine blk_alloc ?_ _)); refine blk_far ?_ NB387_395.out _; (with_reducible repeat (first | refine blk_drewN ?_ _ | refine blk_drew ?_ | refine blk_alloc ?_ _)); exact BK387.out) : P := h
theorem z15_33_ {P : Prop} (h : P := by (with_reducible repeat (first | refine blk_drewN ?_ _ | refine blk_drew ?_ | refine blk_alloc ?_ _)); refine blk_far ?_ NB383_418.out _; (with_reducible repeat (first | refine blk_drewN ?_ _ | refine blk_drew ?_ | refine blk_alloc ?_ _)); refine blk_far ?_ NB383_418.out _; (with_reducible repeat (first | refine blk_drewN ?_ _ | refine blk_drew ?_ | refine blk_alloc ?_ _)); exact BK383.out) : P := h
theorem z15_34_ {P : Prop} (h : P := by (with_reducible repeat (first | refine blk_drewN ?_ _ | refine blk_drew ?_ | refine blk_alloc ?_ _)); refine blk_far ?_ NB383_395.out _; (with_reducible repeat (first | refine blk_drewN ?_ _ | refine blk_drew ?_ | refine blk_alloc ?_ _)); refine blk_far ?_ NB383_395.out _; (with_reducible repeat (first | refine blk_drewN ?_ _ | refine blk_drew ?_ | refine blk_alloc ?_ _)); exact BK383.out) : P := h
theorem z15_35_ {P : Prop} (h : P := by (with_reducible repeat (first | refine blk_drewN ?_ _ | refine blk_drew ?_ | refine blk_alloc ?_ _)); refine blk_far ?_ NB371_418.out _; (with_reducible repeat (first | refine blk_drewN ?_ _ | refine blk_drew ?_ | refine blk_alloc ?_ _)); refine blk_far ?_ NB371_418.out _; (with_reducible repeat (first | refine blk_drewN ?_ _ | refine blk_drew ?_ | refine blk_alloc ?_ _)); exact BK371.out) : P := h
theorem z15_36_ {P : Prop} (h : P := by (with_reducible repeat (first | refine blk_drewN ?_ _ | refine blk_drew ?_ | refine blk_alloc ?_ _)); refine blk_far ?_ NB371_395.out _; (with_reducible repeat (first | refine blk_drewN ?_ _ | refine blk_drew ?_ | refine blk_alloc ?_ _)); refine blk_far ?_ NB371_395.out _; (with_reducible repeat (first | refine blk_drewN ?_ _ | refine blk_drew ?_ | refine blk_alloc ?_ _)); exact BK371.out) : P := h
theorem z15_37_ {P : Prop} (h : P := by (with_reducible repeat (first | apply Kd.R_alloc | apply Kd.R_drewN | apply Kd.R_drew)); exact (Kd.R_mono (Kd.R_far (p := ⟨gb418, 1, none⟩) (Kd.R_far (p := ⟨gb418, 0, none⟩) (Kd.R_types HO_396001.out BK418.out (by decide)) (fun _ hk => hk.2) (.slice Ao113 t411.length co113)) (fun _ hk => hk.2) (.slice Ao119 t414.length co119)) (fun _ h_ => h_.1))) : P := h
theorem z15_38_ {P : Prop} (h : P := by (with_reducible repeat (first | apply Kd.R_alloc | apply Kd.R_drewN | apply Kd.R_drew)); exact (Kd.R_mono (Kd.R_far (p := ⟨gb418, 1, none⟩) (Kd.R_far (p := ⟨gb418, 0, none⟩) (Kd.R_types HO_396000.out BK418.out (by decide)) (fun _ hk => hk.2) (.slice Ao113 t411.length co113)) (fun _ hk => hk.2) (.slice Ao119 t414.length co119)) (fun _ h_ => h_.1))) : P := h
theorem z15_39_ {P : Prop} (h : P := by (with_reducible repeat (first | apply Kd.R_alloc | apply Kd.R_drewN | apply Kd.R_drew)); exact (Kd.R_mono (Kd.R_far (p := ⟨gb418, 1, none⟩) (Kd.R_far (p := ⟨gb418, 0, none⟩) (Kd.R_types HO_388000.out BK418.out (by decide)) (fun _ hk => hk.2) (.slice Ao113 t411.length co113)) (fun _ hk => hk.2) (.slice Ao119 t414.length co119)) (fun _ h_ => h_.1))) : P := h
theorem z15_40_ {P : Prop} (h : P := by (with_reducible repeat (first | apply Kd.R_alloc | apply Kd.R_drewN | apply Kd.R_drew)); exact (Kd.R_mono (Kd.R_far (p := ⟨gb418, 1, none⟩) (Kd.R_far (p := ⟨gb418, 0, none⟩) (Kd.R_types HO410.out BK418.out (by decide)) (fun _ hk => hk.2) (.slice Ao113 t411.length co113)) (fun _ hk => hk.2) (.slice Ao119 t414.length co119)) (fun _ h_ => h_.1))) : P := h
theorem z15_41_ {P : Prop} (h : P := by (with_reducible repeat (first | apply Kd.R_alloc | apply Kd.R_drewN | apply Kd.R_drew)); exact (Kd.R_mono (Kd.R_far (p := ⟨gb395, 1, none⟩) (Kd.R_far (p := ⟨gb395, 0, none⟩) (Kd.R_types HO386.out BK395.out (by decide)) (fun _ hk => hk.2) (.slice Ao33 t388.length co33)) (fun _ hk => hk.2) (.slice Ao38 t391.length co38)) (fun _ h_ => h_.1))) : P := h
theorem z15_42_ {P : Prop} (h : P := by (with_reducible repeat (first | apply Kd.R_alloc | apply Kd.R_drewN | apply Kd.R_drew)); exact (Kd.R_mono (Kd.R_far (p := ⟨gb395, 1, none⟩) (Kd.R_far (p := ⟨gb395, 0, none⟩) (Kd.R_types HO375.out BK395.out (by decide)) (fun _ hk => hk.2) (.slice Ao33 t388.length co33)) (fun _ hk => hk.2) (.slice Ao38 t391.length co38)) (fun _ h_ => h_.1))) : P := h
theorem z15_43_ {P : Prop} (h : P := by (with_reducible repeat (first | apply Kd.R_alloc | apply Kd.R_drewN | apply Kd.R_drew)); exact (Kd.R_mono (Kd.R_far (p := ⟨gb383, 1, none⟩) (Kd.R_far (p := ⟨gb383, 0, none⟩) (Kd.R_types HO375.out BK383.out (by decide)) (fun _ hk => hk.2) (.slice Ao20 t376.length co20)) (fun _ hk => hk.2) (.slice Ao23 t379.length co23)) (fun _ h_ => h_.1))) : P := h
theorem z15_44_ {P : Prop} (h : P := by (with_reducible repeat (first | apply Kd.R_alloc | apply Kd.R_drewN | apply Kd.R_drew)); exact HO375.out) : P := h
theorem z15_45_ {P : Prop} (h : P := by (with_reducible repeat (first | apply Kd.R_alloc | apply Kd.R_drewN | apply Kd.R_drew)); exact (Kd.R_mono (Kd.R_far (p := ⟨gb387, 0, none⟩) (Kd.R_types HO386.out BK387.out (by decide)) (fun _ hk => hk.2) (.slice Ao27 t384.length co27)) (fun _ h_ => h_.1))) : P := h
theorem z15_46_ {P : Prop} (h : P := by (with_reducible repeat (first | apply Kd.R_alloc | apply Kd.R_drewN | apply Kd.R_drew)); exact HO399.out) : P := h
theorem z15_47_ {P : Prop} (h : P := by (with_reducible repeat (first | apply Kd.R_alloc | apply Kd.R_drewN | apply Kd.R_drew)); exact HO381.out) : P := h
theorem z15_48_ {P : Prop} (h : P := by (with_reducible repeat (first | apply Kd.R_alloc | apply Kd.R_drewN | apply Kd.R_drew)); exact HO378.out) : P := h
/-! ### laws_FnExactConstantOf: function 11 -/
mutual
def laws_FnExactConstantOf.j0 : Nat → Int → Int → Bool → List (S158) → List Int → List Int → List (S89) → List Int → List Int → Option (Bool)
 | 0, _, _, _, _, _, _, _, _, _ => none
 | k + 1, x5, x8, x40, x372000, x384000, x384001, x388000, x396000, x396001 => if x40 = true then (some false) else ((laws_toTree.f k x372000).bind fun t397 => ((laws_eqTree.f k x388000 t397).bind fun t400 => (if t400 = true then ((laws_markTree.f k x388000 1).bind fun bt401 => (if bt401.1 < 0 then (laws_FnExactConstantOf.j1 k x5 true x372000 x384000 x384001 x396000 x396001) else ((laws_eqStream.f k x396000 x396001 x384000 x384001).bind fun t403 => (if t403 = true then (laws_FnExactConstantOf.j1 k x5 (x8 != x5) x372000 x384000 x384001 x396000 x396001) else (laws_FnExactConstantOf.j1 k x5 true x372000 x384000 x384001 x396000 x396001))))) else (some false))))
def laws_FnExactConstantOf.j1 : Nat → Int → Bool → List (S158) → List Int → List Int → List Int → List Int → Option (Bool)
 | 0, _, _, _, _, _, _, _ => none
 | k + 1, x5, x61, x372000, x384000, x384001, x396000, x396001 => if x61 = true then (some false) else ((laws_markStream.f k x396000 x396001 1).bind fun bt404 => ((laws_heldStream.f k bt404.2.1 bt404.2.2 1).bind fun t407 => (if t407 < 0 then (some false) else (if t407 = bt404.1 then ((laws_toTree.f k x372000).bind fun t408 => ((impl_ConstantOf.f k t408).bind fun bt411 => ((laws_eqStream.f k bt411.1 bt411.2.1 x384000 x384001).bind fun t419 => (if t419 = true then (laws_FnExactConstantOf.j2 k bt404.1 (bt411.2.2 != x5) bt404.2.1 bt404.2.2) else (laws_FnExactConstantOf.j2 k bt404.1 true bt404.2.1 bt404.2.2))))) else (some false)))))
def laws_FnExactConstantOf.j2 : Nat → Int → Bool → List Int → List Int → Option (Bool)
 | 0, _, _, _, _ => none
 | k + 1, x10, x87, x396000, x396001 => if x87 = true then (some false) else ((laws_heldStream.f k x396000 x396001 1).bind fun t420 => (if t420 < 0 then (some false) else (if t420 = x10 then (some true) else (some false))))
end
def laws_FnExactConstantOf.f (k : Nat) (l0_0 : List (S158)) : Option (Bool) := (laws_szTree.f l0_0 1048576).bind fun t372 => (if t372 < 0 then (some true) else ((laws_toTree.f k l0_0).bind fun t373 => ((spec_ConstantOf.f k t373).bind fun bt376 => ((laws_toTree.f k l0_0).bind fun t384 => ((impl_ConstantOf.f k t384).bind fun bt388 => ((laws_eqStream.f k bt388.1 bt388.2.1 bt376.1 bt376.2.1).bind fun t396 => (if t396 = true then (laws_FnExactConstantOf.j0 k bt376.2.2 bt388.2.2 (bt388.2.2 != bt376.2.2) l0_0 bt376.1 bt376.2.1 t384 bt388.1 bt388.2.1) else (laws_FnExactConstantOf.j0 k bt376.2.2 bt388.2.2 true l0_0 bt376.1 bt376.2.1 t384 bt388.1 bt388.2.1))))))))
theorem laws_FnExactConstantOf.mono_l : ∀ k, (∀ y0 y1 y2 y3 y4 y5 y6 y7 y8, LeO (laws_FnExactConstantOf.j0 k y0 y1 y2 y3 y4 y5 y6 y7 y8) (laws_FnExactConstantOf.j0 (k + 1) y0 y1 y2 y3 y4 y5 y6 y7 y8)) ∧ (∀ y0 y1 y2 y3 y4 y5 y6, LeO (laws_FnExactConstantOf.j1 k y0 y1 y2 y3 y4 y5 y6) (laws_FnExactConstantOf.j1 (k + 1) y0 y1 y2 y3 y4 y5 y6)) ∧ (∀ y0 y1 y2 y3, LeO (laws_FnExactConstantOf.j2 k y0 y1 y2 y3) (laws_FnExactConstantOf.j2 (k + 1) y0 y1 y2 y3))
 | 0 => ⟨fun _ _ _ _ _ _ _ _ _ r h => by simp [laws_FnExactConstantOf.j0] at h, fun _ _ _ _ _ _ _ r h => by simp [laws_FnExactConstantOf.j1] at h, fun _ _ _ _ r h => by simp [laws_FnExactConstantOf.j2] at h⟩
 | k + 1 => by
  obtain ⟨ih0, ih1, ih2⟩ := laws_FnExactConstantOf.mono_l k
  refine ⟨?_, ?_, ?_⟩
  ·
   intro y0 y1 y2 y3 y4 y5 y6 y7 y8
   unfold laws_FnExactConstantOf.j0
   repeat' first
   | (with_reducible exact ih0 _ _ _ _ _ _ _ _ _)
   | (with_reducible exact ih1 _ _ _ _ _ _ _)
   | (with_reducible exact ih2 _ _ _ _)
   | (with_reducible exact impl_ConstantOf.mono _ _)
   | (with_reducible exact laws_eqStream.mono _ _ _ _ _)
   | (with_reducible exact laws_eqTree.mono _ _ _)
   | (with_reducible exact laws_heldStream.mono _ _ _ _)
   | (with_reducible exact laws_markStream.mono _ _ _ _)
   | (with_reducible exact laws_markTree.mono _ _ _)
   | (with_reducible exact laws_toTree.mono _ _)
   | (with_reducible exact spec_ConstantOf.mono _ _)
   | (with_reducible exact LeO.refl _)
   | (with_reducible exact LeO.none _)
   | (with_reducible refine LeO.ite ?_ ?_)
   | (with_reducible refine LeO.bind ?_ (fun _ => ?_))
   | refine LeO.bind ?_ (fun _ => ?_)
  ·
   intro y0 y1 y2 y3 y4 y5 y6
   unfold laws_FnExactConstantOf.j1
   repeat' first
   | (with_reducible exact ih0 _ _ _ _ _ _ _ _ _)
   | (with_reducible exact ih1 _ _ _ _ _ _ _)
   | (with_reducible exact ih2 _ _ _ _)
   | (with_reducible exact impl_ConstantOf.mono _ _)
   | (with_reducible exact laws_eqStream.mono _ _ _ _ _)
   | (with_reducible exact laws_eqTree.mono _ _ _)
   | (with_reducible exact laws_heldStream.mono _ _ _ _)
   | (with_reducible exact laws_markStream.mono _ _ _ _)
   | (with_reducible exact laws_markTree.mono _ _ _)
   | (with_reducible exact laws_toTree.mono _ _)
   | (with_reducible exact spec_ConstantOf.mono _ _)
   | (with_reducible exact LeO.refl _)
   | (with_reducible exact LeO.none _)
   | (with_reducible refine LeO.ite ?_ ?_)
   | (with_reducible refine LeO.bind ?_ (fun _ => ?_))
   | refine LeO.bind ?_ (fun _ => ?_)
  ·
   intro y0 y1 y2 y3
   unfold laws_FnExactConstantOf.j2
   repeat' first
   | (with_reducible exact ih0 _ _ _ _ _ _ _ _ _)
   | (with_reducible exact ih1 _ _ _ _ _ _ _)
   | (with_reducible exact ih2 _ _ _ _)
   | (with_reducible exact impl_ConstantOf.mono _ _)
   | (with_reducible exact laws_eqStream.mono _ _ _ _ _)
   | (with_reducible exact laws_eqTree.mono _ _ _)
   | (with_reducible exact laws_heldStream.mono _ _ _ _)
   | (with_reducible exact laws_markStream.mono _ _ _ _)
   | (with_reducible exact laws_markTree.mono _ _ _)
   | (with_reducible exact laws_toTree.mono _ _)
   | (with_reducible exact spec_ConstantOf.mono _ _)
   | (with_reducible exact LeO.refl _)
   | (with_reducible exact LeO.none _)
   | (with_reducible refine LeO.ite ?_ ?_)
   | (with_reducible refine LeO.bind ?_ (fun _ => ?_))
   | refine LeO.bind ?_ (fun _ => ?_)
theorem laws_FnExactConstantOf.mono : ∀ a0 k, LeO (laws_FnExactConstantOf.f k a0) (laws_FnExactConstantOf.f (k + 1) a0) := by
 intro a0 k
 obtain ⟨ih0, ih1, ih2⟩ := laws_FnExactConstantOf.mono_l k
 unfold laws_FnExactConstantOf.f
 repeat' first
   | (with_reducible exact ih0 _ _ _ _ _ _ _ _ _)
   | (with_reducible exact ih1 _ _ _ _ _ _ _)
   | (with_reducible exact ih2 _ _ _ _)
   | (with_reducible exact impl_ConstantOf.mono _ _)
   | (with_reducible exact laws_eqStream.mono _ _ _ _ _)
   | (with_reducible exact laws_eqTree.mono _ _ _)
   | (with_reducible exact laws_heldStream.mono _ _ _ _)
   | (with_reducible exact laws_markStream.mono _ _ _ _)
   | (with_reducible exact laws_markTree.mono _ _ _)
   | (with_reducible exact laws_toTree.mono _ _)
   | (with_reducible exact spec_ConstantOf.mono _ _)
   | (with_reducible exact LeO.refl _)
   | (with_reducible exact LeO.none _)
   | (with_reducible refine LeO.ite ?_ ?_)
   | (with_reducible refine LeO.bind ?_ (fun _ => ?_))
   | refine LeO.bind ?_ (fun _ => ?_)
set_option maxHeartbeats 8000000 in
set_option maxRecDepth 100000 in
theorem laws_FnExactConstantOf.calls (k : Nat) (A0_0 : Option Addr) (c0_0 : Nat) (l0_0 : List (S158)) (w : World) (hr0_0 : Kd.C k158 w A0_0 l0_0.length l0_0) (hc0_0 : l0_0.length ≤ c0_0) (h : laws_FnExactConstantOf.f k l0_0 = some true) :
  Calls Try.prog 11 #[.agg #[.slice A0_0 l0_0.length c0_0]] w fun e w' => e = .returned (.bool true) ∧ Below w.heap.size w w' := by
 have hu24 := Try.underlying24
 have hu36 := Try.underlying36
 have hu34 := Try.underlying34
 have HR0_0 := Aside0.mk hr0_0
 have HC0_0 := Aside0.mk hc0_0
 clear hr0_0 hc0_0
 have HB := Aside0.mk (Below.refl w.heap.size w)
 have H : ((laws_szTree.f l0_0 1048576).bind fun t372 => (if t372 < 0 then (some true) else ((laws_toTree.f k l0_0).bind fun t373 => ((spec_ConstantOf.f k t373).bind fun bt376 => ((laws_toTree.f k l0_0).bind fun t384 => ((impl_ConstantOf.f k t384).bind fun bt388 => ((laws_eqStream.f k bt388.1 bt388.2.1 bt376.1 bt376.2.1).bind fun t396 => (if t396 = true then (laws_FnExactConstantOf.j0 k bt376.2.2 bt388.2.2 (bt388.2.2 != bt376.2.2) l0_0 bt376.1 bt376.2.1 t384 bt388.1 bt388.2.1) else (laws_FnExactConstantOf.j0 k bt376.2.2 bt388.2.2 true l0_0 bt376.1 bt376.2.1 t384 bt388.1 bt388.2.1))))))))) = some true := h
 clear h
 replace H := Option.bind_eq_some_iff.mp H
 obtain ⟨t372, A20, H⟩ := H
 replace H : (if t372 < 0 then (some true) else ((laws_toTree.f k l0_0).bind fun t373 => ((spec_ConstantOf.f k t373).bind fun bt376 => ((laws_toTree.f k l0_0).bind fun t384 => ((impl_ConstantOf.f k t384).bind fun bt388 => ((laws_eqStream.f k bt388.1 bt388.2.1 bt376.1 bt376.2.1).bind fun t396 => (if t396 = true then (laws_FnExactConstantOf.j0 k bt376.2.2 bt388.2.2 (bt388.2.2 != bt376.2.2) l0_0 bt376.1 bt376.2.1 t384 bt388.1 bt388.2.1) else (laws_FnExactConstantOf.j0 k bt376.2.2 bt388.2.2 true l0_0 bt376.1 bt376.2.1 t384 bt388.1 bt388.2.1)))))))) = some true := H
 have A2 := Aside0.mk A20
 clear A20
 by_cases c3 : t372 < 0
 ·
  rw [if_pos c3] at H
  have c3b0 : decide (t372 < 0) = true := decide_eq_true c3
  clear c3
  clear H
  go_enter Try.func11, Try.ntmps11
  go_wp2_with (first | ((with_reducible refine gate_dst (N := 1) rfl ?_); refine box_event ?hg (N := 1) ?hd (cs := #[.slice A0_0 l0_0.length c0_0]) (t := 24) ?hr ?_; (case hd => rfl); (case hg => rfl); (case hr => first | (go_simp; done) | (go_simp; rfl)); intro gb371 hg w4 hbox hb; have n0_ := Aside0.mk (below_step z15_23_ hb); have n1_ := Aside0.mk (hbox); have n2_ := Aside0.mk ((by rw [hg]; exact (below_size z15_23_) : w.heap.size ≤ gb371)); have n3_ := Aside0.mk ((by rw [hg]; exact (below_size z15_23_) : w.heap.size ≤ gb371)); clear HB; have HB := n0_; have BK371 := n1_; have GW371 := n2_; have GE371 := n3_; clear n0_ n1_ n2_ n3_; clear hb hbox hg; have hcz5_0 : w4.cell? ⟨gb371, 0, none⟩ = some (.slice A0_0 l0_0.length c0_0) := (blk_cell BK371.out 0).trans rfl; have hfz5_0 := blk_frozen BK371.out 0) | ((with_reducible refine gate_callee (f := 14) rfl ?_); refine goesL_ (some 16) rfl rfl Try.func14 (by kernel_rfl) rfl #[.agg #[.slice A0_0 l0_0.length c0_0], .int .i64 1048576] rfl z15_3_ ?_; (with_reducible refine (laws_szTree.calls _ _ l0_0 1048576 t372 _ ?side1 ?side2 A2.out).mono ?_); (case side1 => repeat (first | exact (Kd.C_below HR0_0.out HB.out) | (with_reducible refine Kd.C_alloc ?_ _) | (with_reducible refine Kd.C_drewN ?_ _) | (with_reducible refine Kd.C_drew ?_))); (case side2 => exact HC0_0.out); rintro e w6 ⟨rfl, hb⟩; refine ⟨_, rfl, ?_⟩; have n0_ := Aside0.mk (blk_below (g := gb371) (o := .cells #[.slice A0_0 l0_0.length c0_0] 24 (0, 0)) z15_2_ hb); have n1_ := Aside0.mk (below_step z15_6_ hb); clear BK371; clear HB; have BK371 := n0_; have HB := n1_; clear n0_ n1_; (try clear hb); (try clear hb2); (try clear hk); (try clear hi)))
  go_ret
  exact ⟨by first | rfl | (simp [errW_none, errW_some] <;> rfl) | (simp [*, errW_none, errW_some] <;> rfl), by repeat (first | (with_reducible first | exact HB.out | apply below_alloc | apply pw_below_drewN | apply below_drew1 | refine below_set ?_ GE371.out) | exact HB.out)⟩
 ·
  rw [if_neg c3] at H
  have c3b0 : decide (t372 < 0) = false := decide_eq_false c3
  clear c3
  replace H := Option.bind_eq_some_iff.mp H
  obtain ⟨t373, A70, H⟩ := H
  replace H : ((spec_ConstantOf.f k t373).bind fun bt376 => ((laws_toTree.f k l0_0).bind fun t384 => ((impl_ConstantOf.f k t384).bind fun bt388 => ((laws_eqStream.f k bt388.1 bt388.2.1 bt376.1 bt376.2.1).bind fun t396 => (if t396 = true then (laws_FnExactConstantOf.j0 k bt376.2.2 bt388.2.2 (bt388.2.2 != bt376.2.2) l0_0 bt376.1 bt376.2.1 t384 bt388.1 bt388.2.1) else (laws_FnExactConstantOf.j0 k bt376.2.2 bt388.2.2 true l0_0 bt376.1 bt376.2.1 t384 bt388.1 bt388.2.1)))))) = some true := H
  have A7 := Aside0.mk A70
  clear A70
  replace H := Option.bind_eq_some_iff.mp H
  obtain ⟨⟨t376, t379, t382⟩, A80, H⟩ := H
  replace H : ((laws_toTree.f k l0_0).bind fun t384 => ((impl_ConstantOf.f k t384).bind fun bt388 => ((laws_eqStream.f k bt388.1 bt388.2.1 t376 t379).bind fun t396 => (if t396 = true then (laws_FnExactConstantOf.j0 k t382 bt388.2.2 (bt388.2.2 != t382) l0_0 t376 t379 t384 bt388.1 bt388.2.1) else (laws_FnExactConstantOf.j0 k t382 bt388.2.2 true l0_0 t376 t379 t384 bt388.1 bt388.2.1))))) = some true := H
  have A8 := Aside0.mk A80
  clear A80
  replace H := Option.bind_eq_some_iff.mp H
  obtain ⟨t384, A90, H⟩ := H
  replace H : ((impl_ConstantOf.f k t384).bind fun bt388 => ((laws_eqStream.f k bt388.1 bt388.2.1 t376 t379).bind fun t396 => (if t396 = true then (laws_FnExactConstantOf.j0 k t382 bt388.2.2 (bt388.2.2 != t382) l0_0 t376 t379 t384 bt388.1 bt388.2.1) else (laws_FnExactConstantOf.j0 k t382 bt388.2.2 true l0_0 t376 t379 t384 bt388.1 bt388.2.1)))) = some true := H
  have A9 := Aside0.mk A90
  clear A90
  replace H := Option.bind_eq_some_iff.mp H
  obtain ⟨⟨t388, t391, t394⟩, A100, H⟩ := H
  replace H : ((laws_eqStream.f k t388 t391 t376 t379).bind fun t396 => (if t396 = true then (laws_FnExactConstantOf.j0 k t382 t394 (t394 != t382) l0_0 t376 t379 t384 t388 t391) else (laws_FnExactConstantOf.j0 k t382 t394 true l0_0 t376 t379 t384 t388 t391))) = some true := H
  have A10 := Aside0.mk A100
  clear A100
  have HC11 := Aside0.mk H
  clear H
  go_enter Try.func11, Try.ntmps11
  go_upto_region 8 with (first | ((with_reducible refine gate_dst (N := 1) rfl ?_); refine box_event ?hg (N := 1) ?hd (cs := #[.slice A0_0 l0_0.length c0_0]) (t := 24) ?hr ?_; (case hd => rfl); (case hg => rfl); (case hr => first | (go_simp; done) | (go_simp; rfl)); intro gb371 hg w12 hbox hb; have n0_ := Aside0.mk (below_step z15_23_ hb); have n1_ := Aside0.mk (hbox); have n2_ := Aside0.mk ((by rw [hg]; exact (below_size z15_23_) : w.heap.size ≤ gb371)); have n3_ := Aside0.mk ((by rw [hg]; exact (below_size z15_23_) : w.heap.size ≤ gb371)); clear HB; have HB := n0_; have BK371 := n1_; have GW371 := n2_; have GE371 := n3_; clear n0_ n1_ n2_ n3_; clear hb hbox hg; have hcz13_0 : w12.cell? ⟨gb371, 0, none⟩ = some (.slice A0_0 l0_0.length c0_0) := (blk_cell BK371.out 0).trans rfl; have hfz13_0 := blk_frozen BK371.out 0) | ((with_reducible refine gate_callee (f := 14) rfl ?_); refine goesL_ (some 16) rfl rfl Try.func14 (by kernel_rfl) rfl #[.agg #[.slice A0_0 l0_0.length c0_0], .int .i64 1048576] rfl z15_3_ ?_; (with_reducible refine (laws_szTree.calls _ _ l0_0 1048576 t372 _ ?side1 ?side2 A2.out).mono ?_); (case side1 => repeat (first | exact (Kd.C_below HR0_0.out HB.out) | (with_reducible refine Kd.C_alloc ?_ _) | (with_reducible refine Kd.C_drewN ?_ _) | (with_reducible refine Kd.C_drew ?_))); (case side2 => exact HC0_0.out); rintro e w14 ⟨rfl, hb⟩; refine ⟨_, rfl, ?_⟩; have n0_ := Aside0.mk (blk_below (g := gb371) (o := .cells #[.slice A0_0 l0_0.length c0_0] 24 (0, 0)) z15_2_ hb); have n1_ := Aside0.mk (below_step z15_6_ hb); clear BK371; clear HB; have BK371 := n0_; have HB := n1_; clear n0_ n1_; (try clear hb); (try clear hb2); (try clear hk); (try clear hi); have hcz15_0 : w14.cell? ⟨gb371, 0, none⟩ = some (.slice A0_0 l0_0.length c0_0) := (blk_cell BK371.out 0).trans rfl; have hfz15_0 := blk_frozen BK371.out 0) | ((with_reducible refine gate_callee (f := 17) rfl ?_); refine goesL_ (some 21) rfl rfl Try.func17 (by kernel_rfl) rfl #[.agg #[.slice A0_0 l0_0.length c0_0]] rfl z15_3_ ?_; (with_reducible refine (laws_toTree.calls k _ _ l0_0 t373 _ ?side1 ?side2 A7.out).mono ?_); (case side1 => repeat (first | exact (Kd.C_below HR0_0.out HB.out) | (with_reducible refine Kd.C_alloc ?_ _) | (with_reducible refine Kd.C_drewN ?_ _) | (with_reducible refine Kd.C_drew ?_))); (case side2 => exact HC0_0.out); rintro e w16 ⟨v374, rfl, ho0, hb⟩; refine ⟨_, rfl, ?_⟩; have n0_ := Aside0.mk (Kd.R_lower ho0 (below_size z15_6_)); have n1_ := Aside0.mk (blk_below (g := gb371) (o := .cells #[.slice A0_0 l0_0.length c0_0] 24 (0, 0)) z15_2_ hb); have n2_ := Aside0.mk (below_step z15_6_ hb); clear BK371; clear HB; have HO375 := n0_; have BK371 := n1_; have HB := n2_; clear n0_ n1_ n2_; (try clear hb); (try clear hb2); (try clear hk); (try clear hi); (try clear ho0); obtain ⟨Ao17, co17, eo17⟩ := Kd.R_slice HO375.out; subst eo17) | ((with_reducible refine gate_callee (f := 43) rfl ?_); refine goesL_ (some 22) rfl rfl Try.func43 (by kernel_rfl) rfl #[.agg #[.slice Ao17 t373.length co17]] rfl z15_3_ ?_; (with_reducible refine (spec_ConstantOf.calls k _ _ t373 t376 t379 t382 _ ?side1 ?side2 A8.out).mono ?_); (case side1 => repeat (first | exact (Kd.R_reads' HO375.out).2.2 | (with_reducible refine Kd.C_alloc ?_ _) | (with_reducible refine Kd.C_drewN ?_ _) | (with_reducible refine Kd.C_drew ?_))); (case side2 => exact (Kd.R_reads' HO375.out).2.1); rintro e w18 ⟨v377, v380, rfl, ho0, ho1, hb⟩; refine ⟨_, rfl, ?_⟩; have n0_ := Aside0.mk (Kd.R_below z15_44_ hb); have n1_ := Aside0.mk (Kd.R_lower ho0 (below_size z15_6_)); have n2_ := Aside0.mk (Kd.R_lower ho1 (below_size z15_6_)); have n3_ := Aside0.mk (blk_below (g := gb371) (o := .cells #[.slice A0_0 l0_0.length c0_0] 24 (0, 0)) z15_2_ hb); have n4_ := Aside0.mk (below_step z15_6_ hb); clear HO375; clear BK371; clear HB; have HO375 := n0_; have HO378 := n1_; have HO381 := n2_; have BK371 := n3_; have HB := n4_; clear n0_ n1_ n2_ n3_ n4_; (try clear hb); (try clear hb2); (try clear hk); (try clear hi); (try clear ho0); (try clear ho1)) | ((with_reducible refine gate_dst (N := 4) rfl ?_); refine box_event ?hg (N := 4) ?hd (cs := #[.slice none 0 0, .slice none 0 0]) (t := 36) ?hr ?_; (case hd => rfl); (case hg => rfl); (case hr => first | (go_simp; done) | (go_simp; rfl)); intro gb383 hg w19 hbox hb; have n0_ := Aside0.mk (Kd.R_below z15_44_ hb); have n1_ := Aside0.mk (Kd.R_below z15_48_ hb); have n2_ := Aside0.mk (Kd.R_below z15_47_ hb); have n3_ := Aside0.mk (blk_below (g := gb371) (o := .cells #[.slice A0_0 l0_0.length c0_0] 24 (0, 0)) z15_2_ hb); have n4_ := Aside0.mk (below_step z15_6_ hb); have n5_ := Aside0.mk (hbox); have n6_ := Aside0.mk ((by rw [hg]; exact (below_size z15_6_) : w.heap.size ≤ gb383)); have n7_ := Aside0.mk ((by rw [hg]; exact (below_size z15_6_) : w.heap.size ≤ gb383)); have n8_ := Aside0.mk ((by rw [hg]; exact Nat.ne_of_lt (blk_lt (g := gb371) (o := .cells #[.slice A0_0 l0_0.length c0_0] 24 (0, 0)) z15_2_) : gb371 ≠ gb383)); have n9_ := Aside0.mk ((by rw [hg]; exact Nat.ne_of_gt (blk_lt (g := gb371) (o := .cells #[.slice A0_0 l0_0.length c0_0] 24 (0, 0)) z15_2_) : gb383 ≠ gb371)); clear HO375; clear HO378; clear HO381; clear BK371; clear HB; have HO375 := n0_; have HO378 := n1_; have HO381 := n2_; have BK371 := n3_; have HB := n4_; have BK383 := n5_; have GW383 := n6_; have GE383 := n7_; have NB371_383 := n8_; have NB383_371 := n9_; clear n0_ n1_ n2_ n3_ n4_ n5_ n6_ n7_ n8_ n9_; clear hb hbox hg; obtain ⟨Ao20, co20, eo20⟩ := Kd.R_slice HO378.out; subst eo20; have hnb21 := NB383_371.out; have hnc21 := NB371_383.out; have hcz22_0 : w19.cell? ⟨gb383, 0, none⟩ = some (.slice none 0 0) := (blk_cell BK383.out 0).trans rfl; have hcz22_1 : w19.cell? ⟨gb383, 1, none⟩ = some (.slice none 0 0) := (blk_cell BK383.out 1).trans rfl; have hfz22_0 := blk_frozen BK383.out 0; have hfz22_1 := blk_frozen BK383.out 1; obtain ⟨Ao23, co23, eo23⟩ := Kd.R_slice HO381.out; subst eo23; have hcz24_0 : w19.cell? ⟨gb371, 0, none⟩ = some (.slice A0_0 l0_0.length c0_0) := (blk_cell BK371.out 0).trans rfl; have hfz24_0 := blk_frozen BK371.out 0) | ((with_reducible refine gate_callee (f := 17) rfl ?_); refine goesL_ (some 26) rfl rfl Try.func17 (by kernel_rfl) rfl #[.agg #[.slice A0_0 l0_0.length c0_0]] rfl z15_3_ ?_; (with_reducible refine (laws_toTree.calls k _ _ l0_0 t384 _ ?side1 ?side2 A9.out).mono ?_); (case side1 => exact Kd.C_below HR0_0.out z15_22_); (case side2 => exact HC0_0.out); rintro e w25 ⟨v385, rfl, ho0, hb⟩; refine ⟨_, rfl, ?_⟩; have n0_ := Aside0.mk (Kd.R_elder' z15_43_ (Kd.R_base ho0) hb); have n1_ := Aside0.mk (Kd.R_below (by (with_reducible repeat (first | apply Kd.R_alloc | apply Kd.R_drewN | apply Kd.R_drew)); exact (Kd.R_mono (Kd.R_far (p := ⟨gb383, 1, none⟩) (Kd.R_far (p := ⟨gb383, 0, none⟩) (Kd.R_types HO378.out BK383.out (by decide)) (fun _ hk => hk.2) (.slice Ao20 t376.length co20)) (fun _ hk => hk.2) (.slice Ao23 t379.length co23)) (fun _ h_ => h_.1))) hb); have n2_ := Aside0.mk (Kd.R_below (by (with_reducible repeat (first | apply Kd.R_alloc | apply Kd.R_drewN | apply Kd.R_drew)); exact (Kd.R_mono (Kd.R_far (p := ⟨gb383, 1, none⟩) (Kd.R_far (p := ⟨gb383, 0, none⟩) (Kd.R_types HO381.out BK383.out (by decide)) (fun _ hk => hk.2) (.slice Ao20 t376.length co20)) (fun _ hk => hk.2) (.slice Ao23 t379.length co23)) (fun _ h_ => h_.1))) hb); have n3_ := Aside0.mk (Kd.R_lower (Kd.R_new' ho0 (Kd.R_lt z15_43_)) (below_size z15_22_)); have n4_ := Aside0.mk (blk_below (g := gb371) (o := .cells #[.slice A0_0 l0_0.length c0_0] 24 (0, 0)) (by (with_reducible repeat (first | refine blk_drewN ?_ _ | refine blk_drew ?_ | refine blk_alloc ?_ _)); refine blk_far ?_ NB371_383.out _; (with_reducible repeat (first | refine blk_drewN ?_ _ | refine blk_drew ?_ | refine blk_alloc ?_ _)); refine blk_far ?_ NB371_383.out _; (with_reducible repeat (first | refine blk_drewN ?_ _ | refine blk_drew ?_ | refine blk_alloc ?_ _)); exact BK371.out) hb); have n5_ := Aside0.mk (blk_below (g := gb383) (o := .cells #[.slice Ao20 t376.length co20, .slice Ao23 t379.length co23] 36 (0, 0)) (by (with_reducible repeat (first | refine blk_drewN ?_ _ | refine blk_drew ?_ | refine blk_alloc ?_ _)); refine blk_put (cs := #[.slice Ao20 t376.length co20, .slice none 0 0]) ?_ 1 _ rfl; (with_reducible repeat (first | refine blk_drewN ?_ _ | refine blk_drew ?_ | refine blk_alloc ?_ _)); refine blk_put (cs := #[.slice none 0 0, .slice none 0 0]) ?_ 0 _ rfl; (with_reducible repeat (first | refine blk_drewN ?_ _ | refine blk_drew ?_ | refine blk_alloc ?_ _)); exact BK383.out) hb); have n6_ := Aside0.mk (below_step z15_22_ hb); clear HO375; clear HO378; clear HO381; clear BK371; clear BK383; clear HB; have HO375 := n0_; have HO378 := n1_; have HO381 := n2_; have HO386 := n3_; have BK371 := n4_; have BK383 := n5_; have HB := n6_; clear n0_ n1_ n2_ n3_ n4_ n5_ n6_; (try clear hb); (try clear hb2); (try clear hk); (try clear hi); (try clear ho0)) | ((with_reducible refine gate_dst (N := 6) rfl ?_); refine box_event ?hg (N := 6) ?hd (cs := #[.slice none 0 0]) (t := 34) ?hr ?_; (case hd => rfl); (case hg => rfl); (case hr => first | (go_simp; done) | (go_simp; rfl)); intro gb387 hg w26 hbox hb; have n0_ := Aside0.mk (Kd.R_below z15_44_ hb); have n1_ := Aside0.mk (Kd.R_below z15_48_ hb); have n2_ := Aside0.mk (Kd.R_below z15_47_ hb); have n3_ := Aside0.mk (Kd.R_below (by (with_reducible repeat (first | apply Kd.R_alloc | apply Kd.R_drewN | apply Kd.R_drew)); exact HO386.out) hb); have n4_ := Aside0.mk (blk_below (g := gb371) (o := .cells #[.slice A0_0 l0_0.length c0_0] 24 (0, 0)) z15_2_ hb); have n5_ := Aside0.mk (blk_below (g := gb383) (o := .cells #[.slice Ao20 t376.length co20, .slice Ao23 t379.length co23] 36 (0, 0)) z15_4_ hb); have n6_ := Aside0.mk (below_step z15_22_ hb); have n7_ := Aside0.mk (hbox); have n8_ := Aside0.mk ((by rw [hg]; exact (below_size z15_22_) : w.heap.size ≤ gb387)); have n9_ := Aside0.mk ((by rw [hg]; exact (below_size z15_22_) : w.heap.size ≤ gb387)); have n10_ := Aside0.mk ((by rw [hg]; exact Nat.ne_of_lt (blk_lt (g := gb371) (o := .cells #[.slice A0_0 l0_0.length c0_0] 24 (0, 0)) z15_2_) : gb371 ≠ gb387)); have n11_ := Aside0.mk ((by rw [hg]; exact Nat.ne_of_gt (blk_lt (g := gb371) (o := .cells #[.slice A0_0 l0_0.length c0_0] 24 (0, 0)) z15_2_) : gb387 ≠ gb371)); have n12_ := Aside0.mk ((by rw [hg]; exact Nat.ne_of_lt (blk_lt (g := gb383) (o := .cells #[.slice Ao20 t376.length co20, .slice Ao23 t379.length co23] 36 (0, 0)) z15_4_) : gb383 ≠ gb387)); have n13_ := Aside0.mk ((by rw [hg]; exact Nat.ne_of_gt (blk_lt (g := gb383) (o := .cells #[.slice Ao20 t376.length co20, .slice Ao23 t379.length co23] 36 (0, 0)) z15_4_) : gb387 ≠ gb383)); clear HO375; clear HO378; clear HO381; clear HO386; clear BK371; clear BK383; clear HB; have HO375 := n0_; have HO378 := n1_; have HO381 := n2_; have HO386 := n3_; have BK371 := n4_; have BK383 := n5_; have HB := n6_; have BK387 := n7_; have GW387 := n8_; have GE387 := n9_; have NB371_387 := n10_; have NB387_371 := n11_; have NB383_387 := n12_; have NB387_383 := n13_; clear n0_ n1_ n2_ n3_ n4_ n5_ n6_ n7_ n8_ n9_ n10_ n11_ n12_ n13_; clear hb hbox hg; obtain ⟨Ao27, co27, eo27⟩ := Kd.R_slice HO386.out; subst eo27; have hnb28 := NB387_371.out; have hnc28 := NB371_387.out; have hnb29 := NB387_383.out; have hnc29 := NB383_387.out; have hcz30_0 : w26.cell? ⟨gb387, 0, none⟩ = some (.slice none 0 0) := (blk_cell BK387.out 0).trans rfl; have hfz30_0 := blk_frozen BK387.out 0) | ((with_reducible refine gate_callee (f := 44) rfl ?_); refine goesL_ (some 29) rfl rfl Try.func44 (by kernel_rfl) rfl #[.agg #[.slice Ao27 t384.length co27]] rfl z15_3_ ?_; (with_reducible refine (impl_ConstantOf.calls k _ _ t384 t388 t391 t394 _ ?side1 ?side2 A10.out).mono ?_); (case side1 => refine (Kd.R_reads' (e := 89) (base := w.heap.size) (ok := fun k_ => (True ∧ some k_ ≠ (.slice Ao17 t373.length co17 : Value).ownBlock)) (n := t384.length) (c := co27) ?_).2.2; exact z15_45_); (case side2 => exact (Kd.R_reads' HO386.out).2.1); rintro e w31 ⟨v389, v392, rfl, ho0, ho1, hb⟩; refine ⟨_, rfl, ?_⟩; have n0_ := Aside0.mk (Kd.R_below (by (with_reducible repeat (first | apply Kd.R_alloc | apply Kd.R_drewN | apply Kd.R_drew)); exact (Kd.R_mono (Kd.R_far (p := ⟨gb387, 0, none⟩) (Kd.R_types HO375.out BK387.out (by decide)) (fun _ hk => hk.2) (.slice Ao27 t384.length co27)) (fun _ h_ => h_.1))) hb); have n1_ := Aside0.mk (Kd.R_mono (Kd.R_told (Kd.R_told (Kd.R_old z15_26_ hb) (Kd.R_base ho0)) (Kd.R_base ho1)) (fun _ h_ => h_.1)); have n2_ := Aside0.mk (Kd.R_mono (Kd.R_told (Kd.R_told (Kd.R_old z15_25_ hb) (Kd.R_base ho0)) (Kd.R_base ho1)) (fun _ h_ => h_.1)); have n3_ := Aside0.mk (Kd.R_below z15_45_ hb); have n4_ := Aside0.mk (Kd.R_lower (Kd.R_new' (Kd.R_new' ho0 (Kd.R_lt z15_26_)) (Kd.R_lt z15_25_)) (below_size z15_8_)); have n5_ := Aside0.mk (Kd.R_lower (Kd.R_new' (Kd.R_new' ho1 (Kd.R_lt z15_26_)) (Kd.R_lt z15_25_)) (below_size z15_8_)); have n6_ := Aside0.mk (blk_below (g := gb371) (o := .cells #[.slice A0_0 l0_0.length c0_0] 24 (0, 0)) (by (with_reducible repeat (first | refine blk_drewN ?_ _ | refine blk_drew ?_ | refine blk_alloc ?_ _)); refine blk_far ?_ NB371_387.out _; (with_reducible repeat (first | refine blk_drewN ?_ _ | refine blk_drew ?_ | refine blk_alloc ?_ _)); exact BK371.out) hb); have n7_ := Aside0.mk (blk_below (g := gb383) (o := .cells #[.slice Ao20 t376.length co20, .slice Ao23 t379.length co23] 36 (0, 0)) (by (with_reducible repeat (first | refine blk_drewN ?_ _ | refine blk_drew ?_ | refine blk_alloc ?_ _)); refine blk_far ?_ NB383_387.out _; (with_reducible repeat (first | refine blk_drewN ?_ _ | refine blk_drew ?_ | refine blk_alloc ?_ _)); exact BK383.out) hb); have n8_ := Aside0.mk (blk_below (g := gb387) (o := .cells #[.slice Ao27 t384.length co27] 34 (0, 0)) (by (with_reducible repeat (first | refine blk_drewN ?_ _ | refine blk_drew ?_ | refine blk_alloc ?_ _)); refine blk_put (cs := #[.slice none 0 0]) ?_ 0 _ rfl; (with_reducible repeat (first | refine blk_drewN ?_ _ | refine blk_drew ?_ | refine blk_alloc ?_ _)); exact BK387.out) hb); have n9_ := Aside0.mk (below_step z15_8_ hb); clear HO375; clear HO378; clear HO381; clear HO386; clear BK371; clear BK383; clear BK387; clear HB; have HO375 := n0_; have HO378 := n1_; have HO381 := n2_; have HO386 := n3_; have HO390 := n4_; have HO393 := n5_; have BK371 := n6_; have BK383 := n7_; have BK387 := n8_; have HB := n9_; clear n0_ n1_ n2_ n3_ n4_ n5_ n6_ n7_ n8_ n9_; (try clear hb); (try clear hb2); (try clear hk); (try clear hi); (try clear ho0); (try clear ho1)) | ((with_reducible refine gate_dst (N := 7) rfl ?_); refine box_event ?hg (N := 7) ?hd (cs := #[.slice none 0 0, .slice none 0 0]) (t := 36) ?hr ?_; (case hd => rfl); (case hg => rfl); (case hr => first | (go_simp; done) | (go_simp; rfl)); intro gb395 hg w32 hbox hb; have n0_ := Aside0.mk (Kd.R_below z15_44_ hb); have n1_ := Aside0.mk (Kd.R_below z15_48_ hb); have n2_ := Aside0.mk (Kd.R_below z15_47_ hb); have n3_ := Aside0.mk (Kd.R_below (by (with_reducible repeat (first | apply Kd.R_alloc | apply Kd.R_drewN | apply Kd.R_drew)); exact HO386.out) hb); have n4_ := Aside0.mk (Kd.R_below (by (with_reducible repeat (first | apply Kd.R_alloc | apply Kd.R_drewN | apply Kd.R_drew)); exact HO390.out) hb); have n5_ := Aside0.mk (Kd.R_below (by (with_reducible repeat (first | apply Kd.R_alloc | apply Kd.R_drewN | apply Kd.R_drew)); exact HO393.out) hb); have n6_ := Aside0.mk (blk_below (g := gb371) (o := .cells #[.slice A0_0 l0_0.length c0_0] 24 (0, 0)) z15_2_ hb); have n7_ := Aside0.mk (blk_below (g := gb383) (o := .cells #[.slice Ao20 t376.length co20, .slice Ao23 t379.length co23] 36 (0, 0)) z15_4_ hb); have n8_ := Aside0.mk (blk_below (g := gb387) (o := .cells #[.slice Ao27 t384.length co27] 34 (0, 0)) z15_5_ hb); have n9_ := Aside0.mk (below_step z15_8_ hb); have n10_ := Aside0.mk (hbox); have n11_ := Aside0.mk ((by rw [hg]; exact (below_size z15_8_) : w.heap.size ≤ gb395)); have n12_ := Aside0.mk ((by rw [hg]; exact (below_size z15_8_) : w.heap.size ≤ gb395)); have n13_ := Aside0.mk ((by rw [hg]; exact Nat.ne_of_lt (blk_lt (g := gb371) (o := .cells #[.slice A0_0 l0_0.length c0_0] 24 (0, 0)) z15_2_) : gb371 ≠ gb395)); have n14_ := Aside0.mk ((by rw [hg]; exact Nat.ne_of_gt (blk_lt (g := gb371) (o := .cells #[.slice A0_0 l0_0.length c0_0] 24 (0, 0)) z15_2_) : gb395 ≠ gb371)); have n15_ := Aside0.mk ((by rw [hg]; exact Nat.ne_of_lt (blk_lt (g := gb383) (o := .cells #[.slice Ao20 t376.length co20, .slice Ao23 t379.length co23] 36 (0, 0)) z15_4_) : gb383 ≠ gb395)); have n16_ := Aside0.mk ((by rw [hg]; exact Nat.ne_of_gt (blk_lt (g := gb383) (o := .cells #[.slice Ao20 t376.length co20, .slice Ao23 t379.length co23] 36 (0, 0)) z15_4_) : gb395 ≠ gb383)); have n17_ := Aside0.mk ((by rw [hg]; exact Nat.ne_of_lt (blk_lt (g := gb387) (o := .cells #[.slice Ao27 t384.length co27] 34 (0, 0)) z15_5_) : gb387 ≠ gb395)); have n18_ := Aside0.mk ((by rw [hg]; exact Nat.ne_of_gt (blk_lt (g := gb387) (o := .cells #[.slice Ao27 t384.length co27] 34 (0, 0)) z15_5_) : gb395 ≠ gb387)); clear HO375; clear HO378; clear HO381; clear HO386; clear HO390; clear HO393; clear BK371; clear BK383; clear BK387; clear HB; have HO375 := n0_; have HO378 := n1_; have HO381 := n2_; have HO386 := n3_; have HO390 := n4_; have HO393 := n5_; have BK371 := n6_; have BK383 := n7_; have BK387 := n8_; have HB := n9_; have BK395 := n10_; have GW395 := n11_; have GE395 := n12_; have NB371_395 := n13_; have NB395_371 := n14_; have NB383_395 := n15_; have NB395_383 := n16_; have NB387_395 := n17_; have NB395_387 := n18_; clear n0_ n1_ n2_ n3_ n4_ n5_ n6_ n7_ n8_ n9_ n10_ n11_ n12_ n13_ n14_ n15_ n16_ n17_ n18_; clear hb hbox hg; obtain ⟨Ao33, co33, eo33⟩ := Kd.R_slice HO390.out; subst eo33; have hnb34 := NB395_371.out; have hnc34 := NB371_395.out; have hnb35 := NB395_383.out; have hnc35 := NB383_395.out; have hnb36 := NB395_387.out; have hnc36 := NB387_395.out; have hcz37_0 : w32.cell? ⟨gb395, 0, none⟩ = some (.slice none 0 0) := (blk_cell BK395.out 0).trans rfl; have hcz37_1 : w32.cell? ⟨gb395, 1, none⟩ = some (.slice none 0 0) := (blk_cell BK395.out 1).trans rfl; have hfz37_0 := blk_frozen BK395.out 0; have hfz37_1 := blk_frozen BK395.out 1; obtain ⟨Ao38, co38, eo38⟩ := Kd.R_slice HO393.out; subst eo38))
  (try simp only [Act.put, sA_, sB_, sC_])
  go_cut [40] (fun v40 wc => ∃ (kq : Nat) (x40_10 : Bool), v40 = .bool x40_10 ∧ Aside0 (laws_FnExactConstantOf.j0 kq t382 t394 x40_10 l0_0 t376 t379 t384 t388 t391 = some true) ∧ Aside0 (kq ≤ k) ∧ Aside0 (Kd.R (Kd.int .i8) 86 wc w.heap.size (fun k_ => some k_ ≠ ((.slice Ao23 t379.length co23) : Value).ownBlock ∧ some k_ ≠ ((.slice Ao33 t388.length co33) : Value).ownBlock ∧ some k_ ≠ ((.slice Ao38 t391.length co38) : Value).ownBlock) (.slice Ao20 t376.length co20) t376) ∧ Aside0 (Kd.R (Kd.int .i8) 86 wc w.heap.size (fun k_ => some k_ ≠ ((.slice Ao20 t376.length co20) : Value).ownBlock ∧ some k_ ≠ ((.slice Ao33 t388.length co33) : Value).ownBlock ∧ some k_ ≠ ((.slice Ao38 t391.length co38) : Value).ownBlock) (.slice Ao23 t379.length co23) t379) ∧ Aside0 (Kd.R k89 89 wc w.heap.size (fun _ => True) (.slice Ao27 t384.length co27) t384) ∧ Aside0 (Kd.R (Kd.int .i8) 86 wc w.heap.size (fun k_ => some k_ ≠ ((.slice Ao20 t376.length co20) : Value).ownBlock ∧ some k_ ≠ ((.slice Ao23 t379.length co23) : Value).ownBlock ∧ some k_ ≠ ((.slice Ao38 t391.length co38) : Value).ownBlock) (.slice Ao33 t388.length co33) t388) ∧ Aside0 (Kd.R (Kd.int .i8) 86 wc w.heap.size (fun k_ => some k_ ≠ ((.slice Ao20 t376.length co20) : Value).ownBlock ∧ some k_ ≠ ((.slice Ao23 t379.length co23) : Value).ownBlock ∧ some k_ ≠ ((.slice Ao33 t388.length co33) : Value).ownBlock) (.slice Ao38 t391.length co38) t391) ∧ Aside0 (wc.heap[gb371]? = some (.cells #[(.slice A0_0 l0_0.length c0_0)] 24 (0, 0))) ∧ Aside0 (wc.heap[gb383]? = some (.cells #[(.slice Ao20 t376.length co20), (.slice Ao23 t379.length co23)] 36 (0, 0))) ∧ Aside0 (wc.heap[gb387]? = some (.cells #[(.slice Ao27 t384.length co27)] 34 (0, 0))) ∧ Aside0 (wc.heap[gb395]? = some (.cells #[(.slice Ao33 t388.length co33), (.slice Ao38 t391.length co38)] 36 (0, 0))) ∧ Aside0 (Below w.heap.size w wc))
  case first =>
   have H := HC11.out
   clear HC11
   replace H := Option.bind_eq_some_iff.mp H
   obtain ⟨t396, A390, H⟩ := H
   replace H : (if t396 = true then (laws_FnExactConstantOf.j0 k t382 t394 (t394 != t382) l0_0 t376 t379 t384 t388 t391) else (laws_FnExactConstantOf.j0 k t382 t394 true l0_0 t376 t379 t384 t388 t391)) = some true := H
   have A39 := Aside0.mk A390
   clear A390
   by_cases c40 : t396 = true
   ·
    subst c40
    have H1 : (laws_FnExactConstantOf.j0 k t382 t394 (t394 != t382) l0_0 t376 t379 t384 t388 t391) = some true := by first | (rw [if_pos rfl] at H; exact H) | rfl
    clear H
    have H := H1
    clear H1
    have H' := Aside0.mk H
    clear H
    have hnb41 := NB395_371.out
    have hnc41 := NB371_395.out
    have hnb42 := NB395_383.out
    have hnc42 := NB383_395.out
    have hnb43 := NB395_387.out
    have hnc43 := NB387_395.out
    have hcz44_0 : w32.cell? ⟨gb395, 0, none⟩ = some (.slice none 0 0) := (blk_cell BK395.out 0).trans rfl
    have hcz44_1 : w32.cell? ⟨gb395, 1, none⟩ = some (.slice none 0 0) := (blk_cell BK395.out 1).trans rfl
    have hfz44_0 := blk_frozen BK395.out 0
    have hfz44_1 := blk_frozen BK395.out 1
    have hnb45 := NB383_371.out
    have hnc45 := NB371_383.out
    have hnb46 := NB383_387.out
    have hnc46 := NB387_383.out
    have hcz47_0 : w32.cell? ⟨gb383, 0, none⟩ = some (.slice Ao20 t376.length co20) := (blk_cell BK383.out 0).trans rfl
    have hcz47_1 : w32.cell? ⟨gb383, 1, none⟩ = some (.slice Ao23 t379.length co23) := (blk_cell BK383.out 1).trans rfl
    have hfz47_0 := blk_frozen BK383.out 0
    have hfz47_1 := blk_frozen BK383.out 1
    go_wp2_with (first | ((with_reducible refine gate_callee (f := 22) rfl ?_); refine goesL_ (some 34) rfl rfl Try.func22 (by kernel_rfl) rfl #[.agg #[.slice Ao33 t388.length co33, .slice Ao38 t391.length co38], .agg #[.slice Ao20 t376.length co20, .slice Ao23 t379.length co23]] rfl z15_3_ ?_; (with_reducible refine (laws_eqStream.calls k _ _ t388 _ _ t391 _ _ t376 _ _ t379 true _ ?side1 ?side2 ?side3 ?side4 ?side5 ?side6 ?side7 ?side8 A39.out).mono ?_); (case side1 => refine (Kd.R_reads' (e := 86) (base := w.heap.size) (ok := fun k_ => ((some k_ ≠ (.slice Ao38 t391.length co38 : Value).ownBlock ∧ some k_ ≠ (.slice Ao20 t376.length co20 : Value).ownBlock) ∧ some k_ ≠ (.slice Ao23 t379.length co23 : Value).ownBlock)) (n := t388.length) (c := co33) ?_).2.2; exact z15_19_); (case side2 => exact (Kd.R_reads' HO390.out).2.1); (case side3 => refine (Kd.R_reads' (e := 86) (base := w.heap.size) (ok := fun k_ => ((some k_ ≠ (.slice Ao33 t388.length co33 : Value).ownBlock ∧ some k_ ≠ (.slice Ao20 t376.length co20 : Value).ownBlock) ∧ some k_ ≠ (.slice Ao23 t379.length co23 : Value).ownBlock)) (n := t391.length) (c := co38) ?_).2.2; exact z15_18_); (case side4 => exact (Kd.R_reads' HO393.out).2.1); (case side5 => refine (Kd.R_reads' (e := 86) (base := w.heap.size) (ok := fun k_ => ((some k_ ≠ (.slice Ao23 t379.length co23 : Value).ownBlock ∧ some k_ ≠ (.slice Ao33 t388.length co33 : Value).ownBlock) ∧ some k_ ≠ (.slice Ao38 t391.length co38 : Value).ownBlock)) (n := t376.length) (c := co20) ?_).2.2; exact z15_21_); (case side6 => exact (Kd.R_reads' HO378.out).2.1); (case side7 => refine (Kd.R_reads' (e := 86) (base := w.heap.size) (ok := fun k_ => ((some k_ ≠ (.slice Ao20 t376.length co20 : Value).ownBlock ∧ some k_ ≠ (.slice Ao33 t388.length co33 : Value).ownBlock) ∧ some k_ ≠ (.slice Ao38 t391.length co38 : Value).ownBlock)) (n := t379.length) (c := co23) ?_).2.2; exact z15_20_); (case side8 => exact (Kd.R_reads' HO381.out).2.1); rintro e w48 ⟨rfl, hb⟩; refine ⟨_, rfl, ?_⟩; have n0_ := Aside0.mk (Kd.R_below z15_42_ hb); have n1_ := Aside0.mk (Kd.R_below z15_21_ hb); have n2_ := Aside0.mk (Kd.R_below z15_20_ hb); have n3_ := Aside0.mk (Kd.R_below z15_41_ hb); have n4_ := Aside0.mk (Kd.R_below z15_19_ hb); have n5_ := Aside0.mk (Kd.R_below z15_18_ hb); have n6_ := Aside0.mk (blk_below (g := gb371) (o := .cells #[.slice A0_0 l0_0.length c0_0] 24 (0, 0)) z15_36_ hb); have n7_ := Aside0.mk (blk_below (g := gb383) (o := .cells #[.slice Ao20 t376.length co20, .slice Ao23 t379.length co23] 36 (0, 0)) z15_34_ hb); have n8_ := Aside0.mk (blk_below (g := gb387) (o := .cells #[.slice Ao27 t384.length co27] 34 (0, 0)) z15_32_ hb); have n9_ := Aside0.mk (blk_below (g := gb395) (o := .cells #[.slice Ao33 t388.length co33, .slice Ao38 t391.length co38] 36 (0, 0)) z15_28_ hb); have n10_ := Aside0.mk (below_step z15_1_ hb); clear HO375; clear HO378; clear HO381; clear HO386; clear HO390; clear HO393; clear BK371; clear BK383; clear BK387; clear BK395; clear HB; have HO375 := n0_; have HO378 := n1_; have HO381 := n2_; have HO386 := n3_; have HO390 := n4_; have HO393 := n5_; have BK371 := n6_; have BK383 := n7_; have BK387 := n8_; have BK395 := n9_; have HB := n10_; clear n0_ n1_ n2_ n3_ n4_ n5_ n6_ n7_ n8_ n9_ n10_; (try clear hb); (try clear hb2); (try clear hk); (try clear hi)))
    go_meet
    case rel => exact ⟨_, ((t394 != t382)), z15_29_, H', ⟨by first | omega | exact Nat.le_refl _⟩, ⟨by (with_reducible repeat (first | apply Kd.R_alloc | apply Kd.R_drewN | apply Kd.R_drew)); exact Kd.R_mono HO378.out (fun _ hk => ⟨hk.1.1, ⟨hk.1.2, hk.2⟩⟩)⟩, ⟨by (with_reducible repeat (first | apply Kd.R_alloc | apply Kd.R_drewN | apply Kd.R_drew)); exact Kd.R_mono HO381.out (fun _ hk => ⟨hk.1.1, ⟨hk.1.2, hk.2⟩⟩)⟩, ⟨by (with_reducible repeat (first | apply Kd.R_alloc | apply Kd.R_drewN | apply Kd.R_drew)); exact Kd.R_mono HO386.out (fun _ hk => trivial)⟩, ⟨by (with_reducible repeat (first | apply Kd.R_alloc | apply Kd.R_drewN | apply Kd.R_drew)); exact Kd.R_mono HO390.out (fun _ hk => ⟨hk.1.2, ⟨hk.2, hk.1.1⟩⟩)⟩, ⟨by (with_reducible repeat (first | apply Kd.R_alloc | apply Kd.R_drewN | apply Kd.R_drew)); exact Kd.R_mono HO393.out (fun _ hk => ⟨hk.1.2, ⟨hk.2, hk.1.1⟩⟩)⟩, ⟨by (with_reducible repeat (first | refine blk_drewN ?_ _ | refine blk_drew ?_ | refine blk_alloc ?_ _)); exact BK371.out⟩, ⟨by (with_reducible repeat (first | refine blk_drewN ?_ _ | refine blk_drew ?_ | refine blk_alloc ?_ _)); exact BK383.out⟩, ⟨by (with_reducible repeat (first | refine blk_drewN ?_ _ | refine blk_drew ?_ | refine blk_alloc ?_ _)); exact BK387.out⟩, ⟨by (with_reducible repeat (first | refine blk_drewN ?_ _ | refine blk_drew ?_ | refine blk_alloc ?_ _)); exact BK395.out⟩, ⟨by repeat (first | (with_reducible first | exact HB.out | apply below_alloc | apply pw_below_drewN | apply below_drew1 | refine below_set ?_ GE371.out | refine below_set ?_ GE383.out | refine below_set ?_ GE387.out | refine below_set ?_ GE395.out) | exact HB.out)⟩⟩
   ·
    replace c40 := Bool.eq_false_iff.mpr c40
    subst c40
    have H1 : (laws_FnExactConstantOf.j0 k t382 t394 true l0_0 t376 t379 t384 t388 t391) = some true := by first | (rw [if_neg (show ¬ (false = true) by decide)] at H; exact H) | rfl
    clear H
    have H := H1
    clear H1
    have H' := Aside0.mk H
    clear H
    have hnb49 := NB395_371.out
    have hnc49 := NB371_395.out
    have hnb50 := NB395_383.out
    have hnc50 := NB383_395.out
    have hnb51 := NB395_387.out
    have hnc51 := NB387_395.out
    have hcz52_0 : w32.cell? ⟨gb395, 0, none⟩ = some (.slice none 0 0) := (blk_cell BK395.out 0).trans rfl
    have hcz52_1 : w32.cell? ⟨gb395, 1, none⟩ = some (.slice none 0 0) := (blk_cell BK395.out 1).trans rfl
    have hfz52_0 := blk_frozen BK395.out 0
    have hfz52_1 := blk_frozen BK395.out 1
    have hnb53 := NB383_371.out
    have hnc53 := NB371_383.out
    have hnb54 := NB383_387.out
    have hnc54 := NB387_383.out
    have hcz55_0 : w32.cell? ⟨gb383, 0, none⟩ = some (.slice Ao20 t376.length co20) := (blk_cell BK383.out 0).trans rfl
    have hcz55_1 : w32.cell? ⟨gb383, 1, none⟩ = some (.slice Ao23 t379.length co23) := (blk_cell BK383.out 1).trans rfl
    have hfz55_0 := blk_frozen BK383.out 0
    have hfz55_1 := blk_frozen BK383.out 1
    go_wp2_with (first | ((with_reducible refine gate_callee (f := 22) rfl ?_); refine goesL_ (some 34) rfl rfl Try.func22 (by kernel_rfl) rfl #[.agg #[.slice Ao33 t388.length co33, .slice Ao38 t391.length co38], .agg #[.slice Ao20 t376.length co20, .slice Ao23 t379.length co23]] rfl z15_3_ ?_; (with_reducible refine (laws_eqStream.calls k _ _ t388 _ _ t391 _ _ t376 _ _ t379 false _ ?side1 ?side2 ?side3 ?side4 ?side5 ?side6 ?side7 ?side8 A39.out).mono ?_); (case side1 => refine (Kd.R_reads' (e := 86) (base := w.heap.size) (ok := fun k_ => ((some k_ ≠ (.slice Ao38 t391.length co38 : Value).ownBlock ∧ some k_ ≠ (.slice Ao20 t376.length co20 : Value).ownBlock) ∧ some k_ ≠ (.slice Ao23 t379.length co23 : Value).ownBlock)) (n := t388.length) (c := co33) ?_).2.2; exact z15_19_); (case side2 => exact (Kd.R_reads' HO390.out).2.1); (case side3 => refine (Kd.R_reads' (e := 86) (base := w.heap.size) (ok := fun k_ => ((some k_ ≠ (.slice Ao33 t388.length co33 : Value).ownBlock ∧ some k_ ≠ (.slice Ao20 t376.length co20 : Value).ownBlock) ∧ some k_ ≠ (.slice Ao23 t379.length co23 : Value).ownBlock)) (n := t391.length) (c := co38) ?_).2.2; exact z15_18_); (case side4 => exact (Kd.R_reads' HO393.out).2.1); (case side5 => refine (Kd.R_reads' (e := 86) (base := w.heap.size) (ok := fun k_ => ((some k_ ≠ (.slice Ao23 t379.length co23 : Value).ownBlock ∧ some k_ ≠ (.slice Ao33 t388.length co33 : Value).ownBlock) ∧ some k_ ≠ (.slice Ao38 t391.length co38 : Value).ownBlock)) (n := t376.length) (c := co20) ?_).2.2; exact z15_21_); (case side6 => exact (Kd.R_reads' HO378.out).2.1); (case side7 => refine (Kd.R_reads' (e := 86) (base := w.heap.size) (ok := fun k_ => ((some k_ ≠ (.slice Ao20 t376.length co20 : Value).ownBlock ∧ some k_ ≠ (.slice Ao33 t388.length co33 : Value).ownBlock) ∧ some k_ ≠ (.slice Ao38 t391.length co38 : Value).ownBlock)) (n := t379.length) (c := co23) ?_).2.2; exact z15_20_); (case side8 => exact (Kd.R_reads' HO381.out).2.1); rintro e w56 ⟨rfl, hb⟩; refine ⟨_, rfl, ?_⟩; have n0_ := Aside0.mk (Kd.R_below z15_42_ hb); have n1_ := Aside0.mk (Kd.R_below z15_21_ hb); have n2_ := Aside0.mk (Kd.R_below z15_20_ hb); have n3_ := Aside0.mk (Kd.R_below z15_41_ hb); have n4_ := Aside0.mk (Kd.R_below z15_19_ hb); have n5_ := Aside0.mk (Kd.R_below z15_18_ hb); have n6_ := Aside0.mk (blk_below (g := gb371) (o := .cells #[.slice A0_0 l0_0.length c0_0] 24 (0, 0)) z15_36_ hb); have n7_ := Aside0.mk (blk_below (g := gb383) (o := .cells #[.slice Ao20 t376.length co20, .slice Ao23 t379.length co23] 36 (0, 0)) z15_34_ hb); have n8_ := Aside0.mk (blk_below (g := gb387) (o := .cells #[.slice Ao27 t384.length co27] 34 (0, 0)) z15_32_ hb); have n9_ := Aside0.mk (blk_below (g := gb395) (o := .cells #[.slice Ao33 t388.length co33, .slice Ao38 t391.length co38] 36 (0, 0)) z15_28_ hb); have n10_ := Aside0.mk (below_step z15_1_ hb); clear HO375; clear HO378; clear HO381; clear HO386; clear HO390; clear HO393; clear BK371; clear BK383; clear BK387; clear BK395; clear HB; have HO375 := n0_; have HO378 := n1_; have HO381 := n2_; have HO386 := n3_; have HO390 := n4_; have HO393 := n5_; have BK371 := n6_; have BK383 := n7_; have BK387 := n8_; have BK395 := n9_; have HB := n10_; clear n0_ n1_ n2_ n3_ n4_ n5_ n6_ n7_ n8_ n9_ n10_; (try clear hb); (try clear hb2); (try clear hk); (try clear hi)))
    go_meet
    case rel => exact ⟨_, (true), z15_29_, H', ⟨by first | omega | exact Nat.le_refl _⟩, ⟨by (with_reducible repeat (first | apply Kd.R_alloc | apply Kd.R_drewN | apply Kd.R_drew)); exact Kd.R_mono HO378.out (fun _ hk => ⟨hk.1.1, ⟨hk.1.2, hk.2⟩⟩)⟩, ⟨by (with_reducible repeat (first | apply Kd.R_alloc | apply Kd.R_drewN | apply Kd.R_drew)); exact Kd.R_mono HO381.out (fun _ hk => ⟨hk.1.1, ⟨hk.1.2, hk.2⟩⟩)⟩, ⟨by (with_reducible repeat (first | apply Kd.R_alloc | apply Kd.R_drewN | apply Kd.R_drew)); exact Kd.R_mono HO386.out (fun _ hk => trivial)⟩, ⟨by (with_reducible repeat (first | apply Kd.R_alloc | apply Kd.R_drewN | apply Kd.R_drew)); exact Kd.R_mono HO390.out (fun _ hk => ⟨hk.1.2, ⟨hk.2, hk.1.1⟩⟩)⟩, ⟨by (with_reducible repeat (first | apply Kd.R_alloc | apply Kd.R_drewN | apply Kd.R_drew)); exact Kd.R_mono HO393.out (fun _ hk => ⟨hk.1.2, ⟨hk.2, hk.1.1⟩⟩)⟩, ⟨by (with_reducible repeat (first | refine blk_drewN ?_ _ | refine blk_drew ?_ | refine blk_alloc ?_ _)); exact BK371.out⟩, ⟨by (with_reducible repeat (first | refine blk_drewN ?_ _ | refine blk_drew ?_ | refine blk_alloc ?_ _)); exact BK383.out⟩, ⟨by (with_reducible repeat (first | refine blk_drewN ?_ _ | refine blk_drew ?_ | refine blk_alloc ?_ _)); exact BK387.out⟩, ⟨by (with_reducible repeat (first | refine blk_drewN ?_ _ | refine blk_drew ?_ | refine blk_alloc ?_ _)); exact BK395.out⟩, ⟨by repeat (first | (with_reducible first | exact HB.out | apply below_alloc | apply pw_below_drewN | apply below_drew1 | refine below_set ?_ GE371.out | refine below_set ?_ GE383.out | refine below_set ?_ GE387.out | refine below_set ?_ GE395.out) | exact HB.out)⟩⟩
  case rest =>
   clear HC11
   try clear c1
   try clear c2
   try clear p2
   try clear c3
   try clear c3b0
   try clear c4
   try clear c5
   try clear c11
   try clear c14
   try clear c17
   try clear c21
   try clear c22
   try clear c28
   try clear c29
   try clear c34
   try clear c35
   try clear c36
   try clear c40
   try clear c41
   try clear c42
   try clear c43
   try clear c44
   try clear c45
   try clear c46
   try clear c49
   try clear c50
   try clear c51
   try clear c53
   try clear c54
   try clear hcz13_0
   try clear hcz15_0
   try clear hcz22_0
   try clear hcz22_1
   try clear hcz24_0
   try clear hcz30_0
   try clear hcz37_0
   try clear hcz37_1
   try clear hcz44_0
   try clear hcz44_1
   try clear hcz47_0
   try clear hcz47_1
   try clear hcz52_0
   try clear hcz52_1
   try clear hcz55_0
   try clear hcz55_1
   try clear hcz5_0
   try clear hfz13_0
   try clear hfz15_0
   try clear hfz22_0
   try clear hfz22_1
   try clear hfz24_0
   try clear hfz30_0
   try clear hfz37_0
   try clear hfz37_1
   try clear hfz44_0
   try clear hfz44_1
   try clear hfz47_0
   try clear hfz47_1
   try clear hfz52_0
   try clear hfz52_1
   try clear hfz55_0
   try clear hfz55_1
   try clear hfz5_0
   obtain ⟨kq, x40_10, rfl, HA, HJ10, HO_384000, HO_384001, HO_388000, HO_396000, HO_396001, BK371, BK383, BK387, BK395, HB⟩ := hcut
   cases kq with
   | zero => exact absurd HA.out (by simp [laws_FnExactConstantOf.j0])
   | succ kj10 =>
    have H := HA.out
    clear HA
    simp only [laws_FnExactConstantOf.j0] at H
    by_cases c57 : x40_10 = true
    ·
     subst c57
     have H1 : (some false) = some true := by first | (rw [if_pos rfl] at H; exact H) | rfl
     clear H
     have H := H1
     clear H1
     exact absurd H (by decide)
    ·
     replace c57 := Bool.eq_false_iff.mpr c57
     subst c57
     have H1 : ((laws_toTree.f kj10 l0_0).bind fun t397 => ((laws_eqTree.f kj10 t384 t397).bind fun t400 => (if t400 = true then ((laws_markTree.f kj10 t384 1).bind fun bt401 => (if bt401.1 < 0 then (laws_FnExactConstantOf.j1 kj10 t382 true l0_0 t376 t379 t388 t391) else ((laws_eqStream.f kj10 t388 t391 t376 t379).bind fun t403 => (if t403 = true then (laws_FnExactConstantOf.j1 kj10 t382 (t394 != t382) l0_0 t376 t379 t388 t391) else (laws_FnExactConstantOf.j1 kj10 t382 true l0_0 t376 t379 t388 t391))))) else (some false)))) = some true := by first | (rw [if_neg (show ¬ (false = true) by decide)] at H; exact H) | rfl
     clear H
     have H := H1
     clear H1
     replace H := Option.bind_eq_some_iff.mp H
     obtain ⟨t397, A580, H⟩ := H
     replace H : ((laws_eqTree.f kj10 t384 t397).bind fun t400 => (if t400 = true then ((laws_markTree.f kj10 t384 1).bind fun bt401 => (if bt401.1 < 0 then (laws_FnExactConstantOf.j1 kj10 t382 true l0_0 t376 t379 t388 t391) else ((laws_eqStream.f kj10 t388 t391 t376 t379).bind fun t403 => (if t403 = true then (laws_FnExactConstantOf.j1 kj10 t382 (t394 != t382) l0_0 t376 t379 t388 t391) else (laws_FnExactConstantOf.j1 kj10 t382 true l0_0 t376 t379 t388 t391))))) else (some false))) = some true := H
     have A58 := Aside0.mk A580
     clear A580
     replace H := Option.bind_eq_some_iff.mp H
     obtain ⟨t400, A590, H⟩ := H
     replace H : (if t400 = true then ((laws_markTree.f kj10 t384 1).bind fun bt401 => (if bt401.1 < 0 then (laws_FnExactConstantOf.j1 kj10 t382 true l0_0 t376 t379 t388 t391) else ((laws_eqStream.f kj10 t388 t391 t376 t379).bind fun t403 => (if t403 = true then (laws_FnExactConstantOf.j1 kj10 t382 (t394 != t382) l0_0 t376 t379 t388 t391) else (laws_FnExactConstantOf.j1 kj10 t382 true l0_0 t376 t379 t388 t391))))) else (some false)) = some true := H
     have A59 := Aside0.mk A590
     clear A590
     by_cases c60 : t400 = true
     ·
      subst c60
      have H1 : ((laws_markTree.f kj10 t384 1).bind fun bt401 => (if bt401.1 < 0 then (laws_FnExactConstantOf.j1 kj10 t382 true l0_0 t376 t379 t388 t391) else ((laws_eqStream.f kj10 t388 t391 t376 t379).bind fun t403 => (if t403 = true then (laws_FnExactConstantOf.j1 kj10 t382 (t394 != t382) l0_0 t376 t379 t388 t391) else (laws_FnExactConstantOf.j1 kj10 t382 true l0_0 t376 t379 t388 t391))))) = some true := by first | (rw [if_pos rfl] at H; exact H) | rfl
      clear H
      have H := H1
      clear H1
      replace H := Option.bind_eq_some_iff.mp H
      obtain ⟨⟨t401, t402⟩, A610, H⟩ := H
      replace H : (if t401 < 0 then (laws_FnExactConstantOf.j1 kj10 t382 true l0_0 t376 t379 t388 t391) else ((laws_eqStream.f kj10 t388 t391 t376 t379).bind fun t403 => (if t403 = true then (laws_FnExactConstantOf.j1 kj10 t382 (t394 != t382) l0_0 t376 t379 t388 t391) else (laws_FnExactConstantOf.j1 kj10 t382 true l0_0 t376 t379 t388 t391)))) = some true := H
      have A61 := Aside0.mk A610
      clear A610
      have HC62 := Aside0.mk H
      clear H
      try go_wp2
      have n0_ := Aside0.mk (Kd.R_drew HO_384000.out)
      have n1_ := Aside0.mk (Kd.R_drew HO_384001.out)
      have n2_ := Aside0.mk (Kd.R_drew HO_388000.out)
      have n3_ := Aside0.mk (Kd.R_drew HO_396000.out)
      have n4_ := Aside0.mk (Kd.R_drew HO_396001.out)
      have n5_ := Aside0.mk (blk_drew BK371.out)
      have n6_ := Aside0.mk (blk_drew BK383.out)
      have n7_ := Aside0.mk (blk_drew BK387.out)
      have n8_ := Aside0.mk (blk_drew BK395.out)
      have n9_ := Aside0.mk (below_drew1 HB.out)
      clear HO_384000
      clear HO_384001
      clear HO_388000
      clear HO_396000
      clear HO_396001
      clear BK371
      clear BK383
      clear BK387
      clear BK395
      clear HB
      have HO_384000 := n0_
      have HO_384001 := n1_
      have HO_388000 := n2_
      have HO_396000 := n3_
      have HO_396001 := n4_
      have BK371 := n5_
      have BK383 := n6_
      have BK387 := n7_
      have BK395 := n8_
      have HB := n9_
      clear n0_ n1_ n2_ n3_ n4_ n5_ n6_ n7_ n8_ n9_
      refine start_ (n := 5) (S := fun w' => w'.cell? ⟨gb387, 0, none⟩ = some (.slice Ao27 t384.length co27) ∧ w'.cell? ⟨gb371, 0, none⟩ = some (.slice A0_0 l0_0.length c0_0)) (ds := []) #[false, false, false, false, false] (by kernel_rfl) rfl rfl ⟨(blk_cell BK387.out 0).trans rfl, (blk_cell BK371.out 0).trans rfl⟩ (fun hHeld => ?_)
      generalize wc.drew = w63 at HO_384000 HO_384001 HO_388000 HO_396000 HO_396001 BK371 BK383 BK387 BK395 HB hHeld ⊢
      refine take_ (i := 0) (N := some 41) (v := ?_) (a' := ?_) #[true, false, false, false, false] rfl rfl (by kernel_rfl) (fun _ _ _ h => h) (Or.inl ⟨by rfl, ?_⟩) hHeld ?_ ?_
      rotate_left
      ·
       rintro w' ⟨s0, s1⟩
       go_simp
       with_reducible rfl
      rotate_left
      ·
       simp only [Act.put, sA_, sB_, sC_, i64_w, i32_w]
       rfl
      refine take_ (i := 1) (N := some 42) (v := ?_) (a' := ?_) #[true, true, false, false, false] rfl rfl (by kernel_rfl) (fun _ _ _ h => h) (Or.inl ⟨by rfl, ?_⟩) hHeld ?_ ?_
      rotate_left
      ·
       rintro w' ⟨s0, s1⟩
       go_simp
       with_reducible rfl
      rotate_left
      ·
       simp only [Act.put, sA_, sB_, sC_, i64_w, i32_w]
       rfl
      refine one_ (i := 2) (N := some 43) #[true, true, true, false, false] rfl rfl (by kernel_rfl) (by decide) (fun K hK => ?_)
      refine goes_ Try.func17 (by kernel_rfl) rfl #[.agg #[.slice A0_0 l0_0.length c0_0]] (by rfl) rfl rfl z15_3_ ?_
      with_reducible refine (laws_toTree.calls kj10 _ _ l0_0 t397 _ ?side1 ?side2 A58.out).mono ?_
      (case side1 => repeat (first | exact (Kd.C_below HR0_0.out HB.out) | (with_reducible refine Kd.C_alloc ?_ _) | (with_reducible refine Kd.C_drewN ?_ _) | (with_reducible refine Kd.C_drew ?_)))
      (case side2 => exact HC0_0.out)
      rintro e w64 ⟨v398, rfl, ho0, hb⟩
      refine ⟨_, rfl, ?_⟩
      have n0_ := Aside0.mk (Kd.R_below z15_13_ hb)
      have n1_ := Aside0.mk (Kd.R_below z15_12_ hb)
      have n2_ := Aside0.mk (Kd.R_elder' z15_11_ (Kd.R_base ho0) hb)
      have n3_ := Aside0.mk (Kd.R_below z15_10_ hb)
      have n4_ := Aside0.mk (Kd.R_below z15_9_ hb)
      have n5_ := Aside0.mk (Kd.R_lower (Kd.R_new' ho0 (Kd.R_lt z15_11_)) (below_size z15_1_))
      have n6_ := Aside0.mk (blk_below (g := gb371) (o := .cells #[.slice A0_0 l0_0.length c0_0] 24 (0, 0)) z15_2_ hb)
      have n7_ := Aside0.mk (blk_below (g := gb383) (o := .cells #[.slice Ao20 t376.length co20, .slice Ao23 t379.length co23] 36 (0, 0)) z15_4_ hb)
      have n8_ := Aside0.mk (blk_below (g := gb387) (o := .cells #[.slice Ao27 t384.length co27] 34 (0, 0)) z15_5_ hb)
      have n9_ := Aside0.mk (blk_below (g := gb395) (o := .cells #[.slice Ao33 t388.length co33, .slice Ao38 t391.length co38] 36 (0, 0)) z15_7_ hb)
      have n10_ := Aside0.mk (below_step z15_1_ hb)
      clear HO_384000
      clear HO_384001
      clear HO_388000
      clear HO_396000
      clear HO_396001
      clear BK371
      clear BK383
      clear BK387
      clear BK395
      clear HB
      have HO_384000 := n0_
      have HO_384001 := n1_
      have HO_388000 := n2_
      have HO_396000 := n3_
      have HO_396001 := n4_
      have HO399 := n5_
      have BK371 := n6_
      have BK383 := n7_
      have BK387 := n8_
      have BK395 := n9_
      have HB := n10_
      clear n0_ n1_ n2_ n3_ n4_ n5_ n6_ n7_ n8_ n9_ n10_
      (try clear hb)
      (try clear hb2)
      (try clear hk)
      (try clear hi)
      (try clear ho0)
      obtain ⟨Ao65, co65, eo65⟩ := Kd.R_slice HO399.out
      (first | subst eo65 | (injection eo65 with f1_ f2_ f3_; have f4_ := f1_.symm; have f5_ := f3_.symm; clear f1_ f2_ f3_; subst f4_; subst f5_))
      refine hK.out _ _ ⟨(blk_cell BK387.out 0).trans rfl, (blk_cell BK371.out 0).trans rfl⟩ (fun hHeld => ?_)
      clear hK K
      refine norm_ (a' := ?_) ?_ ?_
      rotate_left
      ·
       show Act.put _ (some 43) _ = _
       simp only [Act.put, sA_, sB_, sC_, i64_w, i32_w]
       rfl
      refine one_ (i := 3) (N := some 44) #[true, true, true, true, false] rfl rfl (by kernel_rfl) (by decide) (fun K hK => ?_)
      refine goes_ Try.func21 (by kernel_rfl) rfl #[.agg #[.slice Ao27 t384.length co27], .agg #[.slice Ao65 t397.length co65]] (by rfl) rfl rfl z15_3_ ?_
      with_reducible refine (laws_eqTree.calls kj10 _ _ t384 _ _ t397 true _ ?side1 ?side2 ?side3 ?side4 A59.out).mono ?_
      (case side1 => repeat (first | exact (Kd.R_reads' HO_388000.out).2.2 | (with_reducible refine Kd.C_alloc ?_ _) | (with_reducible refine Kd.C_drewN ?_ _) | (with_reducible refine Kd.C_drew ?_)))
      (case side2 => exact (Kd.R_reads' HO_388000.out).2.1)
      (case side3 => repeat (first | exact (Kd.R_reads' HO399.out).2.2 | (with_reducible refine Kd.C_alloc ?_ _) | (with_reducible refine Kd.C_drewN ?_ _) | (with_reducible refine Kd.C_drew ?_)))
      (case side4 => exact (Kd.R_reads' HO399.out).2.1)
      rintro e w66 ⟨rfl, hb⟩
      refine ⟨_, rfl, ?_⟩
      have n0_ := Aside0.mk (Kd.R_below z15_13_ hb)
      have n1_ := Aside0.mk (Kd.R_below z15_12_ hb)
      have n2_ := Aside0.mk (Kd.R_below z15_11_ hb)
      have n3_ := Aside0.mk (Kd.R_below z15_10_ hb)
      have n4_ := Aside0.mk (Kd.R_below z15_9_ hb)
      have n5_ := Aside0.mk (Kd.R_below z15_46_ hb)
      have n6_ := Aside0.mk (blk_below (g := gb371) (o := .cells #[.slice A0_0 l0_0.length c0_0] 24 (0, 0)) z15_2_ hb)
      have n7_ := Aside0.mk (blk_below (g := gb383) (o := .cells #[.slice Ao20 t376.length co20, .slice Ao23 t379.length co23] 36 (0, 0)) z15_4_ hb)
      have n8_ := Aside0.mk (blk_below (g := gb387) (o := .cells #[.slice Ao27 t384.length co27] 34 (0, 0)) z15_5_ hb)
      have n9_ := Aside0.mk (blk_below (g := gb395) (o := .cells #[.slice Ao33 t388.length co33, .slice Ao38 t391.length co38] 36 (0, 0)) z15_7_ hb)
      have n10_ := Aside0.mk (below_step z15_1_ hb)
      clear HO_384000
      clear HO_384001
      clear HO_388000
      clear HO_396000
      clear HO_396001
      clear HO399
      clear BK371
      clear BK383
      clear BK387
      clear BK395
      clear HB
      have HO_384000 := n0_
      have HO_384001 := n1_
      have HO_388000 := n2_
      have HO_396000 := n3_
      have HO_396001 := n4_
      have HO399 := n5_
      have BK371 := n6_
      have BK383 := n7_
      have BK387 := n8_
      have BK395 := n9_
      have HB := n10_
      clear n0_ n1_ n2_ n3_ n4_ n5_ n6_ n7_ n8_ n9_ n10_
      (try clear hb)
      (try clear hb2)
      (try clear hk)
      (try clear hi)
      refine hK.out _ _ ⟨(blk_cell BK387.out 0).trans rfl, (blk_cell BK371.out 0).trans rfl⟩ (fun hHeld => ?_)
      clear hK K
      refine norm_ (a' := ?_) ?_ ?_
      rotate_left
      ·
       show Act.put _ (some 44) _ = _
       simp only [Act.put, sA_, sB_, sC_, i64_w, i32_w]
       rfl
      refine pure_ (i := 4) (N := some 45) (v := ?_) (a' := ?_) #[true, true, true, true, true] rfl rfl (by kernel_rfl) (fun _ _ _ h => h) (Or.inl ⟨by rfl, ?_⟩) ?_ ?_
      rotate_left
      ·
       intro w'
       go_simp
       with_reducible rfl
      rotate_left
      ·
       simp only [Act.put, sA_, sB_, sC_, i64_w, i32_w]
       rfl
      refine done_ (by kernel_rfl) ?_
      have hnb67 := NB387_371.out
      have hnc67 := NB371_387.out
      have hnb68 := NB387_383.out
      have hnc68 := NB383_387.out
      have hnb69 := NB387_395.out
      have hnc69 := NB395_387.out
      have hcz70_0 : w66.cell? ⟨gb387, 0, none⟩ = some (.slice Ao27 t384.length co27) := (blk_cell BK387.out 0).trans rfl
      have hfz70_0 := blk_frozen BK387.out 0
      go_upto_region 14 with (first | ((with_reducible refine gate_callee (f := 23) rfl ?_); refine goesL_ (some 48) rfl rfl Try.func23 (by kernel_rfl) rfl #[.agg #[.slice Ao27 t384.length co27], .int .i64 1] rfl z15_3_ ?_; (with_reducible refine (laws_markTree.calls kj10 (fun k_ => some k_ = (.slice Ao27 t384.length co27 : Value).ownBlock) (.slice Ao27 t384.length co27) t384 1 t401 t402 w _ ?side1 ?side2 A61.out).mono ?_); (case side1 => repeat (first | (with_reducible first | exact HB.out | apply below_alloc | apply pw_below_drewN | apply below_drew1 | refine below_set ?_ GE371.out | refine below_set ?_ GE383.out | refine below_set ?_ GE387.out | refine below_set ?_ GE395.out) | exact HB.out)); (case side2 => exact Kd.R_tight rfl HO_388000.out); rintro e w71 ⟨rfl, hy0, hb, hkp⟩; refine ⟨_, rfl, ?_⟩; have n0_ := Aside0.mk (Kd.R_mono (ok' := fun k_ => some k_ ≠ (.slice Ao23 t379.length co23 : Value).ownBlock ∧ some k_ ≠ (.slice Ao33 t388.length co33 : Value).ownBlock ∧ some k_ ≠ (.slice Ao38 t391.length co38 : Value).ownBlock) (Kd.R_keptB ((Kd.R_apart' HO_384000.out (Kd.R_typed HO_388000.out) (by decide))) hkp (fun k_ hk_ hs_ => (hk_.2) hs_)) (fun k_ hk_ => ⟨hk_.1.1.1, hk_.1.1.2.1, hk_.1.1.2.2⟩)); have n1_ := Aside0.mk (Kd.R_mono (ok' := fun k_ => some k_ ≠ (.slice Ao20 t376.length co20 : Value).ownBlock ∧ some k_ ≠ (.slice Ao33 t388.length co33 : Value).ownBlock ∧ some k_ ≠ (.slice Ao38 t391.length co38 : Value).ownBlock) (Kd.R_keptB ((Kd.R_apart' HO_384001.out (Kd.R_typed HO_388000.out) (by decide))) hkp (fun k_ hk_ hs_ => (hk_.2) hs_)) (fun k_ hk_ => ⟨hk_.1.1.1, hk_.1.1.2.1, hk_.1.1.2.2⟩)); have n2_ := Aside0.mk (Kd.R_reok rfl hy0 (fun k_ e_ => HO_388000.out.1 k_ e_)); have n3_ := Aside0.mk (Kd.R_mono (ok' := fun k_ => some k_ ≠ (.slice Ao20 t376.length co20 : Value).ownBlock ∧ some k_ ≠ (.slice Ao23 t379.length co23 : Value).ownBlock ∧ some k_ ≠ (.slice Ao38 t391.length co38 : Value).ownBlock) (Kd.R_keptB ((Kd.R_apart' HO_396000.out (Kd.R_typed HO_388000.out) (by decide))) hkp (fun k_ hk_ hs_ => (hk_.2) hs_)) (fun k_ hk_ => ⟨hk_.1.1.1, hk_.1.1.2.1, hk_.1.1.2.2⟩)); have n4_ := Aside0.mk (Kd.R_mono (ok' := fun k_ => some k_ ≠ (.slice Ao20 t376.length co20 : Value).ownBlock ∧ some k_ ≠ (.slice Ao23 t379.length co23 : Value).ownBlock ∧ some k_ ≠ (.slice Ao33 t388.length co33 : Value).ownBlock) (Kd.R_keptB ((Kd.R_apart' HO_396001.out (Kd.R_typed HO_388000.out) (by decide))) hkp (fun k_ hk_ hs_ => (hk_.2) hs_)) (fun k_ hk_ => ⟨hk_.1.1.1, hk_.1.1.2.1, hk_.1.1.2.2⟩)); have n5_ := Aside0.mk (blk_kept z15_2_ hkp (fun hs_ => (fun e_ => (Kd.R_ne HO_388000.out BK371.out (by decide)) e_) hs_)); have n6_ := Aside0.mk (blk_kept z15_4_ hkp (fun hs_ => (fun e_ => (Kd.R_ne HO_388000.out BK383.out (by decide)) e_) hs_)); have n7_ := Aside0.mk (blk_kept z15_5_ hkp (fun hs_ => (fun e_ => (Kd.R_ne HO_388000.out BK387.out (by decide)) e_) hs_)); have n8_ := Aside0.mk (blk_kept z15_7_ hkp (fun hs_ => (fun e_ => (Kd.R_ne HO_388000.out BK395.out (by decide)) e_) hs_)); have n9_ := Aside0.mk (Kd.R_mono (ok' := fun k_ => some k_ ≠ (.slice Ao27 t384.length co27 : Value).ownBlock) (Kd.R_keptB (HO399.out) hkp (fun k_ hk_ hs_ => (hk_.2) hs_)) (fun k_ hk_ => hk_.1.2)); have n10_ := Aside0.mk (hb); clear HO_384000; clear HO_384001; clear HO_388000; clear HO_396000; clear HO_396001; clear BK371; clear BK383; clear BK387; clear BK395; clear HO399; clear HB; have HO_384000 := n0_; have HO_384001 := n1_; have HO_388000 := n2_; have HO_396000 := n3_; have HO_396001 := n4_; have BK371 := n5_; have BK383 := n6_; have BK387 := n7_; have BK395 := n8_; have HO399 := n9_; have HB := n10_; clear n0_ n1_ n2_ n3_ n4_ n5_ n6_ n7_ n8_ n9_ n10_; (try clear hb); (try clear hkp); (try clear hy0)))
      (try simp only [Act.put, sA_, sB_, sC_])
      go_cut [61] (fun v61 wc => ∃ (kq : Nat) (x61_61 : Bool), v61 = .bool x61_61 ∧ Aside0 (laws_FnExactConstantOf.j1 kq t382 x61_61 l0_0 t376 t379 t388 t391 = some true) ∧ Aside0 (kq ≤ kj10) ∧ Aside0 (Kd.R (Kd.int .i8) 86 wc w.heap.size (fun k_ => some k_ ≠ ((.slice Ao23 t379.length co23) : Value).ownBlock ∧ some k_ ≠ ((.slice Ao33 t388.length co33) : Value).ownBlock ∧ some k_ ≠ ((.slice Ao38 t391.length co38) : Value).ownBlock) (.slice Ao20 t376.length co20) t376) ∧ Aside0 (Kd.R (Kd.int .i8) 86 wc w.heap.size (fun k_ => some k_ ≠ ((.slice Ao20 t376.length co20) : Value).ownBlock ∧ some k_ ≠ ((.slice Ao33 t388.length co33) : Value).ownBlock ∧ some k_ ≠ ((.slice Ao38 t391.length co38) : Value).ownBlock) (.slice Ao23 t379.length co23) t379) ∧ Aside0 (Kd.R k89 89 wc w.heap.size (fun _ => True) (.slice Ao27 t384.length co27) t402) ∧ Aside0 (Kd.R (Kd.int .i8) 86 wc w.heap.size (fun k_ => some k_ ≠ ((.slice Ao20 t376.length co20) : Value).ownBlock ∧ some k_ ≠ ((.slice Ao23 t379.length co23) : Value).ownBlock ∧ some k_ ≠ ((.slice Ao38 t391.length co38) : Value).ownBlock) (.slice Ao33 t388.length co33) t388) ∧ Aside0 (Kd.R (Kd.int .i8) 86 wc w.heap.size (fun k_ => some k_ ≠ ((.slice Ao20 t376.length co20) : Value).ownBlock ∧ some k_ ≠ ((.slice Ao23 t379.length co23) : Value).ownBlock ∧ some k_ ≠ ((.slice Ao33 t388.length co33) : Value).ownBlock) (.slice Ao38 t391.length co38) t391) ∧ Aside0 (wc.heap[gb371]? = some (.cells #[(.slice A0_0 l0_0.length c0_0)] 24 (0, 0))) ∧ Aside0 (wc.heap[gb383]? = some (.cells #[(.slice Ao20 t376.length co20), (.slice Ao23 t379.length co23)] 36 (0, 0))) ∧ Aside0 (wc.heap[gb387]? = some (.cells #[(.slice Ao27 t384.length co27)] 34 (0, 0))) ∧ Aside0 (wc.heap[gb395]? = some (.cells #[(.slice Ao33 t388.length co33), (.slice Ao38 t391.length co38)] 36 (0, 0))) ∧ Aside0 (Below w.heap.size w wc))
      case first =>
       have H := HC62.out
       clear HC62
       by_cases c72 : t401 < 0
       ·
        rw [if_pos c72] at H
        have c72b0 : decide (t401 < 0) = true := decide_eq_true c72
        clear c72
        (first | rw [c72b0] | (simp only [i64_w, i32_w]; rw [c72b0]) | skip)
        have H' := Aside0.mk H
        clear H
        go_wp2
        go_meet
        case rel => exact ⟨_, (true), z15_29_, H', ⟨by have := HJ10.out; first | omega | exact Nat.le_refl _⟩, ⟨by (with_reducible repeat (first | apply Kd.R_alloc | apply Kd.R_drewN | apply Kd.R_drew)); exact HO_384000.out⟩, ⟨by (with_reducible repeat (first | apply Kd.R_alloc | apply Kd.R_drewN | apply Kd.R_drew)); exact HO_384001.out⟩, ⟨by (with_reducible repeat (first | apply Kd.R_alloc | apply Kd.R_drewN | apply Kd.R_drew)); exact Kd.R_mono HO_388000.out (fun _ hk => trivial)⟩, ⟨by (with_reducible repeat (first | apply Kd.R_alloc | apply Kd.R_drewN | apply Kd.R_drew)); exact HO_396000.out⟩, ⟨by (with_reducible repeat (first | apply Kd.R_alloc | apply Kd.R_drewN | apply Kd.R_drew)); exact HO_396001.out⟩, ⟨by (with_reducible repeat (first | refine blk_drewN ?_ _ | refine blk_drew ?_ | refine blk_alloc ?_ _)); exact BK371.out⟩, ⟨by (with_reducible repeat (first | refine blk_drewN ?_ _ | refine blk_drew ?_ | refine blk_alloc ?_ _)); exact BK383.out⟩, ⟨by (with_reducible repeat (first | refine blk_drewN ?_ _ | refine blk_drew ?_ | refine blk_alloc ?_ _)); exact BK387.out⟩, ⟨by (with_reducible repeat (first | refine blk_drewN ?_ _ | refine blk_drew ?_ | refine blk_alloc ?_ _)); exact BK395.out⟩, ⟨by repeat (first | (with_reducible first | exact HB.out | apply below_alloc | apply pw_below_drewN | apply below_drew1 | refine below_set ?_ GE371.out | refine below_set ?_ GE383.out | refine below_set ?_ GE387.out | refine below_set ?_ GE395.out) | exact HB.out)⟩⟩
       ·
        rw [if_neg c72] at H
        have c72b0 : decide (t401 < 0) = false := decide_eq_false c72
        clear c72
        (first | rw [c72b0] | (simp only [i64_w, i32_w]; rw [c72b0]) | skip)
        replace H := Option.bind_eq_some_iff.mp H
        obtain ⟨t403, A730, H⟩ := H
        replace H : (if t403 = true then (laws_FnExactConstantOf.j1 kj10 t382 (t394 != t382) l0_0 t376 t379 t388 t391) else (laws_FnExactConstantOf.j1 kj10 t382 true l0_0 t376 t379 t388 t391)) = some true := H
        have A73 := Aside0.mk A730
        clear A730
        by_cases c74 : t403 = true
        ·
         subst c74
         have H1 : (laws_FnExactConstantOf.j1 kj10 t382 (t394 != t382) l0_0 t376 t379 t388 t391) = some true := by first | (rw [if_pos rfl] at H; exact H) | rfl
         clear H
         have H := H1
         clear H1
         have H' := Aside0.mk H
         clear H
         have hnb75 := NB395_371.out
         have hnc75 := NB371_395.out
         have hnb76 := NB395_383.out
         have hnc76 := NB383_395.out
         have hnb77 := NB395_387.out
         have hnc77 := NB387_395.out
         have hcz78_0 : w71.cell? ⟨gb395, 0, none⟩ = some (.slice Ao33 t388.length co33) := (blk_cell BK395.out 0).trans rfl
         have hcz78_1 : w71.cell? ⟨gb395, 1, none⟩ = some (.slice Ao38 t391.length co38) := (blk_cell BK395.out 1).trans rfl
         have hfz78_0 := blk_frozen BK395.out 0
         have hfz78_1 := blk_frozen BK395.out 1
         have hnb79 := NB383_371.out
         have hnc79 := NB371_383.out
         have hnb80 := NB383_387.out
         have hnc80 := NB387_383.out
         have hcz81_0 : w71.cell? ⟨gb383, 0, none⟩ = some (.slice Ao20 t376.length co20) := (blk_cell BK383.out 0).trans rfl
         have hcz81_1 : w71.cell? ⟨gb383, 1, none⟩ = some (.slice Ao23 t379.length co23) := (blk_cell BK383.out 1).trans rfl
         have hfz81_0 := blk_frozen BK383.out 0
         have hfz81_1 := blk_frozen BK383.out 1
         go_wp2_with (first | (go_at_call 22; (with_reducible refine (laws_eqStream.calls kj10 _ _ t388 _ _ t391 _ _ t376 _ _ t379 true _ ?side1 ?side2 ?side3 ?side4 ?side5 ?side6 ?side7 ?side8 A73.out).mono ?_); (case side1 => repeat (first | exact (Kd.R_reads' HO_396000.out).2.2 | (with_reducible refine Kd.C_alloc ?_ _) | (with_reducible refine Kd.C_drewN ?_ _) | (with_reducible refine Kd.C_drew ?_))); (case side2 => exact (Kd.R_reads' HO_396000.out).2.1); (case side3 => repeat (first | exact (Kd.R_reads' HO_396001.out).2.2 | (with_reducible refine Kd.C_alloc ?_ _) | (with_reducible refine Kd.C_drewN ?_ _) | (with_reducible refine Kd.C_drew ?_))); (case side4 => exact (Kd.R_reads' HO_396001.out).2.1); (case side5 => repeat (first | exact (Kd.R_reads' HO_384000.out).2.2 | (with_reducible refine Kd.C_alloc ?_ _) | (with_reducible refine Kd.C_drewN ?_ _) | (with_reducible refine Kd.C_drew ?_))); (case side6 => exact (Kd.R_reads' HO_384000.out).2.1); (case side7 => repeat (first | exact (Kd.R_reads' HO_384001.out).2.2 | (with_reducible refine Kd.C_alloc ?_ _) | (with_reducible refine Kd.C_drewN ?_ _) | (with_reducible refine Kd.C_drew ?_))); (case side8 => exact (Kd.R_reads' HO_384001.out).2.1); rintro e w82 ⟨rfl, hb⟩; have n0_ := Aside0.mk (Kd.R_below z15_13_ hb); have n1_ := Aside0.mk (Kd.R_below z15_12_ hb); have n2_ := Aside0.mk (Kd.R_below z15_11_ hb); have n3_ := Aside0.mk (Kd.R_below z15_10_ hb); have n4_ := Aside0.mk (Kd.R_below z15_9_ hb); have n5_ := Aside0.mk (Kd.R_below z15_46_ hb); have n6_ := Aside0.mk (blk_below (g := gb371) (o := .cells #[.slice A0_0 l0_0.length c0_0] 24 (0, 0)) z15_2_ hb); have n7_ := Aside0.mk (blk_below (g := gb383) (o := .cells #[.slice Ao20 t376.length co20, .slice Ao23 t379.length co23] 36 (0, 0)) z15_4_ hb); have n8_ := Aside0.mk (blk_below (g := gb387) (o := .cells #[.slice Ao27 t384.length co27] 34 (0, 0)) z15_5_ hb); have n9_ := Aside0.mk (blk_below (g := gb395) (o := .cells #[.slice Ao33 t388.length co33, .slice Ao38 t391.length co38] 36 (0, 0)) z15_7_ hb); have n10_ := Aside0.mk (below_step z15_1_ hb); clear HO_384000; clear HO_384001; clear HO_388000; clear HO_396000; clear HO_396001; clear HO399; clear BK371; clear BK383; clear BK387; clear BK395; clear HB; have HO_384000 := n0_; have HO_384001 := n1_; have HO_388000 := n2_; have HO_396000 := n3_; have HO_396001 := n4_; have HO399 := n5_; have BK371 := n6_; have BK383 := n7_; have BK387 := n8_; have BK395 := n9_; have HB := n10_; clear n0_ n1_ n2_ n3_ n4_ n5_ n6_ n7_ n8_ n9_ n10_; (try clear hb); (try clear hb2); (try clear hk); (try clear hi)))
         go_meet
         case rel => exact ⟨_, ((t394 != t382)), z15_29_, H', ⟨by have := HJ10.out; first | omega | exact Nat.le_refl _⟩, ⟨by (with_reducible repeat (first | apply Kd.R_alloc | apply Kd.R_drewN | apply Kd.R_drew)); exact HO_384000.out⟩, ⟨by (with_reducible repeat (first | apply Kd.R_alloc | apply Kd.R_drewN | apply Kd.R_drew)); exact HO_384001.out⟩, ⟨by (with_reducible repeat (first | apply Kd.R_alloc | apply Kd.R_drewN | apply Kd.R_drew)); exact Kd.R_mono HO_388000.out (fun _ hk => trivial)⟩, ⟨by (with_reducible repeat (first | apply Kd.R_alloc | apply Kd.R_drewN | apply Kd.R_drew)); exact HO_396000.out⟩, ⟨by (with_reducible repeat (first | apply Kd.R_alloc | apply Kd.R_drewN | apply Kd.R_drew)); exact HO_396001.out⟩, ⟨by (with_reducible repeat (first | refine blk_drewN ?_ _ | refine blk_drew ?_ | refine blk_alloc ?_ _)); exact BK371.out⟩, ⟨by (with_reducible repeat (first | refine blk_drewN ?_ _ | refine blk_drew ?_ | refine blk_alloc ?_ _)); exact BK383.out⟩, ⟨by (with_reducible repeat (first | refine blk_drewN ?_ _ | refine blk_drew ?_ | refine blk_alloc ?_ _)); exact BK387.out⟩, ⟨by (with_reducible repeat (first | refine blk_drewN ?_ _ | refine blk_drew ?_ | refine blk_alloc ?_ _)); exact BK395.out⟩, ⟨by repeat (first | (with_reducible first | exact HB.out | apply below_alloc | apply pw_below_drewN | apply below_drew1 | refine below_set ?_ GE371.out | refine below_set ?_ GE383.out | refine below_set ?_ GE387.out | refine below_set ?_ GE395.out) | exact HB.out)⟩⟩
        ·
         replace c74 := Bool.eq_false_iff.mpr c74
         subst c74
         have H1 : (laws_FnExactConstantOf.j1 kj10 t382 true l0_0 t376 t379 t388 t391) = some true := by first | (rw [if_neg (show ¬ (false = true) by decide)] at H; exact H) | rfl
         clear H
         have H := H1
         clear H1
         have H' := Aside0.mk H
         clear H
         have hnb83 := NB395_371.out
         have hnc83 := NB371_395.out
         have hnb84 := NB395_383.out
         have hnc84 := NB383_395.out
         have hnb85 := NB395_387.out
         have hnc85 := NB387_395.out
         have hcz86_0 : w71.cell? ⟨gb395, 0, none⟩ = some (.slice Ao33 t388.length co33) := (blk_cell BK395.out 0).trans rfl
         have hcz86_1 : w71.cell? ⟨gb395, 1, none⟩ = some (.slice Ao38 t391.length co38) := (blk_cell BK395.out 1).trans rfl
         have hfz86_0 := blk_frozen BK395.out 0
         have hfz86_1 := blk_frozen BK395.out 1
         have hnb87 := NB383_371.out
         have hnc87 := NB371_383.out
         have hnb88 := NB383_387.out
         have hnc88 := NB387_383.out
         have hcz89_0 : w71.cell? ⟨gb383, 0, none⟩ = some (.slice Ao20 t376.length co20) := (blk_cell BK383.out 0).trans rfl
         have hcz89_1 : w71.cell? ⟨gb383, 1, none⟩ = some (.slice Ao23 t379.length co23) := (blk_cell BK383.out 1).trans rfl
         have hfz89_0 := blk_frozen BK383.out 0
         have hfz89_1 := blk_frozen BK383.out 1
         go_wp2_with (first | (go_at_call 22; (with_reducible refine (laws_eqStream.calls kj10 _ _ t388 _ _ t391 _ _ t376 _ _ t379 false _ ?side1 ?side2 ?side3 ?side4 ?side5 ?side6 ?side7 ?side8 A73.out).mono ?_); (case side1 => repeat (first | exact (Kd.R_reads' HO_396000.out).2.2 | (with_reducible refine Kd.C_alloc ?_ _) | (with_reducible refine Kd.C_drewN ?_ _) | (with_reducible refine Kd.C_drew ?_))); (case side2 => exact (Kd.R_reads' HO_396000.out).2.1); (case side3 => repeat (first | exact (Kd.R_reads' HO_396001.out).2.2 | (with_reducible refine Kd.C_alloc ?_ _) | (with_reducible refine Kd.C_drewN ?_ _) | (with_reducible refine Kd.C_drew ?_))); (case side4 => exact (Kd.R_reads' HO_396001.out).2.1); (case side5 => repeat (first | exact (Kd.R_reads' HO_384000.out).2.2 | (with_reducible refine Kd.C_alloc ?_ _) | (with_reducible refine Kd.C_drewN ?_ _) | (with_reducible refine Kd.C_drew ?_))); (case side6 => exact (Kd.R_reads' HO_384000.out).2.1); (case side7 => repeat (first | exact (Kd.R_reads' HO_384001.out).2.2 | (with_reducible refine Kd.C_alloc ?_ _) | (with_reducible refine Kd.C_drewN ?_ _) | (with_reducible refine Kd.C_drew ?_))); (case side8 => exact (Kd.R_reads' HO_384001.out).2.1); rintro e w90 ⟨rfl, hb⟩; have n0_ := Aside0.mk (Kd.R_below z15_13_ hb); have n1_ := Aside0.mk (Kd.R_below z15_12_ hb); have n2_ := Aside0.mk (Kd.R_below z15_11_ hb); have n3_ := Aside0.mk (Kd.R_below z15_10_ hb); have n4_ := Aside0.mk (Kd.R_below z15_9_ hb); have n5_ := Aside0.mk (Kd.R_below z15_46_ hb); have n6_ := Aside0.mk (blk_below (g := gb371) (o := .cells #[.slice A0_0 l0_0.length c0_0] 24 (0, 0)) z15_2_ hb); have n7_ := Aside0.mk (blk_below (g := gb383) (o := .cells #[.slice Ao20 t376.length co20, .slice Ao23 t379.length co23] 36 (0, 0)) z15_4_ hb); have n8_ := Aside0.mk (blk_below (g := gb387) (o := .cells #[.slice Ao27 t384.length co27] 34 (0, 0)) z15_5_ hb); have n9_ := Aside0.mk (blk_below (g := gb395) (o := .cells #[.slice Ao33 t388.length co33, .slice Ao38 t391.length co38] 36 (0, 0)) z15_7_ hb); have n10_ := Aside0.mk (below_step z15_1_ hb); clear HO_384000; clear HO_384001; clear HO_388000; clear HO_396000; clear HO_396001; clear HO399; clear BK371; clear BK383; clear BK387; clear BK395; clear HB; have HO_384000 := n0_; have HO_384001 := n1_; have HO_388000 := n2_; have HO_396000 := n3_; have HO_396001 := n4_; have HO399 := n5_; have BK371 := n6_; have BK383 := n7_; have BK387 := n8_; have BK395 := n9_; have HB := n10_; clear n0_ n1_ n2_ n3_ n4_ n5_ n6_ n7_ n8_ n9_ n10_; (try clear hb); (try clear hb2); (try clear hk); (try clear hi)))
         go_meet
         case rel => exact ⟨_, (true), z15_29_, H', ⟨by have := HJ10.out; first | omega | exact Nat.le_refl _⟩, ⟨by (with_reducible repeat (first | apply Kd.R_alloc | apply Kd.R_drewN | apply Kd.R_drew)); exact HO_384000.out⟩, ⟨by (with_reducible repeat (first | apply Kd.R_alloc | apply Kd.R_drewN | apply Kd.R_drew)); exact HO_384001.out⟩, ⟨by (with_reducible repeat (first | apply Kd.R_alloc | apply Kd.R_drewN | apply Kd.R_drew)); exact Kd.R_mono HO_388000.out (fun _ hk => trivial)⟩, ⟨by (with_reducible repeat (first | apply Kd.R_alloc | apply Kd.R_drewN | apply Kd.R_drew)); exact HO_396000.out⟩, ⟨by (with_reducible repeat (first | apply Kd.R_alloc | apply Kd.R_drewN | apply Kd.R_drew)); exact HO_396001.out⟩, ⟨by (with_reducible repeat (first | refine blk_drewN ?_ _ | refine blk_drew ?_ | refine blk_alloc ?_ _)); exact BK371.out⟩, ⟨by (with_reducible repeat (first | refine blk_drewN ?_ _ | refine blk_drew ?_ | refine blk_alloc ?_ _)); exact BK383.out⟩, ⟨by (with_reducible repeat (first | refine blk_drewN ?_ _ | refine blk_drew ?_ | refine blk_alloc ?_ _)); exact BK387.out⟩, ⟨by (with_reducible repeat (first | refine blk_drewN ?_ _ | refine blk_drew ?_ | refine blk_alloc ?_ _)); exact BK395.out⟩, ⟨by repeat (first | (with_reducible first | exact HB.out | apply below_alloc | apply pw_below_drewN | apply below_drew1 | refine below_set ?_ GE371.out | refine below_set ?_ GE383.out | refine below_set ?_ GE387.out | refine below_set ?_ GE395.out) | exact HB.out)⟩⟩
      case rest =>
       clear HC62
       try clear c1
       try clear c2
       try clear p2
       try clear c3
       try clear c3b0
       try clear c4
       try clear c5
       try clear c6
       try clear c7
       try clear c8
       try clear c11
       try clear c14
       try clear c17
       try clear c21
       try clear c22
       try clear c23
       try clear c28
       try clear c29
       try clear c34
       try clear c35
       try clear c36
       try clear c40
       try clear c41
       try clear c42
       try clear c43
       try clear c44
       try clear c45
       try clear c46
       try clear c49
       try clear c50
       try clear c51
       try clear c53
       try clear c54
       try clear c57
       try clear c60
       try clear c67
       try clear c68
       try clear c69
       try clear c72
       try clear c72b0
       try clear c74
       try clear c75
       try clear c76
       try clear c77
       try clear c79
       try clear c80
       try clear c83
       try clear c84
       try clear c85
       try clear c87
       try clear c88
       try clear hcz13_0
       try clear hcz15_0
       try clear hcz22_0
       try clear hcz22_1
       try clear hcz24_0
       try clear hcz30_0
       try clear hcz37_0
       try clear hcz37_1
       try clear hcz44_0
       try clear hcz44_1
       try clear hcz47_0
       try clear hcz47_1
       try clear hcz52_0
       try clear hcz52_1
       try clear hcz55_0
       try clear hcz55_1
       try clear hcz5_0
       try clear hcz70_0
       try clear hcz78_0
       try clear hcz78_1
       try clear hcz81_0
       try clear hcz81_1
       try clear hcz86_0
       try clear hcz86_1
       try clear hcz89_0
       try clear hcz89_1
       try clear hfz13_0
       try clear hfz15_0
       try clear hfz22_0
       try clear hfz22_1
       try clear hfz24_0
       try clear hfz30_0
       try clear hfz37_0
       try clear hfz37_1
       try clear hfz44_0
       try clear hfz44_1
       try clear hfz47_0
       try clear hfz47_1
       try clear hfz52_0
       try clear hfz52_1
       try clear hfz55_0
       try clear hfz55_1
       try clear hfz5_0
       try clear hfz70_0
       try clear hfz78_0
       try clear hfz78_1
       try clear hfz81_0
       try clear hfz81_1
       try clear hfz86_0
       try clear hfz86_1
       try clear hfz89_0
       try clear hfz89_1
       try clear p2
       obtain ⟨kq, x61_61, rfl, HA, HJ61, HO_384000, HO_384001, HO_388000, HO_396000, HO_396001, BK371, BK383, BK387, BK395, HB⟩ := hcut
       have hl388000_61 := (Kd.R_reads' HO_388000.out).1
       rw [hl388000_61] at HO_388000
       (try simp only [hl388000_61])
       (try simp only [hl388000_61] at BK371)
       (try simp only [hl388000_61] at BK383)
       (try simp only [hl388000_61] at BK387)
       (try simp only [hl388000_61] at BK395)
       (try simp only [hl388000_61] at HO_384000)
       (try simp only [hl388000_61] at HO_384001)
       (try simp only [hl388000_61] at HO_396000)
       (try simp only [hl388000_61] at HO_396001)
       cases kq with
       | zero => exact absurd HA.out (by simp [laws_FnExactConstantOf.j1])
       | succ kj61 =>
        have H := HA.out
        clear HA
        simp only [laws_FnExactConstantOf.j1] at H
        by_cases c91 : x61_61 = true
        ·
         subst c91
         have H1 : (some false) = some true := by first | (rw [if_pos rfl] at H; exact H) | rfl
         clear H
         have H := H1
         clear H1
         exact absurd H (by decide)
        ·
         replace c91 := Bool.eq_false_iff.mpr c91
         subst c91
         have H1 : ((laws_markStream.f kj61 t388 t391 1).bind fun bt404 => ((laws_heldStream.f kj61 bt404.2.1 bt404.2.2 1).bind fun t407 => (if t407 < 0 then (some false) else (if t407 = bt404.1 then ((laws_toTree.f kj61 l0_0).bind fun t408 => ((impl_ConstantOf.f kj61 t408).bind fun bt411 => ((laws_eqStream.f kj61 bt411.1 bt411.2.1 t376 t379).bind fun t419 => (if t419 = true then (laws_FnExactConstantOf.j2 kj61 bt404.1 (bt411.2.2 != t382) bt404.2.1 bt404.2.2) else (laws_FnExactConstantOf.j2 kj61 bt404.1 true bt404.2.1 bt404.2.2))))) else (some false))))) = some true := by first | (rw [if_neg (show ¬ (false = true) by decide)] at H; exact H) | rfl
         clear H
         have H := H1
         clear H1
         replace H := Option.bind_eq_some_iff.mp H
         obtain ⟨⟨t404, t405, t406⟩, A920, H⟩ := H
         replace H : ((laws_heldStream.f kj61 t405 t406 1).bind fun t407 => (if t407 < 0 then (some false) else (if t407 = t404 then ((laws_toTree.f kj61 l0_0).bind fun t408 => ((impl_ConstantOf.f kj61 t408).bind fun bt411 => ((laws_eqStream.f kj61 bt411.1 bt411.2.1 t376 t379).bind fun t419 => (if t419 = true then (laws_FnExactConstantOf.j2 kj61 t404 (bt411.2.2 != t382) t405 t406) else (laws_FnExactConstantOf.j2 kj61 t404 true t405 t406))))) else (some false)))) = some true := H
         have A92 := Aside0.mk A920
         clear A920
         replace H := Option.bind_eq_some_iff.mp H
         obtain ⟨t407, A930, H⟩ := H
         replace H : (if t407 < 0 then (some false) else (if t407 = t404 then ((laws_toTree.f kj61 l0_0).bind fun t408 => ((impl_ConstantOf.f kj61 t408).bind fun bt411 => ((laws_eqStream.f kj61 bt411.1 bt411.2.1 t376 t379).bind fun t419 => (if t419 = true then (laws_FnExactConstantOf.j2 kj61 t404 (bt411.2.2 != t382) t405 t406) else (laws_FnExactConstantOf.j2 kj61 t404 true t405 t406))))) else (some false))) = some true := H
         have A93 := Aside0.mk A930
         clear A930
         by_cases c94 : t407 < 0
         ·
          rw [if_pos c94] at H
          have c94b0 : decide (t407 < 0) = true := decide_eq_true c94
          clear c94
          exact absurd H (by decide)
         ·
          rw [if_neg c94] at H
          have c94b0 : decide (t407 < 0) = false := decide_eq_false c94
          clear c94
          by_cases c95 : t407 = t404
          ·
           rw [if_pos c95] at H
           have c95b0 : (t407 == t404) = true := beq_iff_eq.mpr c95
           have c95b1 : (t407 != t404) = false := bne_eq_false_iff_eq.mpr c95
           clear c95
           replace H := Option.bind_eq_some_iff.mp H
           obtain ⟨t408, A960, H⟩ := H
           replace H : ((impl_ConstantOf.f kj61 t408).bind fun bt411 => ((laws_eqStream.f kj61 bt411.1 bt411.2.1 t376 t379).bind fun t419 => (if t419 = true then (laws_FnExactConstantOf.j2 kj61 t404 (bt411.2.2 != t382) t405 t406) else (laws_FnExactConstantOf.j2 kj61 t404 true t405 t406)))) = some true := H
           have A96 := Aside0.mk A960
           clear A960
           replace H := Option.bind_eq_some_iff.mp H
           obtain ⟨⟨t411, t414, t417⟩, A970, H⟩ := H
           replace H : ((laws_eqStream.f kj61 t411 t414 t376 t379).bind fun t419 => (if t419 = true then (laws_FnExactConstantOf.j2 kj61 t404 (t417 != t382) t405 t406) else (laws_FnExactConstantOf.j2 kj61 t404 true t405 t406))) = some true := H
           have A97 := Aside0.mk A970
           clear A970
           have HC98 := Aside0.mk H
           clear H
           have hnb99 := NB395_371.out
           have hnc99 := NB371_395.out
           have hnb100 := NB395_383.out
           have hnc100 := NB383_395.out
           have hnb101 := NB395_387.out
           have hnc101 := NB387_395.out
           have hcz102_0 : wc.cell? ⟨gb395, 0, none⟩ = some (.slice Ao33 t388.length co33) := (blk_cell BK395.out 0).trans rfl
           have hcz102_1 : wc.cell? ⟨gb395, 1, none⟩ = some (.slice Ao38 t391.length co38) := (blk_cell BK395.out 1).trans rfl
           have hfz102_0 := blk_frozen BK395.out 0
           have hfz102_1 := blk_frozen BK395.out 1
           go_upto_region 25 with (first | ((with_reducible refine gate_callee (f := 24) rfl ?_); refine goesL_ (some 64) rfl rfl Try.func24 (by kernel_rfl) rfl #[.agg #[.slice Ao33 t388.length co33, .slice Ao38 t391.length co38], .int .i64 1] rfl z15_3_ ?_; (with_reducible refine (laws_markStream.calls kj61 (fun k_ => some k_ = (.slice Ao33 t388.length co33 : Value).ownBlock) (.slice Ao33 t388.length co33) t388 (fun k_ => some k_ = (.slice Ao38 t391.length co38 : Value).ownBlock) (.slice Ao38 t391.length co38) t391 1 t404 t405 t406 w _ ?side1 ?side2 ?side3 ?side4 ?side5 A92.out).mono ?_); (case side1 => repeat (first | (with_reducible first | exact HB.out | apply below_alloc | apply pw_below_drewN | apply below_drew1 | refine below_set ?_ GE371.out | refine below_set ?_ GE383.out | refine below_set ?_ GE387.out | refine below_set ?_ GE395.out) | exact HB.out)); (case side2 => exact Kd.R_tight rfl HO_396000.out); (case side3 => exact fun k_ e_ => (HO_396000.out.1 k_ e_.symm).2.2); (case side4 => exact Kd.R_tight rfl HO_396001.out); (case side5 => exact fun k_ e_ => (HO_396001.out.1 k_ e_.symm).2.2); rintro e w103 ⟨rfl, hy0, hy1, hb, hkp⟩; refine ⟨_, rfl, ?_⟩; have n0_ := Aside0.mk (Kd.R_mono (ok' := fun k_ => some k_ ≠ (.slice Ao23 t379.length co23 : Value).ownBlock ∧ some k_ ≠ (.slice Ao33 t388.length co33 : Value).ownBlock ∧ some k_ ≠ (.slice Ao38 t391.length co38 : Value).ownBlock) (Kd.R_keptB (HO_384000.out) hkp (fun k_ hk_ hs_ => Or.elim hs_ (fun e_ => (hk_.2.1) e_) (fun e_ => (hk_.2.2) e_))) (fun k_ hk_ => ⟨hk_.1.1, hk_.1.2.1, hk_.1.2.2⟩)); have n1_ := Aside0.mk (Kd.R_mono (ok' := fun k_ => some k_ ≠ (.slice Ao20 t376.length co20 : Value).ownBlock ∧ some k_ ≠ (.slice Ao33 t388.length co33 : Value).ownBlock ∧ some k_ ≠ (.slice Ao38 t391.length co38 : Value).ownBlock) (Kd.R_keptB (HO_384001.out) hkp (fun k_ hk_ hs_ => Or.elim hs_ (fun e_ => (hk_.2.1) e_) (fun e_ => (hk_.2.2) e_))) (fun k_ hk_ => ⟨hk_.1.1, hk_.1.2.1, hk_.1.2.2⟩)); have n2_ := Aside0.mk (Kd.R_mono (ok' := fun k_ => True) (Kd.R_keptB ((Kd.R_apart' (Kd.R_apart' HO_388000.out (Kd.R_typed HO_396000.out) (by decide)) (Kd.R_typed HO_396001.out) (by decide))) hkp (fun k_ hk_ hs_ => Or.elim hs_ (fun e_ => (hk_.1.2) e_) (fun e_ => (hk_.2) e_))) (fun k_ hk_ => trivial)); have n3_ := Aside0.mk (Kd.R_reok rfl hy0 (fun k_ e_ => HO_396000.out.1 k_ e_)); have n4_ := Aside0.mk (Kd.R_reok rfl hy1 (fun k_ e_ => HO_396001.out.1 k_ e_)); have n5_ := Aside0.mk (blk_kept z15_2_ hkp (fun hs_ => Or.elim hs_ (fun e_ => (fun e_ => (Kd.R_ne HO_396000.out BK371.out (by decide)) e_) e_) (fun e_ => (fun e_ => (Kd.R_ne HO_396001.out BK371.out (by decide)) e_) e_))); have n6_ := Aside0.mk (blk_kept z15_4_ hkp (fun hs_ => Or.elim hs_ (fun e_ => (fun e_ => (Kd.R_ne HO_396000.out BK383.out (by decide)) e_) e_) (fun e_ => (fun e_ => (Kd.R_ne HO_396001.out BK383.out (by decide)) e_) e_))); have n7_ := Aside0.mk (blk_kept z15_5_ hkp (fun hs_ => Or.elim hs_ (fun e_ => (fun e_ => (Kd.R_ne HO_396000.out BK387.out (by decide)) e_) e_) (fun e_ => (fun e_ => (Kd.R_ne HO_396001.out BK387.out (by decide)) e_) e_))); have n8_ := Aside0.mk (blk_kept z15_7_ hkp (fun hs_ => Or.elim hs_ (fun e_ => (fun e_ => (Kd.R_ne HO_396000.out BK395.out (by decide)) e_) e_) (fun e_ => (fun e_ => (Kd.R_ne HO_396001.out BK395.out (by decide)) e_) e_))); have n9_ := Aside0.mk (hb); clear HO_384000; clear HO_384001; clear HO_388000; clear HO_396000; clear HO_396001; clear BK371; clear BK383; clear BK387; clear BK395; clear HB; have HO_384000 := n0_; have HO_384001 := n1_; have HO_388000 := n2_; have HO_396000 := n3_; have HO_396001 := n4_; have BK371 := n5_; have BK383 := n6_; have BK387 := n7_; have BK395 := n8_; have HB := n9_; clear n0_ n1_ n2_ n3_ n4_ n5_ n6_ n7_ n8_ n9_; (try clear hb); (try clear hkp); (try clear hy0); (try clear hy1); have hcz104_0 : w103.cell? ⟨gb395, 0, none⟩ = some (.slice Ao33 t388.length co33) := (blk_cell BK395.out 0).trans rfl; have hcz104_1 : w103.cell? ⟨gb395, 1, none⟩ = some (.slice Ao38 t391.length co38) := (blk_cell BK395.out 1).trans rfl; have hfz104_0 := blk_frozen BK395.out 0; have hfz104_1 := blk_frozen BK395.out 1) | ((with_reducible refine gate_callee (f := 45) rfl ?_); refine goesL_ (some 67) rfl rfl Try.func45 (by kernel_rfl) rfl #[.agg #[.slice Ao33 t405.length co33, .slice Ao38 t406.length co38], .int .i64 1] rfl (by (try simp only [List.map_toArray, List.map_cons, List.map_nil]); first | done | (rw [show t405.length = t388.length from (Kd.R_reads' HO_396000.out).1.symm, show t406.length = t391.length from (Kd.R_reads' HO_396001.out).1.symm] <;> rfl) | rfl | (simp only [List.length_drop, List.length_take]; rfl)) ?_; (with_reducible refine (laws_heldStream.calls kj61 _ _ t405 _ _ t406 1 t407 _ ?side1 ?side2 ?side3 ?side4 A93.out).mono ?_); (case side1 => repeat (first | exact (Kd.R_reads' HO_396000.out).2.2 | (with_reducible refine Kd.C_alloc ?_ _) | (with_reducible refine Kd.C_drewN ?_ _) | (with_reducible refine Kd.C_drew ?_))); (case side2 => rw [show t405.length = t388.length from (Kd.R_reads' HO_396000.out).1.symm]; exact (Kd.R_reads' HO_396000.out).2.1); (case side3 => repeat (first | exact (Kd.R_reads' HO_396001.out).2.2 | (with_reducible refine Kd.C_alloc ?_ _) | (with_reducible refine Kd.C_drewN ?_ _) | (with_reducible refine Kd.C_drew ?_))); (case side4 => rw [show t406.length = t391.length from (Kd.R_reads' HO_396001.out).1.symm]; exact (Kd.R_reads' HO_396001.out).2.1); rintro e w105 ⟨rfl, hb⟩; refine ⟨_, rfl, ?_⟩; have n0_ := Aside0.mk (Kd.R_below z15_13_ hb); have n1_ := Aside0.mk (Kd.R_below z15_12_ hb); have n2_ := Aside0.mk (Kd.R_below z15_11_ hb); have n3_ := Aside0.mk (Kd.R_below z15_10_ hb); have n4_ := Aside0.mk (Kd.R_below z15_9_ hb); have n5_ := Aside0.mk (blk_below (g := gb371) (o := .cells #[.slice A0_0 l0_0.length c0_0] 24 (0, 0)) z15_2_ hb); have n6_ := Aside0.mk (blk_below (g := gb383) (o := .cells #[.slice Ao20 t376.length co20, .slice Ao23 t379.length co23] 36 (0, 0)) z15_4_ hb); have n7_ := Aside0.mk (blk_below (g := gb387) (o := .cells #[.slice Ao27 t402.length co27] 34 (0, 0)) z15_5_ hb); have n8_ := Aside0.mk (blk_below (g := gb395) (o := .cells #[.slice Ao33 t388.length co33, .slice Ao38 t391.length co38] 36 (0, 0)) z15_7_ hb); have n9_ := Aside0.mk (below_step z15_1_ hb); clear HO_384000; clear HO_384001; clear HO_388000; clear HO_396000; clear HO_396001; clear BK371; clear BK383; clear BK387; clear BK395; clear HB; have HO_384000 := n0_; have HO_384001 := n1_; have HO_388000 := n2_; have HO_396000 := n3_; have HO_396001 := n4_; have BK371 := n5_; have BK383 := n6_; have BK387 := n7_; have BK395 := n8_; have HB := n9_; clear n0_ n1_ n2_ n3_ n4_ n5_ n6_ n7_ n8_ n9_; (try clear hb); (try clear hb2); (try clear hk); (try clear hi); have hnb106 := NB371_383.out; have hnc106 := NB383_371.out; have hnb107 := NB371_387.out; have hnc107 := NB387_371.out; have hcz108_0 : w105.cell? ⟨gb371, 0, none⟩ = some (.slice A0_0 l0_0.length c0_0) := (blk_cell BK371.out 0).trans rfl; have hfz108_0 := blk_frozen BK371.out 0) | ((with_reducible refine gate_callee (f := 17) rfl ?_); refine goesL_ (some 75) rfl rfl Try.func17 (by kernel_rfl) rfl #[.agg #[.slice A0_0 l0_0.length c0_0]] rfl z15_3_ ?_; (with_reducible refine (laws_toTree.calls kj61 _ _ l0_0 t408 _ ?side1 ?side2 A96.out).mono ?_); (case side1 => repeat (first | exact (Kd.C_below HR0_0.out HB.out) | (with_reducible refine Kd.C_alloc ?_ _) | (with_reducible refine Kd.C_drewN ?_ _) | (with_reducible refine Kd.C_drew ?_))); (case side2 => exact HC0_0.out); rintro e w109 ⟨v409, rfl, ho0, hb⟩; refine ⟨_, rfl, ?_⟩; have n0_ := Aside0.mk (Kd.R_below z15_13_ hb); have n1_ := Aside0.mk (Kd.R_below z15_12_ hb); have n2_ := Aside0.mk (Kd.R_elder' z15_11_ (Kd.R_base ho0) hb); have n3_ := Aside0.mk (Kd.R_below z15_10_ hb); have n4_ := Aside0.mk (Kd.R_below z15_9_ hb); have n5_ := Aside0.mk (Kd.R_lower (Kd.R_new' ho0 (Kd.R_lt z15_11_)) (below_size z15_1_)); have n6_ := Aside0.mk (blk_below (g := gb371) (o := .cells #[.slice A0_0 l0_0.length c0_0] 24 (0, 0)) z15_2_ hb); have n7_ := Aside0.mk (blk_below (g := gb383) (o := .cells #[.slice Ao20 t376.length co20, .slice Ao23 t379.length co23] 36 (0, 0)) z15_4_ hb); have n8_ := Aside0.mk (blk_below (g := gb387) (o := .cells #[.slice Ao27 t402.length co27] 34 (0, 0)) z15_5_ hb); have n9_ := Aside0.mk (blk_below (g := gb395) (o := .cells #[.slice Ao33 t388.length co33, .slice Ao38 t391.length co38] 36 (0, 0)) z15_7_ hb); have n10_ := Aside0.mk (below_step z15_1_ hb); clear HO_384000; clear HO_384001; clear HO_388000; clear HO_396000; clear HO_396001; clear BK371; clear BK383; clear BK387; clear BK395; clear HB; have HO_384000 := n0_; have HO_384001 := n1_; have HO_388000 := n2_; have HO_396000 := n3_; have HO_396001 := n4_; have HO410 := n5_; have BK371 := n6_; have BK383 := n7_; have BK387 := n8_; have BK395 := n9_; have HB := n10_; clear n0_ n1_ n2_ n3_ n4_ n5_ n6_ n7_ n8_ n9_ n10_; (try clear hb); (try clear hb2); (try clear hk); (try clear hi); (try clear ho0); obtain ⟨Ao110, co110, eo110⟩ := Kd.R_slice HO410.out; subst eo110) | ((with_reducible refine gate_callee (f := 44) rfl ?_); refine goesL_ (some 76) rfl rfl Try.func44 (by kernel_rfl) rfl #[.agg #[.slice Ao110 t408.length co110]] rfl z15_3_ ?_; (with_reducible refine (impl_ConstantOf.calls kj61 _ _ t408 t411 t414 t417 _ ?side1 ?side2 A97.out).mono ?_); (case side1 => repeat (first | exact (Kd.R_reads' HO410.out).2.2 | (with_reducible refine Kd.C_alloc ?_ _) | (with_reducible refine Kd.C_drewN ?_ _) | (with_reducible refine Kd.C_drew ?_))); (case side2 => exact (Kd.R_reads' HO410.out).2.1); rintro e w111 ⟨v412, v415, rfl, ho0, ho1, hb⟩; refine ⟨_, rfl, ?_⟩; have n0_ := Aside0.mk (Kd.R_mono (Kd.R_told (Kd.R_told (Kd.R_old z15_13_ hb) (Kd.R_base ho0)) (Kd.R_base ho1)) (fun _ h_ => h_.1)); have n1_ := Aside0.mk (Kd.R_mono (Kd.R_told (Kd.R_told (Kd.R_old z15_12_ hb) (Kd.R_base ho0)) (Kd.R_base ho1)) (fun _ h_ => h_.1)); have n2_ := Aside0.mk (Kd.R_below z15_11_ hb); have n3_ := Aside0.mk (Kd.R_mono (Kd.R_told (Kd.R_told (Kd.R_old z15_10_ hb) (Kd.R_base ho0)) (Kd.R_base ho1)) (fun _ h_ => h_.1)); have n4_ := Aside0.mk (Kd.R_mono (Kd.R_told (Kd.R_told (Kd.R_old z15_9_ hb) (Kd.R_base ho0)) (Kd.R_base ho1)) (fun _ h_ => h_.1)); have n5_ := Aside0.mk (Kd.R_below (by (with_reducible repeat (first | apply Kd.R_alloc | apply Kd.R_drewN | apply Kd.R_drew)); exact HO410.out) hb); have n6_ := Aside0.mk (Kd.R_lower (Kd.R_new' (Kd.R_new' (Kd.R_new' (Kd.R_new' ho0 (Kd.R_lt z15_13_)) (Kd.R_lt z15_12_)) (Kd.R_lt z15_10_)) (Kd.R_lt z15_9_)) (below_size z15_1_)); have n7_ := Aside0.mk (Kd.R_lower (Kd.R_new' (Kd.R_new' (Kd.R_new' (Kd.R_new' ho1 (Kd.R_lt z15_13_)) (Kd.R_lt z15_12_)) (Kd.R_lt z15_10_)) (Kd.R_lt z15_9_)) (below_size z15_1_)); have n8_ := Aside0.mk (blk_below (g := gb371) (o := .cells #[.slice A0_0 l0_0.length c0_0] 24 (0, 0)) z15_2_ hb); have n9_ := Aside0.mk (blk_below (g := gb383) (o := .cells #[.slice Ao20 t376.length co20, .slice Ao23 t379.length co23] 36 (0, 0)) z15_4_ hb); have n10_ := Aside0.mk (blk_below (g := gb387) (o := .cells #[.slice Ao27 t402.length co27] 34 (0, 0)) z15_5_ hb); have n11_ := Aside0.mk (blk_below (g := gb395) (o := .cells #[.slice Ao33 t388.length co33, .slice Ao38 t391.length co38] 36 (0, 0)) z15_7_ hb); have n12_ := Aside0.mk (below_step z15_1_ hb); clear HO_384000; clear HO_384001; clear HO_388000; clear HO_396000; clear HO_396001; clear HO410; clear BK371; clear BK383; clear BK387; clear BK395; clear HB; have HO_384000 := n0_; have HO_384001 := n1_; have HO_388000 := n2_; have HO_396000 := n3_; have HO_396001 := n4_; have HO410 := n5_; have HO413 := n6_; have HO416 := n7_; have BK371 := n8_; have BK383 := n9_; have BK387 := n10_; have BK395 := n11_; have HB := n12_; clear n0_ n1_ n2_ n3_ n4_ n5_ n6_ n7_ n8_ n9_ n10_ n11_ n12_; (try clear hb); (try clear hb2); (try clear hk); (try clear hi); (try clear ho0); (try clear ho1)) | ((with_reducible refine gate_dst (N := 12) rfl ?_); refine box_event ?hg (N := 12) ?hd (cs := #[.slice none 0 0, .slice none 0 0]) (t := 36) ?hr ?_; (case hd => rfl); (case hg => rfl); (case hr => first | (go_simp; done) | (go_simp; rfl)); intro gb418 hg w112 hbox hb; have n0_ := Aside0.mk (Kd.R_below z15_13_ hb); have n1_ := Aside0.mk (Kd.R_below z15_12_ hb); have n2_ := Aside0.mk (Kd.R_below z15_11_ hb); have n3_ := Aside0.mk (Kd.R_below z15_10_ hb); have n4_ := Aside0.mk (Kd.R_below z15_9_ hb); have n5_ := Aside0.mk (Kd.R_below (by (with_reducible repeat (first | apply Kd.R_alloc | apply Kd.R_drewN | apply Kd.R_drew)); exact HO410.out) hb); have n6_ := Aside0.mk (Kd.R_below (by (with_reducible repeat (first | apply Kd.R_alloc | apply Kd.R_drewN | apply Kd.R_drew)); exact HO413.out) hb); have n7_ := Aside0.mk (Kd.R_below (by (with_reducible repeat (first | apply Kd.R_alloc | apply Kd.R_drewN | apply Kd.R_drew)); exact HO416.out) hb); have n8_ := Aside0.mk (blk_below (g := gb371) (o := .cells #[.slice A0_0 l0_0.length c0_0] 24 (0, 0)) z15_2_ hb); have n9_ := Aside0.mk (blk_below (g := gb383) (o := .cells #[.slice Ao20 t376.length co20, .slice Ao23 t379.length co23] 36 (0, 0)) z15_4_ hb); have n10_ := Aside0.mk (blk_below (g := gb387) (o := .cells #[.slice Ao27 t402.length co27] 34 (0, 0)) z15_5_ hb); have n11_ := Aside0.mk (blk_below (g := gb395) (o := .cells #[.slice Ao33 t388.length co33, .slice Ao38 t391.length co38] 36 (0, 0)) z15_7_ hb); have n12_ := Aside0.mk (below_step z15_1_ hb); have n13_ := Aside0.mk (hbox); have n14_ := Aside0.mk ((by rw [hg]; exact (below_size z15_1_) : w.heap.size ≤ gb418)); have n15_ := Aside0.mk ((by rw [hg]; exact (below_size z15_1_) : w.heap.size ≤ gb418)); have n16_ := Aside0.mk ((by rw [hg]; exact Nat.ne_of_lt (blk_lt (g := gb371) (o := .cells #[.slice A0_0 l0_0.length c0_0] 24 (0, 0)) z15_2_) : gb371 ≠ gb418)); have n17_ := Aside0.mk ((by rw [hg]; exact Nat.ne_of_gt (blk_lt (g := gb371) (o := .cells #[.slice A0_0 l0_0.length c0_0] 24 (0, 0)) z15_2_) : gb418 ≠ gb371)); have n18_ := Aside0.mk ((by rw [hg]; exact Nat.ne_of_lt (blk_lt (g := gb383) (o := .cells #[.slice Ao20 t376.length co20, .slice Ao23 t379.length co23] 36 (0, 0)) z15_4_) : gb383 ≠ gb418)); have n19_ := Aside0.mk ((by rw [hg]; exact Nat.ne_of_gt (blk_lt (g := gb383) (o := .cells #[.slice Ao20 t376.length co20, .slice Ao23 t379.length co23] 36 (0, 0)) z15_4_) : gb418 ≠ gb383)); have n20_ := Aside0.mk ((by rw [hg]; exact Nat.ne_of_lt (blk_lt (g := gb387) (o := .cells #[.slice Ao27 t402.length co27] 34 (0, 0)) z15_5_) : gb387 ≠ gb418)); have n21_ := Aside0.mk ((by rw [hg]; exact Nat.ne_of_gt (blk_lt (g := gb387) (o := .cells #[.slice Ao27 t402.length co27] 34 (0, 0)) z15_5_) : gb418 ≠ gb387)); have n22_ := Aside0.mk ((by rw [hg]; exact Nat.ne_of_lt (blk_lt (g := gb395) (o := .cells #[.slice Ao33 t388.length co33, .slice Ao38 t391.length co38] 36 (0, 0)) z15_7_) : gb395 ≠ gb418)); have n23_ := Aside0.mk ((by rw [hg]; exact Nat.ne_of_gt (blk_lt (g := gb395) (o := .cells #[.slice Ao33 t388.length co33, .slice Ao38 t391.length co38] 36 (0, 0)) z15_7_) : gb418 ≠ gb395)); clear HO_384000; clear HO_384001; clear HO_388000; clear HO_396000; clear HO_396001; clear HO410; clear HO413; clear HO416; clear BK371; clear BK383; clear BK387; clear BK395; clear HB; have HO_384000 := n0_; have HO_384001 := n1_; have HO_388000 := n2_; have HO_396000 := n3_; have HO_396001 := n4_; have HO410 := n5_; have HO413 := n6_; have HO416 := n7_; have BK371 := n8_; have BK383 := n9_; have BK387 := n10_; have BK395 := n11_; have HB := n12_; have BK418 := n13_; have GW418 := n14_; have GE418 := n15_; have NB371_418 := n16_; have NB418_371 := n17_; have NB383_418 := n18_; have NB418_383 := n19_; have NB387_418 := n20_; have NB418_387 := n21_; have NB395_418 := n22_; have NB418_395 := n23_; clear n0_ n1_ n2_ n3_ n4_ n5_ n6_ n7_ n8_ n9_ n10_ n11_ n12_ n13_ n14_ n15_ n16_ n17_ n18_ n19_ n20_ n21_ n22_ n23_; clear hb hbox hg; obtain ⟨Ao113, co113, eo113⟩ := Kd.R_slice HO413.out; subst eo113; have hnb114 := NB418_371.out; have hnc114 := NB371_418.out; have hnb115 := NB418_383.out; have hnc115 := NB383_418.out; have hnb116 := NB418_387.out; have hnc116 := NB387_418.out; have hnb117 := NB418_395.out; have hnc117 := NB395_418.out; have hcz118_0 : w112.cell? ⟨gb418, 0, none⟩ = some (.slice none 0 0) := (blk_cell BK418.out 0).trans rfl; have hcz118_1 : w112.cell? ⟨gb418, 1, none⟩ = some (.slice none 0 0) := (blk_cell BK418.out 1).trans rfl; have hfz118_0 := blk_frozen BK418.out 0; have hfz118_1 := blk_frozen BK418.out 1; obtain ⟨Ao119, co119, eo119⟩ := Kd.R_slice HO416.out; subst eo119))
           (try simp only [Act.put, sA_, sB_, sC_])
           go_cut [87] (fun v87 wc => ∃ (kq : Nat) (x87_97 : Bool), v87 = .bool x87_97 ∧ Aside0 (laws_FnExactConstantOf.j2 kq t404 x87_97 t405 t406 = some true) ∧ Aside0 (kq ≤ kj61) ∧ Aside0 (Kd.R (Kd.int .i8) 86 wc w.heap.size (fun k_ => some k_ ≠ ((.slice Ao23 t379.length co23) : Value).ownBlock ∧ some k_ ≠ ((.slice Ao33 t388.length co33) : Value).ownBlock ∧ some k_ ≠ ((.slice Ao38 t391.length co38) : Value).ownBlock ∧ some k_ ≠ ((.slice Ao113 t411.length co113) : Value).ownBlock ∧ some k_ ≠ ((.slice Ao119 t414.length co119) : Value).ownBlock) (.slice Ao20 t376.length co20) t376) ∧ Aside0 (Kd.R (Kd.int .i8) 86 wc w.heap.size (fun k_ => some k_ ≠ ((.slice Ao20 t376.length co20) : Value).ownBlock ∧ some k_ ≠ ((.slice Ao33 t388.length co33) : Value).ownBlock ∧ some k_ ≠ ((.slice Ao38 t391.length co38) : Value).ownBlock ∧ some k_ ≠ ((.slice Ao113 t411.length co113) : Value).ownBlock ∧ some k_ ≠ ((.slice Ao119 t414.length co119) : Value).ownBlock) (.slice Ao23 t379.length co23) t379) ∧ Aside0 (Kd.R k89 89 wc w.heap.size (fun _ => True) (.slice Ao27 t402.length co27) t402) ∧ Aside0 (Kd.R (Kd.int .i8) 86 wc w.heap.size (fun k_ => some k_ ≠ ((.slice Ao20 t376.length co20) : Value).ownBlock ∧ some k_ ≠ ((.slice Ao23 t379.length co23) : Value).ownBlock ∧ some k_ ≠ ((.slice Ao38 t391.length co38) : Value).ownBlock ∧ some k_ ≠ ((.slice Ao113 t411.length co113) : Value).ownBlock ∧ some k_ ≠ ((.slice Ao119 t414.length co119) : Value).ownBlock) (.slice Ao33 t388.length co33) t405) ∧ Aside0 (Kd.R (Kd.int .i8) 86 wc w.heap.size (fun k_ => some k_ ≠ ((.slice Ao20 t376.length co20) : Value).ownBlock ∧ some k_ ≠ ((.slice Ao23 t379.length co23) : Value).ownBlock ∧ some k_ ≠ ((.slice Ao33 t388.length co33) : Value).ownBlock ∧ some k_ ≠ ((.slice Ao113 t411.length co113) : Value).ownBlock ∧ some k_ ≠ ((.slice Ao119 t414.length co119) : Value).ownBlock) (.slice Ao38 t391.length co38) t406) ∧ Aside0 (Kd.R (Kd.int .i8) 86 wc w.heap.size (fun k_ => some k_ ≠ ((.slice Ao20 t376.length co20) : Value).ownBlock ∧ some k_ ≠ ((.slice Ao23 t379.length co23) : Value).ownBlock ∧ some k_ ≠ ((.slice Ao33 t388.length co33) : Value).ownBlock ∧ some k_ ≠ ((.slice Ao38 t391.length co38) : Value).ownBlock ∧ some k_ ≠ ((.slice Ao119 t414.length co119) : Value).ownBlock) (.slice Ao113 t411.length co113) t411) ∧ Aside0 (Kd.R (Kd.int .i8) 86 wc w.heap.size (fun k_ => some k_ ≠ ((.slice Ao20 t376.length co20) : Value).ownBlock ∧ some k_ ≠ ((.slice Ao23 t379.length co23) : Value).ownBlock ∧ some k_ ≠ ((.slice Ao33 t388.length co33) : Value).ownBlock ∧ some k_ ≠ ((.slice Ao38 t391.length co38) : Value).ownBlock ∧ some k_ ≠ ((.slice Ao113 t411.length co113) : Value).ownBlock) (.slice Ao119 t414.length co119) t414) ∧ Aside0 (wc.heap[gb371]? = some (.cells #[(.slice A0_0 l0_0.length c0_0)] 24 (0, 0))) ∧ Aside0 (wc.heap[gb383]? = some (.cells #[(.slice Ao20 t376.length co20), (.slice Ao23 t379.length co23)] 36 (0, 0))) ∧ Aside0 (wc.heap[gb387]? = some (.cells #[(.slice Ao27 t402.length co27)] 34 (0, 0))) ∧ Aside0 (wc.heap[gb395]? = some (.cells #[(.slice Ao33 t388.length co33), (.slice Ao38 t391.length co38)] 36 (0, 0))) ∧ Aside0 (wc.heap[gb418]? = some (.cells #[(.slice Ao113 t411.length co113), (.slice Ao119 t414.length co119)] 36 (0, 0))) ∧ Aside0 (Below w.heap.size w wc))
           case first =>
            have H := HC98.out
            clear HC98
            replace H := Option.bind_eq_some_iff.mp H
            obtain ⟨t419, A1200, H⟩ := H
            replace H : (if t419 = true then (laws_FnExactConstantOf.j2 kj61 t404 (t417 != t382) t405 t406) else (laws_FnExactConstantOf.j2 kj61 t404 true t405 t406)) = some true := H
            have A120 := Aside0.mk A1200
            clear A1200
            by_cases c121 : t419 = true
            ·
             subst c121
             have H1 : (laws_FnExactConstantOf.j2 kj61 t404 (t417 != t382) t405 t406) = some true := by first | (rw [if_pos rfl] at H; exact H) | rfl
             clear H
             have H := H1
             clear H1
             have H' := Aside0.mk H
             clear H
             have hnb122 := NB418_371.out
             have hnc122 := NB371_418.out
             have hnb123 := NB418_383.out
             have hnc123 := NB383_418.out
             have hnb124 := NB418_387.out
             have hnc124 := NB387_418.out
             have hnb125 := NB418_395.out
             have hnc125 := NB395_418.out
             have hcz126_0 : w112.cell? ⟨gb418, 0, none⟩ = some (.slice none 0 0) := (blk_cell BK418.out 0).trans rfl
             have hcz126_1 : w112.cell? ⟨gb418, 1, none⟩ = some (.slice none 0 0) := (blk_cell BK418.out 1).trans rfl
             have hfz126_0 := blk_frozen BK418.out 0
             have hfz126_1 := blk_frozen BK418.out 1
             have hnb127 := NB383_371.out
             have hnc127 := NB371_383.out
             have hnb128 := NB383_387.out
             have hnc128 := NB387_383.out
             have hnb129 := NB383_395.out
             have hnc129 := NB395_383.out
             have hcz130_0 : w112.cell? ⟨gb383, 0, none⟩ = some (.slice Ao20 t376.length co20) := (blk_cell BK383.out 0).trans rfl
             have hcz130_1 : w112.cell? ⟨gb383, 1, none⟩ = some (.slice Ao23 t379.length co23) := (blk_cell BK383.out 1).trans rfl
             have hfz130_0 := blk_frozen BK383.out 0
             have hfz130_1 := blk_frozen BK383.out 1
             go_wp2_with (first | ((with_reducible refine gate_callee (f := 22) rfl ?_); refine goesL_ (some 81) rfl rfl Try.func22 (by kernel_rfl) rfl #[.agg #[.slice Ao113 t411.length co113, .slice Ao119 t414.length co119], .agg #[.slice Ao20 t376.length co20, .slice Ao23 t379.length co23]] rfl z15_3_ ?_; (with_reducible refine (laws_eqStream.calls kj61 _ _ t411 _ _ t414 _ _ t376 _ _ t379 true _ ?side1 ?side2 ?side3 ?side4 ?side5 ?side6 ?side7 ?side8 A120.out).mono ?_); (case side1 => refine (Kd.R_reads' (e := 86) (base := w.heap.size) (ok := fun k_ => ((((some k_ ≠ (.slice Ao119 t414.length co119 : Value).ownBlock ∧ some k_ ≠ (.slice Ao20 t376.length co20 : Value).ownBlock) ∧ some k_ ≠ (.slice Ao23 t379.length co23 : Value).ownBlock) ∧ some k_ ≠ (.slice Ao33 t388.length co33 : Value).ownBlock) ∧ some k_ ≠ (.slice Ao38 t391.length co38 : Value).ownBlock)) (n := t411.length) (c := co113) ?_).2.2; exact z15_17_); (case side2 => exact (Kd.R_reads' HO413.out).2.1); (case side3 => refine (Kd.R_reads' (e := 86) (base := w.heap.size) (ok := fun k_ => ((((some k_ ≠ (.slice Ao113 t411.length co113 : Value).ownBlock ∧ some k_ ≠ (.slice Ao20 t376.length co20 : Value).ownBlock) ∧ some k_ ≠ (.slice Ao23 t379.length co23 : Value).ownBlock) ∧ some k_ ≠ (.slice Ao33 t388.length co33 : Value).ownBlock) ∧ some k_ ≠ (.slice Ao38 t391.length co38 : Value).ownBlock)) (n := t414.length) (c := co119) ?_).2.2; exact z15_16_); (case side4 => exact (Kd.R_reads' HO416.out).2.1); (case side5 => refine (Kd.R_reads' (e := 86) (base := w.heap.size) (ok := fun k_ => (((some k_ ≠ (.slice Ao23 t379.length co23 : Value).ownBlock ∧ (some k_ ≠ (.slice Ao33 t388.length co33 : Value).ownBlock ∧ some k_ ≠ (.slice Ao38 t391.length co38 : Value).ownBlock)) ∧ some k_ ≠ (.slice Ao113 t411.length co113 : Value).ownBlock) ∧ some k_ ≠ (.slice Ao119 t414.length co119 : Value).ownBlock)) (n := t376.length) (c := co20) ?_).2.2; exact z15_15_); (case side6 => exact (Kd.R_reads' HO_384000.out).2.1); (case side7 => refine (Kd.R_reads' (e := 86) (base := w.heap.size) (ok := fun k_ => (((some k_ ≠ (.slice Ao20 t376.length co20 : Value).ownBlock ∧ (some k_ ≠ (.slice Ao33 t388.length co33 : Value).ownBlock ∧ some k_ ≠ (.slice Ao38 t391.length co38 : Value).ownBlock)) ∧ some k_ ≠ (.slice Ao113 t411.length co113 : Value).ownBlock) ∧ some k_ ≠ (.slice Ao119 t414.length co119 : Value).ownBlock)) (n := t379.length) (c := co23) ?_).2.2; exact z15_14_); (case side8 => exact (Kd.R_reads' HO_384001.out).2.1); rintro e w131 ⟨rfl, hb⟩; refine ⟨_, rfl, ?_⟩; have n0_ := Aside0.mk (Kd.R_below z15_15_ hb); have n1_ := Aside0.mk (Kd.R_below z15_14_ hb); have n2_ := Aside0.mk (Kd.R_below z15_39_ hb); have n3_ := Aside0.mk (Kd.R_below z15_38_ hb); have n4_ := Aside0.mk (Kd.R_below z15_37_ hb); have n5_ := Aside0.mk (Kd.R_below z15_40_ hb); have n6_ := Aside0.mk (Kd.R_below z15_17_ hb); have n7_ := Aside0.mk (Kd.R_below z15_16_ hb); have n8_ := Aside0.mk (blk_below (g := gb371) (o := .cells #[.slice A0_0 l0_0.length c0_0] 24 (0, 0)) z15_35_ hb); have n9_ := Aside0.mk (blk_below (g := gb383) (o := .cells #[.slice Ao20 t376.length co20, .slice Ao23 t379.length co23] 36 (0, 0)) z15_33_ hb); have n10_ := Aside0.mk (blk_below (g := gb387) (o := .cells #[.slice Ao27 t402.length co27] 34 (0, 0)) z15_31_ hb); have n11_ := Aside0.mk (blk_below (g := gb395) (o := .cells #[.slice Ao33 t388.length co33, .slice Ao38 t391.length co38] 36 (0, 0)) z15_30_ hb); have n12_ := Aside0.mk (blk_below (g := gb418) (o := .cells #[.slice Ao113 t411.length co113, .slice Ao119 t414.length co119] 36 (0, 0)) z15_27_ hb); have n13_ := Aside0.mk (below_step z15_24_ hb); clear HO_384000; clear HO_384001; clear HO_388000; clear HO_396000; clear HO_396001; clear HO410; clear HO413; clear HO416; clear BK371; clear BK383; clear BK387; clear BK395; clear BK418; clear HB; have HO_384000 := n0_; have HO_384001 := n1_; have HO_388000 := n2_; have HO_396000 := n3_; have HO_396001 := n4_; have HO410 := n5_; have HO413 := n6_; have HO416 := n7_; have BK371 := n8_; have BK383 := n9_; have BK387 := n10_; have BK395 := n11_; have BK418 := n12_; have HB := n13_; clear n0_ n1_ n2_ n3_ n4_ n5_ n6_ n7_ n8_ n9_ n10_ n11_ n12_ n13_; (try clear hb); (try clear hb2); (try clear hk); (try clear hi)))
             go_meet
             case rel => exact ⟨_, ((t417 != t382)), z15_29_, H', ⟨by have := HJ10.out; have := HJ61.out; first | omega | exact Nat.le_refl _⟩, ⟨by (try simp only [hl388000_61]); (with_reducible repeat (first | apply Kd.R_alloc | apply Kd.R_drewN | apply Kd.R_drew)); exact Kd.R_mono HO_384000.out (fun _ hk => ⟨hk.1.1.1, ⟨hk.1.1.2.1, ⟨hk.1.1.2.2, ⟨hk.1.2, hk.2⟩⟩⟩⟩)⟩, ⟨by (try simp only [hl388000_61]); (with_reducible repeat (first | apply Kd.R_alloc | apply Kd.R_drewN | apply Kd.R_drew)); exact Kd.R_mono HO_384001.out (fun _ hk => ⟨hk.1.1.1, ⟨hk.1.1.2.1, ⟨hk.1.1.2.2, ⟨hk.1.2, hk.2⟩⟩⟩⟩)⟩, ⟨by (try simp only [hl388000_61]); (with_reducible repeat (first | apply Kd.R_alloc | apply Kd.R_drewN | apply Kd.R_drew)); exact Kd.R_mono HO_388000.out (fun _ hk => trivial)⟩, ⟨by (try simp only [hl388000_61]); (with_reducible repeat (first | apply Kd.R_alloc | apply Kd.R_drewN | apply Kd.R_drew)); exact Kd.R_mono HO_396000.out (fun _ hk => ⟨hk.1.1.1, ⟨hk.1.1.2.1, ⟨hk.1.1.2.2, ⟨hk.1.2, hk.2⟩⟩⟩⟩)⟩, ⟨by (try simp only [hl388000_61]); (with_reducible repeat (first | apply Kd.R_alloc | apply Kd.R_drewN | apply Kd.R_drew)); exact Kd.R_mono HO_396001.out (fun _ hk => ⟨hk.1.1.1, ⟨hk.1.1.2.1, ⟨hk.1.1.2.2, ⟨hk.1.2, hk.2⟩⟩⟩⟩)⟩, ⟨by (try simp only [hl388000_61]); (with_reducible repeat (first | apply Kd.R_alloc | apply Kd.R_drewN | apply Kd.R_drew)); exact Kd.R_mono HO413.out (fun _ hk => ⟨hk.1.1.1.2, ⟨hk.1.1.2, ⟨hk.1.2, ⟨hk.2, hk.1.1.1.1⟩⟩⟩⟩)⟩, ⟨by (try simp only [hl388000_61]); (with_reducible repeat (first | apply Kd.R_alloc | apply Kd.R_drewN | apply Kd.R_drew)); exact Kd.R_mono HO416.out (fun _ hk => ⟨hk.1.1.1.2, ⟨hk.1.1.2, ⟨hk.1.2, ⟨hk.2, hk.1.1.1.1⟩⟩⟩⟩)⟩, ⟨by (try simp only [hl388000_61]); (with_reducible repeat (first | refine blk_drewN ?_ _ | refine blk_drew ?_ | refine blk_alloc ?_ _)); exact BK371.out⟩, ⟨by (try simp only [hl388000_61]); (with_reducible repeat (first | refine blk_drewN ?_ _ | refine blk_drew ?_ | refine blk_alloc ?_ _)); exact BK383.out⟩, ⟨by (try simp only [hl388000_61]); (with_reducible repeat (first | refine blk_drewN ?_ _ | refine blk_drew ?_ | refine blk_alloc ?_ _)); exact BK387.out⟩, ⟨by (try simp only [hl388000_61]); (with_reducible repeat (first | refine blk_drewN ?_ _ | refine blk_drew ?_ | refine blk_alloc ?_ _)); exact BK395.out⟩, ⟨by (try simp only [hl388000_61]); (with_reducible repeat (first | refine blk_drewN ?_ _ | refine blk_drew ?_ | refine blk_alloc ?_ _)); exact BK418.out⟩, ⟨by repeat (first | (with_reducible first | exact HB.out | apply below_alloc | apply pw_below_drewN | apply below_drew1 | refine below_set ?_ GE371.out | refine below_set ?_ GE383.out | refine below_set ?_ GE387.out | refine below_set ?_ GE395.out | refine below_set ?_ GE418.out) | exact HB.out)⟩⟩
            ·
             replace c121 := Bool.eq_false_iff.mpr c121
             subst c121
             have H1 : (laws_FnExactConstantOf.j2 kj61 t404 true t405 t406) = some true := by first | (rw [if_neg (show ¬ (false = true) by decide)] at H; exact H) | rfl
             clear H
             have H := H1
             clear H1
             have H' := Aside0.mk H
             clear H
             have hnb132 := NB418_371.out
             have hnc132 := NB371_418.out
             have hnb133 := NB418_383.out
             have hnc133 := NB383_418.out
             have hnb134 := NB418_387.out
             have hnc134 := NB387_418.out
             have hnb135 := NB418_395.out
             have hnc135 := NB395_418.out
             have hcz136_0 : w112.cell? ⟨gb418, 0, none⟩ = some (.slice none 0 0) := (blk_cell BK418.out 0).trans rfl
             have hcz136_1 : w112.cell? ⟨gb418, 1, none⟩ = some (.slice none 0 0) := (blk_cell BK418.out 1).trans rfl
             have hfz136_0 := blk_frozen BK418.out 0
             have hfz136_1 := blk_frozen BK418.out 1
             have hnb137 := NB383_371.out
             have hnc137 := NB371_383.out
             have hnb138 := NB383_387.out
             have hnc138 := NB387_383.out
             have hnb139 := NB383_395.out
             have hnc139 := NB395_383.out
             have hcz140_0 : w112.cell? ⟨gb383, 0, none⟩ = some (.slice Ao20 t376.length co20) := (blk_cell BK383.out 0).trans rfl
             have hcz140_1 : w112.cell? ⟨gb383, 1, none⟩ = some (.slice Ao23 t379.length co23) := (blk_cell BK383.out 1).trans rfl
             have hfz140_0 := blk_frozen BK383.out 0
             have hfz140_1 := blk_frozen BK383.out 1
             go_wp2_with (first | ((with_reducible refine gate_callee (f := 22) rfl ?_); refine goesL_ (some 81) rfl rfl Try.func22 (by kernel_rfl) rfl #[.agg #[.slice Ao113 t411.length co113, .slice Ao119 t414.length co119], .agg #[.slice Ao20 t376.length co20, .slice Ao23 t379.length co23]] rfl z15_3_ ?_; (with_reducible refine (laws_eqStream.calls kj61 _ _ t411 _ _ t414 _ _ t376 _ _ t379 false _ ?side1 ?side2 ?side3 ?side4 ?side5 ?side6 ?side7 ?side8 A120.out).mono ?_); (case side1 => refine (Kd.R_reads' (e := 86) (base := w.heap.size) (ok := fun k_ => ((((some k_ ≠ (.slice Ao119 t414.length co119 : Value).ownBlock ∧ some k_ ≠ (.slice Ao20 t376.length co20 : Value).ownBlock) ∧ some k_ ≠ (.slice Ao23 t379.length co23 : Value).ownBlock) ∧ some k_ ≠ (.slice Ao33 t388.length co33 : Value).ownBlock) ∧ some k_ ≠ (.slice Ao38 t391.length co38 : Value).ownBlock)) (n := t411.length) (c := co113) ?_).2.2; exact z15_17_); (case side2 => exact (Kd.R_reads' HO413.out).2.1); (case side3 => refine (Kd.R_reads' (e := 86) (base := w.heap.size) (ok := fun k_ => ((((some k_ ≠ (.slice Ao113 t411.length co113 : Value).ownBlock ∧ some k_ ≠ (.slice Ao20 t376.length co20 : Value).ownBlock) ∧ some k_ ≠ (.slice Ao23 t379.length co23 : Value).ownBlock) ∧ some k_ ≠ (.slice Ao33 t388.length co33 : Value).ownBlock) ∧ some k_ ≠ (.slice Ao38 t391.length co38 : Value).ownBlock)) (n := t414.length) (c := co119) ?_).2.2; exact z15_16_); (case side4 => exact (Kd.R_reads' HO416.out).2.1); (case side5 => refine (Kd.R_reads' (e := 86) (base := w.heap.size) (ok := fun k_ => (((some k_ ≠ (.slice Ao23 t379.length co23 : Value).ownBlock ∧ (some k_ ≠ (.slice Ao33 t388.length co33 : Value).ownBlock ∧ some k_ ≠ (.slice Ao38 t391.length co38 : Value).ownBlock)) ∧ some k_ ≠ (.slice Ao113 t411.length co113 : Value).ownBlock) ∧ some k_ ≠ (.slice Ao119 t414.length co119 : Value).ownBlock)) (n := t376.length) (c := co20) ?_).2.2; exact z15_15_); (case side6 => exact (Kd.R_reads' HO_384000.out).2.1); (case side7 => refine (Kd.R_reads' (e := 86) (base := w.heap.size) (ok := fun k_ => (((some k_ ≠ (.slice Ao20 t376.length co20 : Value).ownBlock ∧ (some k_ ≠ (.slice Ao33 t388.length co33 : Value).ownBlock ∧ some k_ ≠ (.slice Ao38 t391.length co38 : Value).ownBlock)) ∧ some k_ ≠ (.slice Ao113 t411.length co113 : Value).ownBlock) ∧ some k_ ≠ (.slice Ao119 t414.length co119 : Value).ownBlock)) (n := t379.length) (c := co23) ?_).2.2; exact z15_14_); (case side8 => exact (Kd.R_reads' HO_384001.out).2.1); rintro e w141 ⟨rfl, hb⟩; refine ⟨_, rfl, ?_⟩; have n0_ := Aside0.mk (Kd.R_below z15_15_ hb); have n1_ := Aside0.mk (Kd.R_below z15_14_ hb); have n2_ := Aside0.mk (Kd.R_below z15_39_ hb); have n3_ := Aside0.mk (Kd.R_below z15_38_ hb); have n4_ := Aside0.mk (Kd.R_below z15_37_ hb); have n5_ := Aside0.mk (Kd.R_below z15_40_ hb); have n6_ := Aside0.mk (Kd.R_below z15_17_ hb); have n7_ := Aside0.mk (Kd.R_below z15_16_ hb); have n8_ := Aside0.mk (blk_below (g := gb371) (o := .cells #[.slice A0_0 l0_0.length c0_0] 24 (0, 0)) z15_35_ hb); have n9_ := Aside0.mk (blk_below (g := gb383) (o := .cells #[.slice Ao20 t376.length co20, .slice Ao23 t379.length co23] 36 (0, 0)) z15_33_ hb); have n10_ := Aside0.mk (blk_below (g := gb387) (o := .cells #[.slice Ao27 t402.length co27] 34 (0, 0)) z15_31_ hb); have n11_ := Aside0.mk (blk_below (g := gb395) (o := .cells #[.slice Ao33 t388.length co33, .slice Ao38 t391.length co38] 36 (0, 0)) z15_30_ hb); have n12_ := Aside0.mk (blk_below (g := gb418) (o := .cells #[.slice Ao113 t411.length co113, .slice Ao119 t414.length co119] 36 (0, 0)) z15_27_ hb); have n13_ := Aside0.mk (below_step z15_24_ hb); clear HO_384000; clear HO_384001; clear HO_388000; clear HO_396000; clear HO_396001; clear HO410; clear HO413; clear HO416; clear BK371; clear BK383; clear BK387; clear BK395; clear BK418; clear HB; have HO_384000 := n0_; have HO_384001 := n1_; have HO_388000 := n2_; have HO_396000 := n3_; have HO_396001 := n4_; have HO410 := n5_; have HO413 := n6_; have HO416 := n7_; have BK371 := n8_; have BK383 := n9_; have BK387 := n10_; have BK395 := n11_; have BK418 := n12_; have HB := n13_; clear n0_ n1_ n2_ n3_ n4_ n5_ n6_ n7_ n8_ n9_ n10_ n11_ n12_ n13_; (try clear hb); (try clear hb2); (try clear hk); (try clear hi)))
             go_meet
             case rel => exact ⟨_, (true), z15_29_, H', ⟨by have := HJ10.out; have := HJ61.out; first | omega | exact Nat.le_refl _⟩, ⟨by (try simp only [hl388000_61]); (with_reducible repeat (first | apply Kd.R_alloc | apply Kd.R_drewN | apply Kd.R_drew)); exact Kd.R_mono HO_384000.out (fun _ hk => ⟨hk.1.1.1, ⟨hk.1.1.2.1, ⟨hk.1.1.2.2, ⟨hk.1.2, hk.2⟩⟩⟩⟩)⟩, ⟨by (try simp only [hl388000_61]); (with_reducible repeat (first | apply Kd.R_alloc | apply Kd.R_drewN | apply Kd.R_drew)); exact Kd.R_mono HO_384001.out (fun _ hk => ⟨hk.1.1.1, ⟨hk.1.1.2.1, ⟨hk.1.1.2.2, ⟨hk.1.2, hk.2⟩⟩⟩⟩)⟩, ⟨by (try simp only [hl388000_61]); (with_reducible repeat (first | apply Kd.R_alloc | apply Kd.R_drewN | apply Kd.R_drew)); exact Kd.R_mono HO_388000.out (fun _ hk => trivial)⟩, ⟨by (try simp only [hl388000_61]); (with_reducible repeat (first | apply Kd.R_alloc | apply Kd.R_drewN | apply Kd.R_drew)); exact Kd.R_mono HO_396000.out (fun _ hk => ⟨hk.1.1.1, ⟨hk.1.1.2.1, ⟨hk.1.1.2.2, ⟨hk.1.2, hk.2⟩⟩⟩⟩)⟩, ⟨by (try simp only [hl388000_61]); (with_reducible repeat (first | apply Kd.R_alloc | apply Kd.R_drewN | apply Kd.R_drew)); exact Kd.R_mono HO_396001.out (fun _ hk => ⟨hk.1.1.1, ⟨hk.1.1.2.1, ⟨hk.1.1.2.2, ⟨hk.1.2, hk.2⟩⟩⟩⟩)⟩, ⟨by (try simp only [hl388000_61]); (with_reducible repeat (first | apply Kd.R_alloc | apply Kd.R_drewN | apply Kd.R_drew)); exact Kd.R_mono HO413.out (fun _ hk => ⟨hk.1.1.1.2, ⟨hk.1.1.2, ⟨hk.1.2, ⟨hk.2, hk.1.1.1.1⟩⟩⟩⟩)⟩, ⟨by (try simp only [hl388000_61]); (with_reducible repeat (first | apply Kd.R_alloc | apply Kd.R_drewN | apply Kd.R_drew)); exact Kd.R_mono HO416.out (fun _ hk => ⟨hk.1.1.1.2, ⟨hk.1.1.2, ⟨hk.1.2, ⟨hk.2, hk.1.1.1.1⟩⟩⟩⟩)⟩, ⟨by (try simp only [hl388000_61]); (with_reducible repeat (first | refine blk_drewN ?_ _ | refine blk_drew ?_ | refine blk_alloc ?_ _)); exact BK371.out⟩, ⟨by (try simp only [hl388000_61]); (with_reducible repeat (first | refine blk_drewN ?_ _ | refine blk_drew ?_ | refine blk_alloc ?_ _)); exact BK383.out⟩, ⟨by (try simp only [hl388000_61]); (with_reducible repeat (first | refine blk_drewN ?_ _ | refine blk_drew ?_ | refine blk_alloc ?_ _)); exact BK387.out⟩, ⟨by (try simp only [hl388000_61]); (with_reducible repeat (first | refine blk_drewN ?_ _ | refine blk_drew ?_ | refine blk_alloc ?_ _)); exact BK395.out⟩, ⟨by (try simp only [hl388000_61]); (with_reducible repeat (first | refine blk_drewN ?_ _ | refine blk_drew ?_ | refine blk_alloc ?_ _)); exact BK418.out⟩, ⟨by repeat (first | (with_reducible first | exact HB.out | apply below_alloc | apply pw_below_drewN | apply below_drew1 | refine below_set ?_ GE371.out | refine below_set ?_ GE383.out | refine below_set ?_ GE387.out | refine below_set ?_ GE395.out | refine below_set ?_ GE418.out) | exact HB.out)⟩⟩
           case rest =>
            clear HC98
            try clear c1
            try clear c2
            try clear p2
            try clear c3
            try clear c3b0
            try clear c4
            try clear c5
            try clear c6
            try clear c7
            try clear c8
            try clear c9
            try clear c10
            try clear c11
            try clear c12
            try clear c13
            try clear c14
            try clear c17
            try clear c21
            try clear c22
            try clear c23
            try clear c24
            try clear c28
            try clear c29
            try clear c34
            try clear c35
            try clear c36
            try clear c40
            try clear c41
            try clear c42
            try clear c43
            try clear c44
            try clear c45
            try clear c46
            try clear c49
            try clear c50
            try clear c51
            try clear c53
            try clear c54
            try clear c57
            try clear c60
            try clear c67
            try clear c68
            try clear c69
            try clear c72
            try clear c72b0
            try clear c74
            try clear c75
            try clear c76
            try clear c77
            try clear c79
            try clear c80
            try clear c83
            try clear c84
            try clear c85
            try clear c87
            try clear c88
            try clear c91
            try clear c94
            try clear c94b0
            try clear c95
            try clear c95b0
            try clear c95b1
            try clear c99
            try clear c100
            try clear c101
            try clear c106
            try clear c107
            try clear c114
            try clear c115
            try clear c116
            try clear c117
            try clear c121
            try clear c122
            try clear c123
            try clear c124
            try clear c125
            try clear c127
            try clear c128
            try clear c129
            try clear c132
            try clear c133
            try clear c134
            try clear c135
            try clear c137
            try clear c138
            try clear c139
            try clear hcz102_0
            try clear hcz102_1
            try clear hcz104_0
            try clear hcz104_1
            try clear hcz108_0
            try clear hcz118_0
            try clear hcz118_1
            try clear hcz126_0
            try clear hcz126_1
            try clear hcz130_0
            try clear hcz130_1
            try clear hcz136_0
            try clear hcz136_1
            try clear hcz13_0
            try clear hcz140_0
            try clear hcz140_1
            try clear hcz15_0
            try clear hcz22_0
            try clear hcz22_1
            try clear hcz24_0
            try clear hcz30_0
            try clear hcz37_0
            try clear hcz37_1
            try clear hcz44_0
            try clear hcz44_1
            try clear hcz47_0
            try clear hcz47_1
            try clear hcz52_0
            try clear hcz52_1
            try clear hcz55_0
            try clear hcz55_1
            try clear hcz5_0
            try clear hcz70_0
            try clear hcz78_0
            try clear hcz78_1
            try clear hcz81_0
            try clear hcz81_1
            try clear hcz86_0
            try clear hcz86_1
            try clear hcz89_0
            try clear hcz89_1
            try clear hfz102_0
            try clear hfz102_1
            try clear hfz104_0
            try clear hfz104_1
            try clear hfz108_0
            try clear hfz118_0
            try clear hfz118_1
            try clear hfz126_0
            try clear hfz126_1
            try clear hfz130_0
            try clear hfz130_1
            try clear hfz136_0
            try clear hfz136_1
            try clear hfz13_0
            try clear hfz140_0
            try clear hfz140_1
            try clear hfz15_0
            try clear hfz22_0
            try clear hfz22_1
            try clear hfz24_0
            try clear hfz30_0
            try clear hfz37_0
            try clear hfz37_1
            try clear hfz44_0
            try clear hfz44_1
            try clear hfz47_0
            try clear hfz47_1
            try clear hfz52_0
            try clear hfz52_1
            try clear hfz55_0
            try clear hfz55_1
            try clear hfz5_0
            try clear hfz70_0
            try clear hfz78_0
            try clear hfz78_1
            try clear hfz81_0
            try clear hfz81_1
            try clear hfz86_0
            try clear hfz86_1
            try clear hfz89_0
            try clear hfz89_1
            try clear p2
            obtain ⟨kq, x87_97, rfl, HA, HJ97, HO_384000, HO_384001, HO_388000, HO_396000, HO_396001, HO_419000, HO_419001, BK371, BK383, BK387, BK395, BK418, HB⟩ := hcut
            have hl396000_97 := (Kd.R_reads' HO_396000.out).1
            rw [hl396000_97] at HO_396000
            (try simp only [hl396000_97])
            (try simp only [hl396000_97] at BK371)
            (try simp only [hl396000_97] at BK383)
            (try simp only [hl396000_97] at BK387)
            (try simp only [hl396000_97] at BK395)
            (try simp only [hl396000_97] at BK418)
            (try simp only [hl396000_97] at HO_384000)
            (try simp only [hl396000_97] at HO_384001)
            (try simp only [hl396000_97] at HO_388000)
            (try simp only [hl396000_97] at HO_396001)
            (try simp only [hl396000_97] at HO_419000)
            (try simp only [hl396000_97] at HO_419001)
            have hl396001_97 := (Kd.R_reads' HO_396001.out).1
            rw [hl396001_97] at HO_396001
            (try simp only [hl396001_97])
            (try simp only [hl396001_97] at BK371)
            (try simp only [hl396001_97] at BK383)
            (try simp only [hl396001_97] at BK387)
            (try simp only [hl396001_97] at BK395)
            (try simp only [hl396001_97] at BK418)
            (try simp only [hl396001_97] at HO_384000)
            (try simp only [hl396001_97] at HO_384001)
            (try simp only [hl396001_97] at HO_388000)
            (try simp only [hl396001_97] at HO_396000)
            (try simp only [hl396001_97] at HO_419000)
            (try simp only [hl396001_97] at HO_419001)
            cases kq with
            | zero => exact absurd HA.out (by simp [laws_FnExactConstantOf.j2])
            | succ kj97 =>
             have H := HA.out
             clear HA
             simp only [laws_FnExactConstantOf.j2] at H
             by_cases c142 : x87_97 = true
             ·
              subst c142
              have H1 : (some false) = some true := by first | (rw [if_pos rfl] at H; exact H) | rfl
              clear H
              have H := H1
              clear H1
              exact absurd H (by decide)
             ·
              replace c142 := Bool.eq_false_iff.mpr c142
              subst c142
              have H1 : ((laws_heldStream.f kj97 t405 t406 1).bind fun t420 => (if t420 < 0 then (some false) else (if t420 = t404 then (some true) else (some false)))) = some true := by first | (rw [if_neg (show ¬ (false = true) by decide)] at H; exact H) | rfl
              clear H
              have H := H1
              clear H1
              replace H := Option.bind_eq_some_iff.mp H
              obtain ⟨t420, A1430, H⟩ := H
              replace H : (if t420 < 0 then (some false) else (if t420 = t404 then (some true) else (some false))) = some true := H
              have A143 := Aside0.mk A1430
              clear A1430
              by_cases c144 : t420 < 0
              ·
               rw [if_pos c144] at H
               have c144b0 : decide (t420 < 0) = true := decide_eq_true c144
               clear c144
               exact absurd H (by decide)
              ·
               rw [if_neg c144] at H
               have c144b0 : decide (t420 < 0) = false := decide_eq_false c144
               clear c144
               by_cases c145 : t420 = t404
               ·
                rw [if_pos c145] at H
                have c145b0 : (t420 == t404) = true := beq_iff_eq.mpr c145
                have c145b1 : (t420 != t404) = false := bne_eq_false_iff_eq.mpr c145
                clear c145
                clear H
                have hnb146 := NB395_371.out
                have hnc146 := NB371_395.out
                have hnb147 := NB395_383.out
                have hnc147 := NB383_395.out
                have hnb148 := NB395_387.out
                have hnc148 := NB387_395.out
                have hnb149 := NB395_418.out
                have hnc149 := NB418_395.out
                have hcz150_0 : wc.cell? ⟨gb395, 0, none⟩ = some (.slice Ao33 t405.length co33) := (blk_cell BK395.out 0).trans rfl
                have hcz150_1 : wc.cell? ⟨gb395, 1, none⟩ = some (.slice Ao38 t406.length co38) := (blk_cell BK395.out 1).trans rfl
                have hfz150_0 := blk_frozen BK395.out 0
                have hfz150_1 := blk_frozen BK395.out 1
                go_wp2_with (first | ((with_reducible refine gate_callee (f := 45) rfl ?_); refine goesL_ (some 90) rfl rfl Try.func45 (by kernel_rfl) rfl #[.agg #[.slice Ao33 t405.length co33, .slice Ao38 t406.length co38], .int .i64 1] rfl z15_3_ ?_; (with_reducible refine (laws_heldStream.calls kj97 _ _ t405 _ _ t406 1 t420 _ ?side1 ?side2 ?side3 ?side4 A143.out).mono ?_); (case side1 => repeat (first | exact (Kd.R_reads' HO_396000.out).2.2 | (with_reducible refine Kd.C_alloc ?_ _) | (with_reducible refine Kd.C_drewN ?_ _) | (with_reducible refine Kd.C_drew ?_))); (case side2 => exact (Kd.R_reads' HO_396000.out).2.1); (case side3 => repeat (first | exact (Kd.R_reads' HO_396001.out).2.2 | (with_reducible refine Kd.C_alloc ?_ _) | (with_reducible refine Kd.C_drewN ?_ _) | (with_reducible refine Kd.C_drew ?_))); (case side4 => exact (Kd.R_reads' HO_396001.out).2.1); rintro e w151 ⟨rfl, hb⟩; refine ⟨_, rfl, ?_⟩; have n0_ := Aside0.mk (Kd.R_below z15_13_ hb); have n1_ := Aside0.mk (Kd.R_below z15_12_ hb); have n2_ := Aside0.mk (Kd.R_below z15_11_ hb); have n3_ := Aside0.mk (Kd.R_below z15_10_ hb); have n4_ := Aside0.mk (Kd.R_below z15_9_ hb); have n5_ := Aside0.mk (Kd.R_below (by (with_reducible repeat (first | apply Kd.R_alloc | apply Kd.R_drewN | apply Kd.R_drew)); exact HO_419000.out) hb); have n6_ := Aside0.mk (Kd.R_below (by (with_reducible repeat (first | apply Kd.R_alloc | apply Kd.R_drewN | apply Kd.R_drew)); exact HO_419001.out) hb); have n7_ := Aside0.mk (blk_below (g := gb371) (o := .cells #[.slice A0_0 l0_0.length c0_0] 24 (0, 0)) z15_2_ hb); have n8_ := Aside0.mk (blk_below (g := gb383) (o := .cells #[.slice Ao20 t376.length co20, .slice Ao23 t379.length co23] 36 (0, 0)) z15_4_ hb); have n9_ := Aside0.mk (blk_below (g := gb387) (o := .cells #[.slice Ao27 t402.length co27] 34 (0, 0)) z15_5_ hb); have n10_ := Aside0.mk (blk_below (g := gb395) (o := .cells #[.slice Ao33 t405.length co33, .slice Ao38 t406.length co38] 36 (0, 0)) z15_7_ hb); have n11_ := Aside0.mk (blk_below (g := gb418) (o := .cells #[.slice Ao113 t411.length co113, .slice Ao119 t414.length co119] 36 (0, 0)) (by (with_reducible repeat (first | refine blk_drewN ?_ _ | refine blk_drew ?_ | refine blk_alloc ?_ _)); exact BK418.out) hb); have n12_ := Aside0.mk (below_step z15_24_ hb); clear HO_384000; clear HO_384001; clear HO_388000; clear HO_396000; clear HO_396001; clear HO_419000; clear HO_419001; clear BK371; clear BK383; clear BK387; clear BK395; clear BK418; clear HB; have HO_384000 := n0_; have HO_384001 := n1_; have HO_388000 := n2_; have HO_396000 := n3_; have HO_396001 := n4_; have HO_419000 := n5_; have HO_419001 := n6_; have BK371 := n7_; have BK383 := n8_; have BK387 := n9_; have BK395 := n10_; have BK418 := n11_; have HB := n12_; clear n0_ n1_ n2_ n3_ n4_ n5_ n6_ n7_ n8_ n9_ n10_ n11_ n12_; (try clear hb); (try clear hb2); (try clear hk); (try clear hi)))
                go_ret
                exact ⟨by first | rfl | (simp [errW_none, errW_some] <;> rfl) | (simp [*, errW_none, errW_some] <;> rfl), by repeat (first | (with_reducible first | exact HB.out | apply below_alloc | apply pw_below_drewN | apply below_drew1 | refine below_set ?_ GE371.out | refine below_set ?_ GE383.out | refine below_set ?_ GE387.out | refine below_set ?_ GE395.out | refine below_set ?_ GE418.out) | exact HB.out)⟩
               ·
                rw [if_neg c145] at H
                have c145b0 : (t420 == t404) = false := beq_eq_false_iff_ne.mpr c145
                have c145b1 : (t420 != t404) = true := bne_iff_ne.mpr c145
                exact absurd H (by decide)
          ·
           rw [if_neg c95] at H
           have c95b0 : (t407 == t404) = false := beq_eq_false_iff_ne.mpr c95
           have c95b1 : (t407 != t404) = true := bne_iff_ne.mpr c95
           exact absurd H (by decide)
     ·
      replace c60 := Bool.eq_false_iff.mpr c60
      subst c60
      have H1 : (some false) = some true := by first | (rw [if_neg (show ¬ (false = true) by decide)] at H; exact H) | rfl
      clear H
      have H := H1
      clear H1
      exact absurd H (by decide)
end Go.Proofs.Ytpfnohdnaocpdaa.PT

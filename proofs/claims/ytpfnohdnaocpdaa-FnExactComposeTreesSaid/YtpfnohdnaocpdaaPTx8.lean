import Derived.Test.YtpfnohdnaocpdaaPTx0
import Derived.Test.YtpfnohdnaocpdaaPTcompose
import Derived.Test.YtpfnohdnaocpdaaPTx1
import Derived.Test.YtpfnohdnaocpdaaPTx2
import Derived.Test.YtpfnohdnaocpdaaPTx6
import Derived.Test.YtpfnohdnaocpdaaPTx7
namespace Go.Proofs.Ytpfnohdnaocpdaa.PT
open Go.RowKit Go.Proofs.YtpfnohdnaocpdaaW.PrintWords Go.Proofs.YtpfnohdnaocpdaaW.PrintLast Go.Proofs.YtpfnohdnaocpdaaW.PrintMore Go.Proofs.YtpfnohdnaocpdaaRP
attribute [local go_sem] max2_int min2_int max_two min_two max_three min_three max_four min_four Go.Proofs.YtpfnohdnaocpdaaRP.max_eight Go.Proofs.YtpfnohdnaocpdaaRP.tmod_len   -- for this text's walks alone
set_option linter.unusedVariables false
set_option linter.unusedSimpArgs false
theorem z8_1_ {P : Prop} (h : P := by repeat (first | (with_reducible first | exact HB.out | apply below_alloc | apply pw_below_drewN | apply below_drew1 | refine below_set ?_ GE248.out | refine below_set ?_ GE249.out | refine below_set ?_ GE262.out | refine below_set ?_ GE266.out | refine below_set ?_ GE270.out | refine below_set ?_ GE275.out) | exact HB.out)) : P := h
theorem z8_2_ {P : Prop} (h : P := by (with_reducible repeat (first | refine blk_drewN ?_ _ | refine blk_drew ?_ | refine blk_alloc ?_ _)); exact BK248.out) : P := h
theorem z8_3_ {P : Prop} (h : P := by (with_reducible repeat (first | refine blk_drewN ?_ _ | refine blk_drew ?_ | refine blk_alloc ?_ _)); exact BK249.out) : P := h
theorem z8_4_ {P : Prop} (h : P := by repeat (first | (with_reducible first | exact HB.out | apply below_alloc | apply pw_below_drewN | apply below_drew1 | refine below_set ?_ GE248.out | refine below_set ?_ GE249.out | refine below_set ?_ GE262.out | refine below_set ?_ GE266.out | refine below_set ?_ GE270.out | refine below_set ?_ GE275.out | refine below_set ?_ GE303.out) | exact HB.out)) : P := h
theorem z8_5_ {P : Prop} (h : P := by (with_reducible repeat (first | refine blk_drewN ?_ _ | refine blk_drew ?_ | refine blk_alloc ?_ _)); exact BK262.out) : P := h
theorem z8_6_ {P : Prop} (h : P := by (with_reducible repeat (first | refine blk_drewN ?_ _ | refine blk_drew ?_ | refine blk_alloc ?_ _)); exact BK266.out) : P := h
theorem z8_7_ {P : Prop} (h : P := by (try simp only [List.map_toArray, List.map_cons, List.map_nil]); first | done | rfl | (simp only [List.length_drop, List.length_take]; rfl)) : P := h
theorem z8_8_ {P : Prop} (h : P := by (with_reducible repeat (first | refine blk_drewN ?_ _ | refine blk_drew ?_ | refine blk_alloc ?_ _)); exact BK270.out) : P := h
theorem z8_9_ {P : Prop} (h : P := by repeat (first | (with_reducible first | exact HB.out | apply below_alloc | apply pw_below_drewN | apply below_drew1 | refine below_set ?_ GE248.out | refine below_set ?_ GE249.out | refine below_set ?_ GE262.out) | exact HB.out)) : P := h
theorem z8_10_ {P : Prop} (h : P := by repeat (first | (with_reducible first | exact HB.out | apply below_alloc | apply pw_below_drewN | apply below_drew1 | refine below_set ?_ GE248.out | refine below_set ?_ GE249.out) | exact HB.out)) : P := h
theorem z8_11_ {P : Prop} (h : P := by (with_reducible repeat (first | refine blk_drewN ?_ _ | refine blk_drew ?_ | refine blk_alloc ?_ _)); exact BK275.out) : P := h
theorem z8_12_ {P : Prop} (h : P := by (with_reducible repeat (first | apply Kd.R_alloc | apply Kd.R_drewN | apply Kd.R_drew)); exact HO_276000.out) : P := h
theorem z8_13_ {P : Prop} (h : P := by (with_reducible repeat (first | apply Kd.R_alloc | apply Kd.R_drewN | apply Kd.R_drew)); exact HO_271000.out) : P := h
theorem z8_14_ {P : Prop} (h : P := by (with_reducible repeat (first | apply Kd.R_alloc | apply Kd.R_drewN | apply Kd.R_drew)); exact HO_267000.out) : P := h
theorem z8_15_ {P : Prop} (h : P := by (with_reducible repeat (first | apply Kd.R_alloc | apply Kd.R_drewN | apply Kd.R_drew)); exact HO_263000.out) : P := h
theorem z8_16_ {P : Prop} (h : P := by (with_reducible repeat (first | apply Kd.R_alloc | apply Kd.R_drewN | apply Kd.R_drew)); exact HO254.out) : P := h
theorem z8_17_ {P : Prop} (h : P := by (with_reducible repeat (first | apply Kd.R_alloc | apply Kd.R_drewN | apply Kd.R_drew)); exact HO295.out) : P := h
theorem z8_18_ {P : Prop} (h : P := by repeat (first | (with_reducible first | exact HB.out | apply below_alloc | apply pw_below_drewN | apply below_drew1 | refine below_set ?_ GE248.out) | exact HB.out)) : P := h
theorem z8_19_ {P : Prop} (h : P := by repeat (first | (with_reducible first | exact HB.out | apply below_alloc | apply pw_below_drewN | apply below_drew1 | refine below_set ?_ GE248.out | refine below_set ?_ GE249.out | refine below_set ?_ GE262.out | refine below_set ?_ GE266.out) | exact HB.out)) : P := h
theorem z8_20_ {P : Prop} (h : P := by (with_reducible repeat (first | apply Kd.R_alloc | apply Kd.R_drewN | apply Kd.R_drew)); exact HO257.out) : P := h
theorem z8_21_ {P : Prop} (h : P := by repeat (first | (with_reducible first | exact HB.out | apply below_alloc | apply pw_below_drewN | apply below_drew1 | refine below_set ?_ GE248.out | refine below_set ?_ GE249.out | refine below_set ?_ GE262.out | refine below_set ?_ GE266.out | refine below_set ?_ GE270.out) | exact HB.out)) : P := h
theorem z8_22_ {P : Prop} (h : P := by (with_reducible repeat (first | refine blk_drewN ?_ _ | refine blk_drew ?_ | refine blk_alloc ?_ _)); exact BK303.out) : P := h
theorem z8_23_ {P : Prop} (h : P := by repeat (first | (with_reducible first | exact HB.out | apply below_alloc | apply pw_below_drewN | apply below_drew1) | exact HB.out)) : P := h
theorem z8_24_ {P : Prop} (h : P := by (with_reducible repeat (first | apply Kd.R_alloc | apply Kd.R_drewN | apply Kd.R_drew)); exact HO298.out) : P := h
theorem z8_25_ {P : Prop} (h : P := by (with_reducible repeat (first | apply Kd.R_alloc | apply Kd.R_drewN | apply Kd.R_drew)); exact (Kd.R_mono (Kd.R_far (p := ⟨gb303, 0, none⟩) (Kd.R_types HO_263000.out BK303.out (by decide)) (fun _ hk => hk.2) (.slice Ao182 t299.length co182)) (fun _ h_ => h_.1))) : P := h
theorem z8_26_ {P : Prop} (h : P := by (with_reducible repeat (first | apply Kd.R_alloc | apply Kd.R_drewN | apply Kd.R_drew)); exact (Kd.R_mono (Kd.R_far (p := ⟨gb303, 0, none⟩) (Kd.R_types HO301.out BK303.out (by decide)) (fun _ hk => hk.2) (.slice Ao182 t299.length co182)) (fun _ h_ => h_.1))) : P := h
theorem z8_27_ {P : Prop} (h : P := by (with_reducible repeat (first | apply Kd.R_alloc | apply Kd.R_drewN | apply Kd.R_drew)); exact (Kd.R_mono (Kd.R_far (p := ⟨gb275, 0, none⟩) (Kd.R_types HO273.out BK275.out (by decide)) (fun _ hk => hk.2) (.slice Ao65 t271.length co65)) (fun _ h_ => h_.1))) : P := h
theorem z8_28_ {P : Prop} (h : P := by (with_reducible repeat (first | apply Kd.R_alloc | apply Kd.R_drewN | apply Kd.R_drew)); exact (Kd.R_mono (Kd.R_far (p := ⟨gb275, 0, none⟩) (Kd.R_types HO260.out BK275.out (by decide)) (fun _ hk => hk.2) (.slice Ao65 t271.length co65)) (fun _ h_ => h_.1))) : P := h
theorem z8_29_ {P : Prop} (h : P := by (with_reducible repeat (first | apply Kd.R_alloc | apply Kd.R_drewN | apply Kd.R_drew)); exact Kd.R_mono HO_276000.out (fun _ hk => ⟨hk.1.1.2, ⟨hk.1.2, ⟨hk.2, ⟨hk.1.1.1.1, ⟨hk.1.1.1.2.1, hk.1.1.1.2.2⟩⟩⟩⟩⟩)) : P := h
theorem z8_30_ {P : Prop} (h : P := by (with_reducible repeat (first | apply Kd.R_alloc | apply Kd.R_drewN | apply Kd.R_drew)); exact Kd.R_mono HO_271000.out (fun _ hk => ⟨hk.1.1.2, ⟨hk.1.2, ⟨hk.2, ⟨hk.1.1.1.1, ⟨hk.1.1.1.2.1, hk.1.1.1.2.2⟩⟩⟩⟩⟩)) : P := h
theorem z8_31_ {P : Prop} (h : P := by (with_reducible repeat (first | apply Kd.R_alloc | apply Kd.R_drewN | apply Kd.R_drew)); exact Kd.R_mono HO_267000.out (fun _ hk => ⟨hk.1.1.2, ⟨hk.1.2, ⟨hk.2, ⟨hk.1.1.1.1, ⟨hk.1.1.1.2.1, hk.1.1.1.2.2⟩⟩⟩⟩⟩)) : P := h
theorem z8_32_ {P : Prop} (h : P := by (with_reducible repeat (first | apply Kd.R_alloc | apply Kd.R_drewN | apply Kd.R_drew)); exact Kd.R_mono HO_263000.out (fun _ hk => ⟨hk.1.1.2, ⟨hk.1.2, ⟨hk.2, ⟨hk.1.1.1.1, ⟨hk.1.1.1.2.1, hk.1.1.1.2.2⟩⟩⟩⟩⟩)) : P := h
theorem z8_33_ {P : Prop} (h : P := by (with_reducible repeat (first | apply Kd.R_alloc | apply Kd.R_drewN | apply Kd.R_drew)); exact Kd.R_mono HO301.out (fun _ hk => ⟨hk.1.2, ⟨hk.2, ⟨hk.1.1.1.1.1.2, ⟨hk.1.1.1.1.2, ⟨hk.1.1.1.2, hk.1.1.2⟩⟩⟩⟩⟩)) : P := h
theorem z8_34_ {P : Prop} (h : P := by (with_reducible repeat (first | apply Kd.R_alloc | apply Kd.R_drewN | apply Kd.R_drew)); exact Kd.R_mono HO298.out (fun _ hk => ⟨hk.1.2, ⟨hk.2, ⟨hk.1.1.1.1.1.2, ⟨hk.1.1.1.1.2, ⟨hk.1.1.1.2, hk.1.1.2⟩⟩⟩⟩⟩)) : P := h
theorem z8_35_ {P : Prop} (h : P := by (with_reducible repeat (first | apply Kd.R_alloc | apply Kd.R_drewN | apply Kd.R_drew)); exact Kd.R_mono HO295.out (fun _ hk => ⟨hk.1.2, ⟨hk.2, ⟨hk.1.1.1.1.1.2, ⟨hk.1.1.1.1.2, ⟨hk.1.1.1.2, hk.1.1.2⟩⟩⟩⟩⟩)) : P := h
theorem z8_36_ {P : Prop} (h : P := by (with_reducible repeat (first | apply Kd.R_alloc | apply Kd.R_drewN | apply Kd.R_drew)); exact HO279.out) : P := h
theorem z8_37_ {P : Prop} (h : P := by (with_reducible repeat (first | apply Kd.R_alloc | apply Kd.R_drewN | apply Kd.R_drew)); exact (Kd.R_mono (Kd.R_far (p := ⟨gb270, 0, none⟩) (Kd.R_types HO269.out BK270.out (by decide)) (fun _ hk => hk.2) (.slice Ao56 t267.length co56)) (fun _ h_ => h_.1))) : P := h
theorem z8_38_ {P : Prop} (h : P := by (with_reducible repeat (first | apply Kd.R_alloc | apply Kd.R_drewN | apply Kd.R_drew)); exact (Kd.R_mono (Kd.R_far (p := ⟨gb270, 0, none⟩) (Kd.R_types HO265.out BK270.out (by decide)) (fun _ hk => hk.2) (.slice Ao56 t267.length co56)) (fun _ h_ => h_.1))) : P := h
theorem z8_39_ {P : Prop} (h : P := by (with_reducible repeat (first | apply Kd.R_alloc | apply Kd.R_drewN | apply Kd.R_drew)); exact Kd.R_mono HO260.out (fun _ hk => ⟨hk.1.2, hk.2⟩)) : P := h
theorem z8_40_ {P : Prop} (h : P := by (with_reducible repeat (first | apply Kd.R_alloc | apply Kd.R_drewN | apply Kd.R_drew)); exact Kd.R_mono HO257.out (fun _ hk => ⟨hk.1.2, hk.2⟩)) : P := h
theorem z8_41_ {P : Prop} (h : P := by (with_reducible repeat (first | apply Kd.R_alloc | apply Kd.R_drewN | apply Kd.R_drew)); exact Kd.R_mono HO254.out (fun _ hk => ⟨hk.1.2, hk.2⟩)) : P := h
theorem z8_42_ {P : Prop} (h : P := by first | rfl | (simp; done) | (simp [*]; done) | (simp [isE_]; done)) : P := h
theorem z8_43_ {P : Prop} (h : P := by (with_reducible repeat (first | apply Kd.R_alloc | apply Kd.R_drewN | apply Kd.R_drew)); exact Kd.R_mono HO_276000.out (fun _ hk => ⟨hk.1, ⟨hk.2.1, hk.2.2.1⟩⟩)) : P := h
theorem z8_44_ {P : Prop} (h : P := by (with_reducible repeat (first | apply Kd.R_alloc | apply Kd.R_drewN | apply Kd.R_drew)); exact Kd.R_mono HO_271000.out (fun _ hk => ⟨hk.1, ⟨hk.2.1, hk.2.2.1⟩⟩)) : P := h
theorem z8_45_ {P : Prop} (h : P := by (with_reducible repeat (first | apply Kd.R_alloc | apply Kd.R_drewN | apply Kd.R_drew)); exact Kd.R_mono HO_267000.out (fun _ hk => ⟨hk.1, ⟨hk.2.1, hk.2.2.1⟩⟩)) : P := h
theorem z8_46_ {P : Prop} (h : P := by (with_reducible repeat (first | apply Kd.R_alloc | apply Kd.R_drewN | apply Kd.R_drew)); exact Kd.R_mono HO_263000.out (fun _ hk => ⟨hk.1, ⟨hk.2.1, hk.2.2.1⟩⟩)) : P := h
theorem z8_47_ {P : Prop} (h : P := by (with_reducible repeat (first | apply Kd.R_alloc | apply Kd.R_drewN | apply Kd.R_drew)); exact HO260.out) : P := h
theorem z8_48_ {P : Prop} (h : P := by simp only [putAll, Act.put, sA_, sB_, sC_]) : P := h
theorem z8_49_ {P : Prop} (h : P := by (with_reducible repeat (first | refine blk_drewN ?_ _ | refine blk_drew ?_ | refine blk_alloc ?_ _)); refine blk_put (cs := #[.slice none 0 0]) ?_ 0 _ rfl; (with_reducible repeat (first | refine blk_drewN ?_ _ | refine blk_drew ?_ | refine blk_alloc ?_ _)); exact BK303.out) : P := h
theorem z8_50_ {P : Prop} (h : P := by (with_reducible repeat (first | refine blk_drewN ?_ _ | refine blk_drew ?_ | refine blk_alloc ?_ _)); refine blk_put (cs := #[.slice none 0 0]) ?_ 0 _ rfl; (with_reducible repeat (first | refine blk_drewN ?_ _ | refine blk_drew ?_ | refine blk_alloc ?_ _)); exact BK275.out) : P := h
theorem z8_51_ {P : Prop} (h : P := by (with_reducible repeat (first | apply Kd.R_alloc | apply Kd.R_drewN | apply Kd.R_drew)); exact (Kd.R_mono (Kd.R_far (p := ⟨gb303, 0, none⟩) (Kd.R_types HO_276000.out BK303.out (by decide)) (fun _ hk => hk.2) (.slice Ao182 t299.length co182)) (fun _ h_ => h_.1))) : P := h
theorem z8_52_ {P : Prop} (h : P := by (with_reducible repeat (first | apply Kd.R_alloc | apply Kd.R_drewN | apply Kd.R_drew)); exact (Kd.R_mono (Kd.R_far (p := ⟨gb303, 0, none⟩) (Kd.R_types HO_271000.out BK303.out (by decide)) (fun _ hk => hk.2) (.slice Ao182 t299.length co182)) (fun _ h_ => h_.1))) : P := h
theorem z8_53_ {P : Prop} (h : P := by (with_reducible repeat (first | apply Kd.R_alloc | apply Kd.R_drewN | apply Kd.R_drew)); exact (Kd.R_mono (Kd.R_far (p := ⟨gb303, 0, none⟩) (Kd.R_types HO_267000.out BK303.out (by decide)) (fun _ hk => hk.2) (.slice Ao182 t299.length co182)) (fun _ h_ => h_.1))) : P := h
theorem z8_54_ {P : Prop} (h : P := by (with_reducible repeat (first | apply Kd.R_alloc | apply Kd.R_drewN | apply Kd.R_drew)); exact (Kd.R_mono (Kd.R_far (p := ⟨gb303, 0, none⟩) (Kd.R_types HO298.out BK303.out (by decide)) (fun _ hk => hk.2) (.slice Ao182 t299.length co182)) (fun _ h_ => h_.1))) : P := h
theorem z8_55_ {P : Prop} (h : P := by (with_reducible repeat (first | apply Kd.R_alloc | apply Kd.R_drewN | apply Kd.R_drew)); exact (Kd.R_mono (Kd.R_far (p := ⟨gb303, 0, none⟩) (Kd.R_types HO295.out BK303.out (by decide)) (fun _ hk => hk.2) (.slice Ao182 t299.length co182)) (fun _ h_ => h_.1))) : P := h
theorem z8_56_ {P : Prop} (h : P := by (with_reducible repeat (first | apply Kd.R_alloc | apply Kd.R_drewN | apply Kd.R_drew)); exact (Kd.R_mono (Kd.R_far (p := ⟨gb275, 0, none⟩) (Kd.R_types HO269.out BK275.out (by decide)) (fun _ hk => hk.2) (.slice Ao65 t271.length co65)) (fun _ h_ => h_.1))) : P := h
theorem z8_57_ {P : Prop} (h : P := by (with_reducible repeat (first | apply Kd.R_alloc | apply Kd.R_drewN | apply Kd.R_drew)); exact (Kd.R_mono (Kd.R_far (p := ⟨gb275, 0, none⟩) (Kd.R_types HO265.out BK275.out (by decide)) (fun _ hk => hk.2) (.slice Ao65 t271.length co65)) (fun _ h_ => h_.1))) : P := h
theorem z8_58_ {P : Prop} (h : P := by (with_reducible repeat (first | apply Kd.R_alloc | apply Kd.R_drewN | apply Kd.R_drew)); exact (Kd.R_mono (Kd.R_far (p := ⟨gb275, 0, none⟩) (Kd.R_types HO257.out BK275.out (by decide)) (fun _ hk => hk.2) (.slice Ao65 t271.length co65)) (fun _ h_ => h_.1))) : P := h
theorem z8_59_ {P : Prop} (h : P := by (with_reducible repeat (first | apply Kd.R_alloc | apply Kd.R_drewN | apply Kd.R_drew)); exact (Kd.R_mono (Kd.R_far (p := ⟨gb275, 0, none⟩) (Kd.R_types HO254.out BK275.out (by decide)) (fun _ hk => hk.2) (.slice Ao65 t271.length co65)) (fun _ h_ => h_.1))) : P := h
theorem z8_60_ {P : Prop} (h : P := by (with_reducible repeat (first | apply Kd.R_alloc | apply Kd.R_drewN | apply Kd.R_drew)); exact (Kd.R_mono (Kd.R_far (p := ⟨gb270, 0, none⟩) (Kd.R_types HO260.out BK270.out (by decide)) (fun _ hk => hk.2) (.slice Ao56 t267.length co56)) (fun _ h_ => h_.1))) : P := h
theorem z8_61_ {P : Prop} (h : P := by (with_reducible repeat (first | apply Kd.R_alloc | apply Kd.R_drewN | apply Kd.R_drew)); exact (Kd.R_mono (Kd.R_far (p := ⟨gb270, 0, none⟩) (Kd.R_types HO257.out BK270.out (by decide)) (fun _ hk => hk.2) (.slice Ao56 t267.length co56)) (fun _ h_ => h_.1))) : P := h
theorem z8_62_ {P : Prop} (h : P := by (with_reducible repeat (first | apply Kd.R_alloc | apply Kd.R_drewN | apply Kd.R_drew)); exact (Kd.R_mono (Kd.R_far (p := ⟨gb270, 0, none⟩) (Kd.R_types HO254.out BK270.out (by decide)) (fun _ hk => hk.2) (.slice Ao56 t267.length co56)) (fun _ h_ => h_.1))) : P := h
theorem z8_63_ {P : Prop} (h : P := by (with_reducible repeat (first | apply Kd.R_alloc | apply Kd.R_drewN | apply Kd.R_drew)); exact (Kd.R_mono (Kd.R_far (p := ⟨gb266, 0, none⟩) (Kd.R_types HO265.out BK266.out (by decide)) (fun _ hk => hk.2) (.slice Ao47 t263.length co47)) (fun _ h_ => h_.1))) : P := h
theorem z8_64_ {P : Prop} (h : P := by (with_reducible repeat (first | apply Kd.R_alloc | apply Kd.R_drewN | apply Kd.R_drew)); exact (Kd.R_mono (Kd.R_far (p := ⟨gb266, 0, none⟩) (Kd.R_types HO260.out BK266.out (by decide)) (fun _ hk => hk.2) (.slice Ao47 t263.length co47)) (fun _ h_ => h_.1))) : P := h
theorem z8_65_ {P : Prop} (h : P := by (with_reducible repeat (first | apply Kd.R_alloc | apply Kd.R_drewN | apply Kd.R_drew)); exact (Kd.R_mono (Kd.R_far (p := ⟨gb266, 0, none⟩) (Kd.R_types HO257.out BK266.out (by decide)) (fun _ hk => hk.2) (.slice Ao47 t263.length co47)) (fun _ h_ => h_.1))) : P := h
theorem z8_66_ {P : Prop} (h : P := by (with_reducible repeat (first | apply Kd.R_alloc | apply Kd.R_drewN | apply Kd.R_drew)); exact (Kd.R_mono (Kd.R_far (p := ⟨gb266, 0, none⟩) (Kd.R_types HO254.out BK266.out (by decide)) (fun _ hk => hk.2) (.slice Ao47 t263.length co47)) (fun _ h_ => h_.1))) : P := h
theorem z8_67_ {P : Prop} (h : P := by (with_reducible repeat (first | apply Kd.R_alloc | apply Kd.R_drewN | apply Kd.R_drew)); exact (Kd.R_mono (Kd.R_far (p := ⟨gb262, 0, none⟩) (Kd.R_types HO260.out BK262.out (by decide)) (fun _ hk => hk.2) (.slice Ao41 t258.length co41)) (fun _ h_ => h_.1))) : P := h
theorem z8_68_ {P : Prop} (h : P := by (with_reducible repeat (first | apply Kd.R_alloc | apply Kd.R_drewN | apply Kd.R_drew)); exact (Kd.R_mono (Kd.R_far (p := ⟨gb262, 0, none⟩) (Kd.R_types HO257.out BK262.out (by decide)) (fun _ hk => hk.2) (.slice Ao41 t258.length co41)) (fun _ h_ => h_.1))) : P := h
theorem z8_69_ {P : Prop} (h : P := by (with_reducible repeat (first | apply Kd.R_alloc | apply Kd.R_drewN | apply Kd.R_drew)); exact (Kd.R_mono (Kd.R_far (p := ⟨gb262, 0, none⟩) (Kd.R_types HO254.out BK262.out (by decide)) (fun _ hk => hk.2) (.slice Ao41 t258.length co41)) (fun _ h_ => h_.1))) : P := h
theorem z8_70_ {P : Prop} (h : P := by (with_reducible repeat (first | refine blk_drewN ?_ _ | refine blk_drew ?_ | refine blk_alloc ?_ _)); refine blk_far ?_ NB275_303.out _; (with_reducible repeat (first | refine blk_drewN ?_ _ | refine blk_drew ?_ | refine blk_alloc ?_ _)); exact BK275.out) : P := h
theorem z8_71_ {P : Prop} (h : P := by (with_reducible repeat (first | refine blk_drewN ?_ _ | refine blk_drew ?_ | refine blk_alloc ?_ _)); refine blk_far ?_ NB270_303.out _; (with_reducible repeat (first | refine blk_drewN ?_ _ | refine blk_drew ?_ | refine blk_alloc ?_ _)); exact BK270.out) : P := h
theorem z8_72_ {P : Prop} (h : P := by (with_reducible repeat (first | refine blk_drewN ?_ _ | refine blk_drew ?_ | refine blk_alloc ?_ _)); refine blk_far ?_ NB270_275.out _; (with_reducible repeat (first | refine blk_drewN ?_ _ | refine blk_drew ?_ | refine blk_alloc ?_ _)); exact BK270.out) : P := h
theorem z8_73_ {P : Prop} (h : P := by (with_reducible repeat (first | refine blk_drewN ?_ _ | refine blk_drew ?_ | refine blk_alloc ?_ _)); refine blk_far ?_ NB266_303.out _; (with_reducible repeat (first | refine blk_drewN ?_ _ | refine blk_drew ?_ | refine blk_alloc ?_ _)); exact BK266.out) : P := h
theorem z8_74_ {P : Prop} (h : P := by (with_reducible repeat (first | refine blk_drewN ?_ _ | refine blk_drew ?_ | refine blk_alloc ?_ _)); refine blk_far ?_ NB266_275.out _; (with_reducible repeat (first | refine blk_drewN ?_ _ | refine blk_drew ?_ | refine blk_alloc ?_ _)); exact BK266.out) : P := h
theorem z8_75_ {P : Prop} (h : P := by (with_reducible repeat (first | refine blk_drewN ?_ _ | refine blk_drew ?_ | refine blk_alloc ?_ _)); refine blk_far ?_ NB262_303.out _; (with_reducible repeat (first | refine blk_drewN ?_ _ | refine blk_drew ?_ | refine blk_alloc ?_ _)); exact BK262.out) : P := h
theorem z8_76_ {P : Prop} (h : P := by (with_reducible repeat (first | refine blk_drewN ?_ _ | refine blk_drew ?_ | refine blk_alloc ?_ _)); refine blk_far ?_ NB262_275.out _; (with_reducible repeat (first | refine blk_drewN ?_ _ | refine blk_drew ?_ | refine blk_alloc ?_ _)); exact BK262.out) : P := h
theorem z8_77_ {P : Prop} (h : P := by (with_reducible repeat (first | refine blk_drewN ?_ _ | refine blk_drew ?_ | refine blk_alloc ?_ _)); refine blk_far ?_ NB249_303.out _; (with_reducible repeat (first | refine blk_drewN ?_ _ | refine blk_drew ?_ | refine blk_alloc ?_ _)); exact BK249.out) : P := h
theorem z8_78_ {P : Prop} (h : P := by (with_reducible repeat (first | refine blk_drewN ?_ _ | refine blk_drew ?_ | refine blk_alloc ?_ _)); refine blk_far ?_ NB249_275.out _; (with_reducible repeat (first | refine blk_drewN ?_ _ | refine blk_drew ?_ | refine blk_alloc ?_ _)); exact BK249.out) : P := h
theorem z8_79_ {P : Prop} (h : P := by (with_reducible repeat (first | refine blk_drewN ?_ _ | refine blk_drew ?_ | refine blk_alloc ?_ _)); refine blk_far ?_ NB248_303.out _; (with_reducible repeat (first | refine blk_drewN ?_ _ | refine blk_drew ?_ | refine blk_alloc ?_ _)); exact BK248.out) : P := h
theorem z8_80_ {P : Prop} (h : P := by (with_reducible repeat (first | refine blk_drewN ?_ _ | refine blk_drew ?_ | refine blk_alloc ?_ _)); refine blk_far ?_ NB248_275.out _; (with_reducible repeat (first | refine blk_drewN ?_ _ | refine blk_drew ?_ | refine blk_alloc ?_ _)); exact BK248.out) : P := h
theorem z8_81_ {P : Prop} (h : P := by (try simp only [hl267000_106]); (try simp only [hl271000_106]); (with_reducible repeat (first | apply Kd.R_alloc | apply Kd.R_drewN | apply Kd.R_drew)); exact Kd.R_mono HO_276000.out (fun _ hk => ⟨hk.2.2.2.1, ⟨hk.2.2.2.2.1, ⟨hk.2.2.2.2.2, hk.2.2.1⟩⟩⟩)) : P := h
theorem z8_82_ {P : Prop} (h : P := by (try simp only [hl267000_106]); (try simp only [hl271000_106]); (with_reducible repeat (first | apply Kd.R_alloc | apply Kd.R_drewN | apply Kd.R_drew)); exact Kd.R_mono HO_271000.out (fun _ hk => ⟨hk.2.2.2.1, ⟨hk.2.2.2.2.1, ⟨hk.2.2.2.2.2, hk.2.2.1⟩⟩⟩)) : P := h
theorem z8_83_ {P : Prop} (h : P := by (try simp only [hl267000_106]); (try simp only [hl271000_106]); (with_reducible repeat (first | apply Kd.R_alloc | apply Kd.R_drewN | apply Kd.R_drew)); exact Kd.R_mono HO_267000.out (fun _ hk => ⟨hk.2.2.2.1, ⟨hk.2.2.2.2.1, ⟨hk.2.2.2.2.2, hk.2.2.1⟩⟩⟩)) : P := h
theorem z8_84_ {P : Prop} (h : P := by (try simp only [hl267000_106]); (try simp only [hl271000_106]); (with_reducible repeat (first | apply Kd.R_alloc | apply Kd.R_drewN | apply Kd.R_drew)); exact Kd.R_mono HO_263000.out (fun _ hk => ⟨hk.2.2.2.1, ⟨hk.2.2.2.2.1, ⟨hk.2.2.2.2.2, hk.2.2.1⟩⟩⟩)) : P := h
theorem z8_85_ {P : Prop} (h : P := by (try simp only [hl267000_106]); (try simp only [hl271000_106]); (with_reducible repeat (first | apply Kd.R_alloc | apply Kd.R_drewN | apply Kd.R_drew)); exact Kd.R_mono HO301.out (fun _ hk => ⟨hk.2.2.1, ⟨hk.2.2.2.1, ⟨hk.2.2.2.2.1, hk.2.2.2.2.2⟩⟩⟩)) : P := h
theorem z8_86_ {P : Prop} (h : P := by (with_reducible repeat (first | apply Kd.R_alloc | apply Kd.R_drewN | apply Kd.R_drew)); exact HO283.out) : P := h
theorem z8_87_ {P : Prop} (h : P := by (with_reducible repeat (first | apply Kd.R_alloc | apply Kd.R_drewN | apply Kd.R_drew)); exact HO265.out) : P := h
theorem z8_88_ {P : Prop} (h : P := by first | rfl | (simp [errW_none, errW_some] <;> rfl) | (simp [*, errW_none, errW_some] <;> rfl)) : P := h
theorem z8_89_ {P : Prop} (h : P := by (try simp only [hl267000_106]); (try simp only [hl271000_106]); (with_reducible repeat (first | refine blk_drewN ?_ _ | refine blk_drew ?_ | refine blk_alloc ?_ _)); exact BK303.out) : P := h
theorem z8_90_ {P : Prop} (h : P := by (try simp only [hl267000_106]); (try simp only [hl271000_106]); (with_reducible repeat (first | refine blk_drewN ?_ _ | refine blk_drew ?_ | refine blk_alloc ?_ _)); exact BK275.out) : P := h
theorem z8_91_ {P : Prop} (h : P := by (try simp only [hl267000_106]); (try simp only [hl271000_106]); (with_reducible repeat (first | refine blk_drewN ?_ _ | refine blk_drew ?_ | refine blk_alloc ?_ _)); exact BK270.out) : P := h
theorem z8_92_ {P : Prop} (h : P := by (try simp only [hl267000_106]); (try simp only [hl271000_106]); (with_reducible repeat (first | refine blk_drewN ?_ _ | refine blk_drew ?_ | refine blk_alloc ?_ _)); exact BK266.out) : P := h
theorem z8_93_ {P : Prop} (h : P := by (try simp only [hl267000_106]); (try simp only [hl271000_106]); (with_reducible repeat (first | refine blk_drewN ?_ _ | refine blk_drew ?_ | refine blk_alloc ?_ _)); exact BK262.out) : P := h
theorem z8_94_ {P : Prop} (h : P := by (try simp only [hl267000_106]); (try simp only [hl271000_106]); (with_reducible repeat (first | refine blk_drewN ?_ _ | refine blk_drew ?_ | refine blk_alloc ?_ _)); exact BK249.out) : P := h
theorem z8_95_ {P : Prop} (h : P := by (try simp only [hl267000_106]); (try simp only [hl271000_106]); (with_reducible repeat (first | refine blk_drewN ?_ _ | refine blk_drew ?_ | refine blk_alloc ?_ _)); exact BK248.out) : P := h
theorem z8_96_ {P : Prop} (h : P := by (with_reducible repeat (first | apply Kd.R_alloc | apply Kd.R_drewN | apply Kd.R_drew)); exact Kd.R_mono HO273.out (fun _ hk => ⟨hk.1.1.2, ⟨hk.1.2, hk.2⟩⟩)) : P := h
theorem z8_97_ {P : Prop} (h : P := by (with_reducible repeat (first | apply Kd.R_alloc | apply Kd.R_drewN | apply Kd.R_drew)); exact Kd.R_mono HO269.out (fun _ hk => ⟨hk.1.1.2, ⟨hk.1.2, hk.2⟩⟩)) : P := h
theorem z8_98_ {P : Prop} (h : P := by (with_reducible repeat (first | apply Kd.R_alloc | apply Kd.R_drewN | apply Kd.R_drew)); exact Kd.R_mono HO265.out (fun _ hk => ⟨hk.1.1.2, ⟨hk.1.2, hk.2⟩⟩)) : P := h
theorem z8_99_ {P : Prop} (h : P := by (with_reducible repeat (first | apply Kd.R_alloc | apply Kd.R_drewN | apply Kd.R_drew)); exact Kd.R_mono HO260.out (fun _ hk => ⟨hk.1.1.2, ⟨hk.1.2, hk.2⟩⟩)) : P := h
theorem z8_100_ {P : Prop} (h : P := by have := HJ24.out; first | omega | exact Nat.le_refl _) : P := h
theorem z8_101_ {P : Prop} (h : P := by (with_reducible repeat (first | apply Kd.R_alloc | apply Kd.R_drewN | apply Kd.R_drew)); exact HO269.out) : P := h
/-! ### laws_FnExactComposeTrees: function 5 -/
mutual
def laws_FnExactComposeTrees.j0 : Nat → Int → Int → Bool → List (S158) → List (S158) → List (S89) → List (S89) → List (S89) → List (S89) → Option (Bool)
 | 0, _, _, _, _, _, _, _, _, _ => none
 | k + 1, x7, x11, x53, x249000, x250000, x263000, x267000, x271000, x276000 => if x53 = true then (some false) else ((laws_toTree.f k x249000).bind fun t277 => ((laws_eqTree.f k x267000 t277).bind fun t280 => (if t280 = true then ((laws_toTree.f k x250000).bind fun t281 => ((laws_eqTree.f k x271000 t281).bind fun t284 => (if t284 = true then ((laws_markTree.f k x267000 1).bind fun bt285 => ((laws_markTree.f k x271000 bt285.1).bind fun bt287 => (if bt287.1 < 0 then (laws_FnExactComposeTrees.j1 k x7 true x249000 x250000 x263000 x276000) else ((laws_eqTree.f k x276000 x263000).bind fun t289 => (if t289 = true then (laws_FnExactComposeTrees.j1 k x7 (x11 != x7) x249000 x250000 x263000 x276000) else (laws_FnExactComposeTrees.j1 k x7 true x249000 x250000 x263000 x276000)))))) else (some false)))) else (some false))))
def laws_FnExactComposeTrees.j1 : Nat → Int → Bool → List (S158) → List (S158) → List (S89) → List (S89) → Option (Bool)
 | 0, _, _, _, _, _, _ => none
 | k + 1, x7, x82, x249000, x250000, x263000, x276000 => if x82 = true then (some false) else ((laws_markTree.f k x276000 1).bind fun bt290 => ((laws_heldTree.f k bt290.2 1).bind fun t292 => (if t292 < 0 then (some false) else (if t292 = bt290.1 then ((laws_toTree.f k x249000).bind fun t293 => ((laws_toTree.f k x250000).bind fun t296 => ((impl_ComposeTrees.f k t293 t296).bind fun bt299 => ((laws_eqTree.f k bt299.1 x263000).bind fun t304 => (if t304 = true then (laws_FnExactComposeTrees.j2 k bt290.1 (bt299.2 != x7) bt290.2) else (laws_FnExactComposeTrees.j2 k bt290.1 true bt290.2)))))) else (some false)))))
def laws_FnExactComposeTrees.j2 : Nat → Int → Bool → List (S89) → Option (Bool)
 | 0, _, _, _ => none
 | k + 1, x13, x110, x276000 => if x110 = true then (some false) else ((laws_heldTree.f k x276000 1).bind fun t305 => (if t305 < 0 then (some false) else (if t305 = x13 then (some true) else (some false))))
end
def laws_FnExactComposeTrees.f (k : Nat) (l0_0 : List (S158)) (l1_0 : List (S158)) : Option (Bool) := (laws_szTree.f l0_0 1048576).bind fun t250 => (if t250 < 0 then (some true) else ((laws_szTree.f l1_0 t250).bind fun t251 => (if t251 < 0 then (some true) else ((laws_toTree.f k l0_0).bind fun t252 => ((laws_toTree.f k l1_0).bind fun t255 => ((spec_ComposeTrees.f k t252 t255).bind fun bt258 => ((laws_toTree.f k l0_0).bind fun t263 => ((laws_toTree.f k l1_0).bind fun t267 => ((impl_ComposeTrees.f k t263 t267).bind fun bt271 => ((laws_eqTree.f k bt271.1 bt258.1).bind fun t276 => (if t276 = true then (laws_FnExactComposeTrees.j0 k bt258.2 bt271.2 (bt271.2 != bt258.2) l0_0 l1_0 bt258.1 t263 t267 bt271.1) else (laws_FnExactComposeTrees.j0 k bt258.2 bt271.2 true l0_0 l1_0 bt258.1 t263 t267 bt271.1))))))))))))
theorem laws_FnExactComposeTrees.mono_l : ∀ k, (∀ y0 y1 y2 y3 y4 y5 y6 y7 y8, LeO (laws_FnExactComposeTrees.j0 k y0 y1 y2 y3 y4 y5 y6 y7 y8) (laws_FnExactComposeTrees.j0 (k + 1) y0 y1 y2 y3 y4 y5 y6 y7 y8)) ∧ (∀ y0 y1 y2 y3 y4 y5, LeO (laws_FnExactComposeTrees.j1 k y0 y1 y2 y3 y4 y5) (laws_FnExactComposeTrees.j1 (k + 1) y0 y1 y2 y3 y4 y5)) ∧ (∀ y0 y1 y2, LeO (laws_FnExactComposeTrees.j2 k y0 y1 y2) (laws_FnExactComposeTrees.j2 (k + 1) y0 y1 y2))
 | 0 => ⟨fun _ _ _ _ _ _ _ _ _ r h => by simp [laws_FnExactComposeTrees.j0] at h, fun _ _ _ _ _ _ r h => by simp [laws_FnExactComposeTrees.j1] at h, fun _ _ _ r h => by simp [laws_FnExactComposeTrees.j2] at h⟩
 | k + 1 => by
  obtain ⟨ih0, ih1, ih2⟩ := laws_FnExactComposeTrees.mono_l k
  refine ⟨?_, ?_, ?_⟩
  ·
   intro y0 y1 y2 y3 y4 y5 y6 y7 y8
   unfold laws_FnExactComposeTrees.j0
   repeat' first
   | (with_reducible exact ih0 _ _ _ _ _ _ _ _ _)
   | (with_reducible exact ih1 _ _ _ _ _ _)
   | (with_reducible exact ih2 _ _ _)
   | (with_reducible exact impl_ComposeTrees.mono _ _ _)
   | (with_reducible exact laws_eqTree.mono _ _ _)
   | (with_reducible exact laws_heldTree.mono _ _ _)
   | (with_reducible exact laws_markTree.mono _ _ _)
   | (with_reducible exact laws_toTree.mono _ _)
   | (with_reducible exact spec_ComposeTrees.mono _ _ _)
   | (with_reducible exact LeO.refl _)
   | (with_reducible exact LeO.none _)
   | (with_reducible refine LeO.ite ?_ ?_)
   | (with_reducible refine LeO.bind ?_ (fun _ => ?_))
   | exact ih0 _ _ _ _ _ _ _ _ _
   | exact ih1 _ _ _ _ _ _
   | exact ih2 _ _ _
   | exact LeO.none _
   | refine LeO.ite ?_ ?_
   | refine LeO.bind ?_ (fun _ => ?_)
  ·
   intro y0 y1 y2 y3 y4 y5
   unfold laws_FnExactComposeTrees.j1
   repeat' first
   | (with_reducible exact ih0 _ _ _ _ _ _ _ _ _)
   | (with_reducible exact ih1 _ _ _ _ _ _)
   | (with_reducible exact ih2 _ _ _)
   | (with_reducible exact impl_ComposeTrees.mono _ _ _)
   | (with_reducible exact laws_eqTree.mono _ _ _)
   | (with_reducible exact laws_heldTree.mono _ _ _)
   | (with_reducible exact laws_markTree.mono _ _ _)
   | (with_reducible exact laws_toTree.mono _ _)
   | (with_reducible exact spec_ComposeTrees.mono _ _ _)
   | (with_reducible exact LeO.refl _)
   | (with_reducible exact LeO.none _)
   | (with_reducible refine LeO.ite ?_ ?_)
   | (with_reducible refine LeO.bind ?_ (fun _ => ?_))
   | exact ih0 _ _ _ _ _ _ _ _ _
   | exact ih1 _ _ _ _ _ _
   | exact ih2 _ _ _
   | exact LeO.none _
   | refine LeO.ite ?_ ?_
   | refine LeO.bind ?_ (fun _ => ?_)
  ·
   intro y0 y1 y2
   unfold laws_FnExactComposeTrees.j2
   repeat' first
   | (with_reducible exact ih0 _ _ _ _ _ _ _ _ _)
   | (with_reducible exact ih1 _ _ _ _ _ _)
   | (with_reducible exact ih2 _ _ _)
   | (with_reducible exact impl_ComposeTrees.mono _ _ _)
   | (with_reducible exact laws_eqTree.mono _ _ _)
   | (with_reducible exact laws_heldTree.mono _ _ _)
   | (with_reducible exact laws_markTree.mono _ _ _)
   | (with_reducible exact laws_toTree.mono _ _)
   | (with_reducible exact spec_ComposeTrees.mono _ _ _)
   | (with_reducible exact LeO.refl _)
   | (with_reducible exact LeO.none _)
   | (with_reducible refine LeO.ite ?_ ?_)
   | (with_reducible refine LeO.bind ?_ (fun _ => ?_))
   | exact ih0 _ _ _ _ _ _ _ _ _
   | exact ih1 _ _ _ _ _ _
   | exact ih2 _ _ _
   | exact LeO.none _
   | refine LeO.ite ?_ ?_
   | refine LeO.bind ?_ (fun _ => ?_)
theorem laws_FnExactComposeTrees.mono : ∀ a0 a1 k, LeO (laws_FnExactComposeTrees.f k a0 a1) (laws_FnExactComposeTrees.f (k + 1) a0 a1) := by
 intro a0 a1 k
 obtain ⟨ih0, ih1, ih2⟩ := laws_FnExactComposeTrees.mono_l k
 unfold laws_FnExactComposeTrees.f
 repeat' first
   | (with_reducible exact ih0 _ _ _ _ _ _ _ _ _)
   | (with_reducible exact ih1 _ _ _ _ _ _)
   | (with_reducible exact ih2 _ _ _)
   | (with_reducible exact impl_ComposeTrees.mono _ _ _)
   | (with_reducible exact laws_eqTree.mono _ _ _)
   | (with_reducible exact laws_heldTree.mono _ _ _)
   | (with_reducible exact laws_markTree.mono _ _ _)
   | (with_reducible exact laws_toTree.mono _ _)
   | (with_reducible exact spec_ComposeTrees.mono _ _ _)
   | (with_reducible exact LeO.refl _)
   | (with_reducible exact LeO.none _)
   | (with_reducible refine LeO.ite ?_ ?_)
   | (with_reducible refine LeO.bind ?_ (fun _ => ?_))
   | exact ih0 _ _ _ _ _ _ _ _ _
   | exact ih1 _ _ _ _ _ _
   | exact ih2 _ _ _
   | exact LeO.none _
   | refine LeO.ite ?_ ?_
   | refine LeO.bind ?_ (fun _ => ?_)
def laws_FnExactComposeTrees.T8 : Bool × List (List Nat × List Nat) := (true, [([], []), ([0], [0]), ([], []), ([2, 1], [2]), ([1, 3, 3], [1, 3]), ([4], [4]), ([5], [5]), ([5], [5]), ([], []), ([8, 6, 4, 0, 1, 2, 3, 4, 5, 6, 8], [6, 8]), ([7, 9, 0, 1, 2, 3, 4, 5, 6, 7, 8, 9], [7])])
def laws_FnExactComposeTrees.B8 : List Nat := [0, 1, 0, 7, 15, 31, 63, 63, 0, 383, 1023]
theorem laws_FnExactComposeTrees.tab8 : rtab .any (opsOf Try.f5 8) = laws_FnExactComposeTrees.T8 := by kernel_rfl
theorem laws_FnExactComposeTrees.bits8 : waitsOk laws_FnExactComposeTrees.T8.2 laws_FnExactComposeTrees.B8 = true := by kernel_rfl
def laws_FnExactComposeTrees.T31 : Bool × List (List Nat × List Nat) := (true, [([], []), ([0], [0]), ([], []), ([2, 1], [2]), ([1, 3, 3], [1, 3]), ([4], [4]), ([5], [5]), ([5], [5]), ([], []), ([8, 6, 4, 0, 1, 2, 3, 4, 5, 6, 8], [6, 8]), ([7, 9, 0, 1, 2, 3, 4, 5, 6, 7, 8, 9], [7])])
def laws_FnExactComposeTrees.B31 : List Nat := [0, 1, 0, 7, 15, 31, 63, 63, 0, 383, 1023]
theorem laws_FnExactComposeTrees.tab31 : rtab .any (opsOf Try.f5 31) = laws_FnExactComposeTrees.T31 := by kernel_rfl
theorem laws_FnExactComposeTrees.bits31 : waitsOk laws_FnExactComposeTrees.T31.2 laws_FnExactComposeTrees.B31 = true := by kernel_rfl
set_option maxHeartbeats 8000000 in
set_option maxRecDepth 100000 in
theorem laws_FnExactComposeTrees.calls (k : Nat) (A0_0 : Option Addr) (c0_0 : Nat) (l0_0 : List (S158)) (A1_0 : Option Addr) (c1_0 : Nat) (l1_0 : List (S158)) (w : World) (hr0_0 : Kd.C k158 w A0_0 l0_0.length l0_0) (hc0_0 : l0_0.length ≤ c0_0) (hr1_0 : Kd.C k158 w A1_0 l1_0.length l1_0) (hc1_0 : l1_0.length ≤ c1_0) (h : laws_FnExactComposeTrees.f k l0_0 l1_0 = some true) :
  Calls Try.prog 5 #[.agg #[.slice A0_0 l0_0.length c0_0], .agg #[.slice A1_0 l1_0.length c1_0]] w fun e w' => e = .returned (.bool true) ∧ Below w.heap.size w w' := by
 have hu24 := Try.underlying24
 have hu34 := Try.underlying34
 have HR0_0 := A_ hr0_0
 have HC0_0 := A_ hc0_0
 clear hr0_0 hc0_0
 have HR1_0 := A_ hr1_0
 have HC1_0 := A_ hc1_0
 clear hr1_0 hc1_0
 have HB := A_ (Below.refl w.heap.size w)
 have H : ((laws_szTree.f l0_0 1048576).bind fun t250 => (if t250 < 0 then (some true) else ((laws_szTree.f l1_0 t250).bind fun t251 => (if t251 < 0 then (some true) else ((laws_toTree.f k l0_0).bind fun t252 => ((laws_toTree.f k l1_0).bind fun t255 => ((spec_ComposeTrees.f k t252 t255).bind fun bt258 => ((laws_toTree.f k l0_0).bind fun t263 => ((laws_toTree.f k l1_0).bind fun t267 => ((impl_ComposeTrees.f k t263 t267).bind fun bt271 => ((laws_eqTree.f k bt271.1 bt258.1).bind fun t276 => (if t276 = true then (laws_FnExactComposeTrees.j0 k bt258.2 bt271.2 (bt271.2 != bt258.2) l0_0 l1_0 bt258.1 t263 t267 bt271.1) else (laws_FnExactComposeTrees.j0 k bt258.2 bt271.2 true l0_0 l1_0 bt258.1 t263 t267 bt271.1))))))))))))) = some true := h
 clear h
 replace H := Option.bind_eq_some_iff.mp H
 obtain ⟨t250, A30, H⟩ := H
 try dsimp only at H
 have A3 := A_ A30
 clear A30
 by_cases c4 : t250 < 0
 ·
  rw [if_pos c4] at H
  have c4b0 := decide_eq_true c4
  clear c4
  clear H
  go_enter Try.func5, Try.ntmps5
  go_wp2_with (first | ((with_reducible refine gate_dst (N := 2) rfl ?_); refine box_event ?hg (N := 2) ?hd (cs := #[.slice A0_0 l0_0.length c0_0]) (t := 24) ?hr ?_; (case hd => rfl); (case hg => rfl); (case hr => first | (go_simp; done) | (go_simp; rfl)); intro gb248 hg w5 hbox hb; have _ := A_ (below_step z8_23_ hb); have _ := A_ (hbox); have _ := A_ ((by rw [hg]; exact (below_size z8_23_) : w.heap.size ≤ gb248)); have _ := A_ ((by rw [hg]; exact (below_size z8_23_) : w.heap.size ≤ gb248)); clear HB; rename_i HB BK248 GW248 GE248; clear hb hbox hg) | ((with_reducible refine gate_dst (N := 3) rfl ?_); refine box_event ?hg (N := 3) ?hd (cs := #[.slice A1_0 l1_0.length c1_0]) (t := 24) ?hr ?_; (case hd => rfl); (case hg => rfl); (case hr => first | (go_simp; done) | (go_simp; rfl)); intro gb249 hg w6 hbox hb; have _ := A_ (blk_below (g := gb248) (o := .cells #[.slice A0_0 l0_0.length c0_0] 24 (0, 0)) z8_2_ hb); have _ := A_ (below_step z8_18_ hb); have _ := A_ (hbox); have _ := A_ ((by rw [hg]; exact (below_size z8_18_) : w.heap.size ≤ gb249)); have _ := A_ ((by rw [hg]; exact (below_size z8_18_) : w.heap.size ≤ gb249)); have _ := A_ ((by rw [hg]; exact Nat.ne_of_lt (blk_lt (g := gb248) (o := .cells #[.slice A0_0 l0_0.length c0_0] 24 (0, 0)) z8_2_) : gb248 ≠ gb249)); have _ := A_ ((by rw [hg]; exact Nat.ne_of_gt (blk_lt (g := gb248) (o := .cells #[.slice A0_0 l0_0.length c0_0] 24 (0, 0)) z8_2_) : gb249 ≠ gb248)); clear BK248 HB; rename_i BK248 HB BK249 GW249 GE249 NB248_249 NB249_248; clear hb hbox hg; have hnb7 := NB248_249.out; have hnc7 := NB249_248.out; have hcz8_0 : w6.cell? ⟨gb248, 0, none⟩ = some (.slice A0_0 l0_0.length c0_0) := (blk_cell BK248.out 0).trans rfl; have hfz8_0 := blk_frozen BK248.out 0) | ((with_reducible refine gate_callee (f := 14) rfl ?_); refine goesL_ (some 19) rfl rfl Try.func14 (by kernel_rfl) rfl #[.agg #[.slice A0_0 l0_0.length c0_0], .int .i64 1048576] rfl z8_7_ ?_; (with_reducible refine (laws_szTree.calls _ _ l0_0 1048576 t250 _ ?side1 ?side2 A3.out).mono ?_); (case side1 => have hx_ := (Kd.C_below HR0_0.out HB.out); exact kc_); (case side2 => exact HC0_0.out); rintro e w9 ⟨rfl, hb⟩; refine ⟨_, rfl, ?_⟩; have _ := A_ (blk_below (g := gb248) (o := .cells #[.slice A0_0 l0_0.length c0_0] 24 (0, 0)) z8_2_ hb); have _ := A_ (blk_below (g := gb249) (o := .cells #[.slice A1_0 l1_0.length c1_0] 24 (0, 0)) z8_3_ hb); have _ := A_ (below_step z8_10_ hb); clear BK248 BK249 HB; rename_i BK248 BK249 HB; (try clear hb)))
  go_ret
  exact ⟨z8_88_, z8_10_⟩
 ·
  rw [if_neg c4] at H
  have c4b0 := decide_eq_false c4
  clear c4
  replace H := Option.bind_eq_some_iff.mp H
  obtain ⟨t251, A100, H⟩ := H
  try dsimp only at H
  have A10 := A_ A100
  clear A100
  by_cases c11 : t251 < 0
  ·
   rw [if_pos c11] at H
   have c11b0 := decide_eq_true c11
   clear c11
   clear H
   go_enter Try.func5, Try.ntmps5
   go_wp2_with (first | ((with_reducible refine gate_dst (N := 2) rfl ?_); refine box_event ?hg (N := 2) ?hd (cs := #[.slice A0_0 l0_0.length c0_0]) (t := 24) ?hr ?_; (case hd => rfl); (case hg => rfl); (case hr => first | (go_simp; done) | (go_simp; rfl)); intro gb248 hg w12 hbox hb; have _ := A_ (below_step z8_23_ hb); have _ := A_ (hbox); have _ := A_ ((by rw [hg]; exact (below_size z8_23_) : w.heap.size ≤ gb248)); have _ := A_ ((by rw [hg]; exact (below_size z8_23_) : w.heap.size ≤ gb248)); clear HB; rename_i HB BK248 GW248 GE248; clear hb hbox hg) | ((with_reducible refine gate_dst (N := 3) rfl ?_); refine box_event ?hg (N := 3) ?hd (cs := #[.slice A1_0 l1_0.length c1_0]) (t := 24) ?hr ?_; (case hd => rfl); (case hg => rfl); (case hr => first | (go_simp; done) | (go_simp; rfl)); intro gb249 hg w13 hbox hb; have _ := A_ (blk_below (g := gb248) (o := .cells #[.slice A0_0 l0_0.length c0_0] 24 (0, 0)) z8_2_ hb); have _ := A_ (below_step z8_18_ hb); have _ := A_ (hbox); have _ := A_ ((by rw [hg]; exact (below_size z8_18_) : w.heap.size ≤ gb249)); have _ := A_ ((by rw [hg]; exact (below_size z8_18_) : w.heap.size ≤ gb249)); have _ := A_ ((by rw [hg]; exact Nat.ne_of_lt (blk_lt (g := gb248) (o := .cells #[.slice A0_0 l0_0.length c0_0] 24 (0, 0)) z8_2_) : gb248 ≠ gb249)); have _ := A_ ((by rw [hg]; exact Nat.ne_of_gt (blk_lt (g := gb248) (o := .cells #[.slice A0_0 l0_0.length c0_0] 24 (0, 0)) z8_2_) : gb249 ≠ gb248)); clear BK248 HB; rename_i BK248 HB BK249 GW249 GE249 NB248_249 NB249_248; clear hb hbox hg; have hnb14 := NB248_249.out; have hnc14 := NB249_248.out; have hcz15_0 : w13.cell? ⟨gb248, 0, none⟩ = some (.slice A0_0 l0_0.length c0_0) := (blk_cell BK248.out 0).trans rfl; have hfz15_0 := blk_frozen BK248.out 0) | ((with_reducible refine gate_callee (f := 14) rfl ?_); refine goesL_ (some 19) rfl rfl Try.func14 (by kernel_rfl) rfl #[.agg #[.slice A0_0 l0_0.length c0_0], .int .i64 1048576] rfl z8_7_ ?_; (with_reducible refine (laws_szTree.calls _ _ l0_0 1048576 t250 _ ?side1 ?side2 A3.out).mono ?_); (case side1 => have hx_ := (Kd.C_below HR0_0.out HB.out); exact kc_); (case side2 => exact HC0_0.out); rintro e w16 ⟨rfl, hb⟩; refine ⟨_, rfl, ?_⟩; have _ := A_ (blk_below (g := gb248) (o := .cells #[.slice A0_0 l0_0.length c0_0] 24 (0, 0)) z8_2_ hb); have _ := A_ (blk_below (g := gb249) (o := .cells #[.slice A1_0 l1_0.length c1_0] 24 (0, 0)) z8_3_ hb); have _ := A_ (below_step z8_10_ hb); clear BK248 BK249 HB; rename_i BK248 BK249 HB; (try clear hb); have hcz17_0 : w16.cell? ⟨gb249, 0, none⟩ = some (.slice A1_0 l1_0.length c1_0) := (blk_cell BK249.out 0).trans rfl; have hfz17_0 := blk_frozen BK249.out 0) | ((with_reducible refine gate_callee (f := 14) rfl ?_); refine goesL_ (some 24) rfl rfl Try.func14 (by kernel_rfl) rfl #[.agg #[.slice A1_0 l1_0.length c1_0], .int .i64 t250] rfl z8_7_ ?_; (with_reducible refine (laws_szTree.calls _ _ l1_0 t250 t251 _ ?side1 ?side2 A10.out).mono ?_); (case side1 => have hx_ := (Kd.C_below HR1_0.out HB.out); exact kc_); (case side2 => exact HC1_0.out); rintro e w18 ⟨rfl, hb⟩; refine ⟨_, rfl, ?_⟩; have _ := A_ (blk_below (g := gb248) (o := .cells #[.slice A0_0 l0_0.length c0_0] 24 (0, 0)) z8_2_ hb); have _ := A_ (blk_below (g := gb249) (o := .cells #[.slice A1_0 l1_0.length c1_0] 24 (0, 0)) z8_3_ hb); have _ := A_ (below_step z8_10_ hb); clear BK248 BK249 HB; rename_i BK248 BK249 HB; (try clear hb)))
   go_ret
   exact ⟨z8_88_, z8_10_⟩
  ·
   rw [if_neg c11] at H
   have c11b0 := decide_eq_false c11
   clear c11
   replace H := Option.bind_eq_some_iff.mp H
   obtain ⟨t252, A190, H⟩ := H
   try dsimp only at H
   have A19 := A_ A190
   clear A190
   replace H := Option.bind_eq_some_iff.mp H
   obtain ⟨t255, A200, H⟩ := H
   try dsimp only at H
   have A20 := A_ A200
   clear A200
   replace H := Option.bind_eq_some_iff.mp H
   obtain ⟨⟨t258, t261⟩, A210, H⟩ := H
   try dsimp only at H
   have A21 := A_ A210
   clear A210
   replace H := Option.bind_eq_some_iff.mp H
   obtain ⟨t263, A220, H⟩ := H
   try dsimp only at H
   have A22 := A_ A220
   clear A220
   replace H := Option.bind_eq_some_iff.mp H
   obtain ⟨t267, A230, H⟩ := H
   try dsimp only at H
   have A23 := A_ A230
   clear A230
   replace H := Option.bind_eq_some_iff.mp H
   obtain ⟨⟨t271, t274⟩, A240, H⟩ := H
   try dsimp only at H
   have A24 := A_ A240
   clear A240
   have HC25 := A_ H
   clear H
   go_enter Try.func5, Try.ntmps5
   try go_wp2_with (first | ((with_reducible refine gate_dst (N := 2) rfl ?_); refine box_event ?hg (N := 2) ?hd (cs := #[.slice A0_0 l0_0.length c0_0]) (t := 24) ?hr ?_; (case hd => rfl); (case hg => rfl); (case hr => first | (go_simp; done) | (go_simp; rfl)); intro gb248 hg w26 hbox hb; have _ := A_ (below_step z8_23_ hb); have _ := A_ (hbox); have _ := A_ ((by rw [hg]; exact (below_size z8_23_) : w.heap.size ≤ gb248)); have _ := A_ ((by rw [hg]; exact (below_size z8_23_) : w.heap.size ≤ gb248)); clear HB; rename_i HB BK248 GW248 GE248; clear hb hbox hg) | ((with_reducible refine gate_dst (N := 3) rfl ?_); refine box_event ?hg (N := 3) ?hd (cs := #[.slice A1_0 l1_0.length c1_0]) (t := 24) ?hr ?_; (case hd => rfl); (case hg => rfl); (case hr => first | (go_simp; done) | (go_simp; rfl)); intro gb249 hg w27 hbox hb; have _ := A_ (blk_below (g := gb248) (o := .cells #[.slice A0_0 l0_0.length c0_0] 24 (0, 0)) z8_2_ hb); have _ := A_ (below_step z8_18_ hb); have _ := A_ (hbox); have _ := A_ ((by rw [hg]; exact (below_size z8_18_) : w.heap.size ≤ gb249)); have _ := A_ ((by rw [hg]; exact (below_size z8_18_) : w.heap.size ≤ gb249)); have _ := A_ ((by rw [hg]; exact Nat.ne_of_lt (blk_lt (g := gb248) (o := .cells #[.slice A0_0 l0_0.length c0_0] 24 (0, 0)) z8_2_) : gb248 ≠ gb249)); have _ := A_ ((by rw [hg]; exact Nat.ne_of_gt (blk_lt (g := gb248) (o := .cells #[.slice A0_0 l0_0.length c0_0] 24 (0, 0)) z8_2_) : gb249 ≠ gb248)); clear BK248 HB; rename_i BK248 HB BK249 GW249 GE249 NB248_249 NB249_248; clear hb hbox hg; have hnb28 := NB248_249.out; have hnc28 := NB249_248.out; have hcz29_0 : w27.cell? ⟨gb248, 0, none⟩ = some (.slice A0_0 l0_0.length c0_0) := (blk_cell BK248.out 0).trans rfl; have hfz29_0 := blk_frozen BK248.out 0) | ((with_reducible refine gate_callee (f := 14) rfl ?_); refine goesL_ (some 19) rfl rfl Try.func14 (by kernel_rfl) rfl #[.agg #[.slice A0_0 l0_0.length c0_0], .int .i64 1048576] rfl z8_7_ ?_; (with_reducible refine (laws_szTree.calls _ _ l0_0 1048576 t250 _ ?side1 ?side2 A3.out).mono ?_); (case side1 => have hx_ := (Kd.C_below HR0_0.out HB.out); exact kc_); (case side2 => exact HC0_0.out); rintro e w30 ⟨rfl, hb⟩; refine ⟨_, rfl, ?_⟩; have _ := A_ (blk_below (g := gb248) (o := .cells #[.slice A0_0 l0_0.length c0_0] 24 (0, 0)) z8_2_ hb); have _ := A_ (blk_below (g := gb249) (o := .cells #[.slice A1_0 l1_0.length c1_0] 24 (0, 0)) z8_3_ hb); have _ := A_ (below_step z8_10_ hb); clear BK248 BK249 HB; rename_i BK248 BK249 HB; (try clear hb); have hcz31_0 : w30.cell? ⟨gb249, 0, none⟩ = some (.slice A1_0 l1_0.length c1_0) := (blk_cell BK249.out 0).trans rfl; have hfz31_0 := blk_frozen BK249.out 0) | ((with_reducible refine gate_callee (f := 14) rfl ?_); refine goesL_ (some 24) rfl rfl Try.func14 (by kernel_rfl) rfl #[.agg #[.slice A1_0 l1_0.length c1_0], .int .i64 t250] rfl z8_7_ ?_; (with_reducible refine (laws_szTree.calls _ _ l1_0 t250 t251 _ ?side1 ?side2 A10.out).mono ?_); (case side1 => have hx_ := (Kd.C_below HR1_0.out HB.out); exact kc_); (case side2 => exact HC1_0.out); rintro e w32 ⟨rfl, hb⟩; refine ⟨_, rfl, ?_⟩; have _ := A_ (blk_below (g := gb248) (o := .cells #[.slice A0_0 l0_0.length c0_0] 24 (0, 0)) z8_2_ hb); have _ := A_ (blk_below (g := gb249) (o := .cells #[.slice A1_0 l1_0.length c1_0] 24 (0, 0)) z8_3_ hb); have _ := A_ (below_step z8_10_ hb); clear BK248 BK249 HB; rename_i BK248 BK249 HB; (try clear hb)))
   have _ := A_ (blk_drew BK248.out)
   have _ := A_ (blk_drew BK249.out)
   have _ := A_ (below_drew1 HB.out)
   clear BK248 BK249 HB
   rename_i BK248 BK249 HB
   refine start_ (n := 11) (S := fun w' => w'.cell? ⟨gb248, 0, none⟩ = some (.slice A0_0 l0_0.length c0_0) ∧ w'.cell? ⟨gb249, 0, none⟩ = some (.slice A1_0 l1_0.length c1_0)) (ds := []) #[false, false, false, false, false, false, false, false, false, false, false] (by kernel_rfl) rfl rfl ⟨(blk_cell BK248.out 0).trans rfl, (blk_cell BK249.out 0).trans rfl⟩ (fun hHeld => ?_); refine with_tabW laws_FnExactComposeTrees.tab8 laws_FnExactComposeTrees.bits8 (fun HT_ HW_ => ?_)
   generalize w32.drew = w33 at BK248 BK249 HB hHeld ⊢
   refine take_ (i := 0) (N := some 28) (v := ?_) (a' := ?_) #[true, false, false, false, false, false, false, false, false, false, false] rfl rfl (take_ofW HT_.out HW_.out (by kernel_rfl)) (fun _ _ _ h => h) (Or.inl ⟨by rfl, ?_⟩) hHeld ?_ ?_
   rotate_left
   ·
    rintro w' ⟨s0, s1⟩
    go_simp
    with_reducible rfl
   rotate_left
   ·
    simp only [Act.put, sA_, sB_, sC_, i64_w, i32_w]
    rfl
   refine take_ (i := 2) (N := some 30) (v := ?_) (a' := ?_) #[true, false, true, false, false, false, false, false, false, false, false] rfl rfl (take_ofW HT_.out HW_.out (by kernel_rfl)) (fun _ _ _ h => h) (Or.inl ⟨by rfl, ?_⟩) hHeld ?_ ?_
   rotate_left
   ·
    rintro w' ⟨s0, s1⟩
    go_simp
    with_reducible rfl
   rotate_left
   ·
    simp only [Act.put, sA_, sB_, sC_, i64_w, i32_w]
    rfl
   refine join_ (σ := Value × Value × Value × Nat) 2 #[true, true, true, true, true, true, true, true, true, false, false] (fun s_ => [(29, .agg #[s_.1]), (31, .agg #[s_.2.1]), (32, .tuple #[.agg #[s_.2.2.1], .int .i64 t261]), (6, .pointer (some ⟨s_.2.2.2, 0, none⟩)), (27, .tuple #[.agg #[s_.2.2.1], .int .i64 t261]), (33, .agg #[s_.2.2.1]), (34, .int .i64 t261)]) (fun s_ w' => (w'.cell? ⟨gb248, 0, none⟩ = some (.slice A0_0 l0_0.length c0_0) ∧ w'.cell? ⟨gb249, 0, none⟩ = some (.slice A1_0 l1_0.length c1_0)) ∧ (Kd.R k89 89 w' w.heap.size (fun k_ => some k_ ≠ (s_.2.1 : Value).ownBlock ∧ some k_ ≠ (s_.2.2.1 : Value).ownBlock) s_.1 t252) ∧ (Kd.R k89 89 w' w.heap.size (fun k_ => some k_ ≠ (s_.1 : Value).ownBlock ∧ some k_ ≠ (s_.2.2.1 : Value).ownBlock) s_.2.1 t255) ∧ (Kd.R k89 89 w' w.heap.size (fun k_ => some k_ ≠ (s_.1 : Value).ownBlock ∧ some k_ ≠ (s_.2.1 : Value).ownBlock) s_.2.2.1 t258) ∧ (w'.heap[gb248]? = some (.cells #[.slice A0_0 l0_0.length c0_0] 24 (0, 0))) ∧ (w'.heap[gb249]? = some (.cells #[.slice A1_0 l1_0.length c1_0] 24 (0, 0))) ∧ (w'.heap[s_.2.2.2]? = some (.cells #[.slice none 0 0] 34 (0, 0))) ∧ (w.heap.size ≤ s_.2.2.2) ∧ (w.heap.size ≤ s_.2.2.2) ∧ (gb248 ≠ s_.2.2.2) ∧ (s_.2.2.2 ≠ gb248) ∧ (gb249 ≠ s_.2.2.2) ∧ (s_.2.2.2 ≠ gb249) ∧ (Below w.heap.size w w')) ?_ ?_
   rotate_left
   ·
    intro hCont
    refine two_ (i := 1) (j := 8) (Ni := some 29) (Nj := some 6) #[true, true, true, false, false, false, false, false, false, false, false] #[true, false, true, false, false, false, false, false, true, false, false] rfl rfl rfl rfl (two_of HT_.out (by kernel_rfl)) (by decide) (by decide) (fun K hK => ?_) (fun K hK => ?_)
    ·
     skip
     refine goes_ Try.func17 (by kernel_rfl) rfl #[.agg #[.slice A0_0 l0_0.length c0_0]] (by rfl) rfl rfl z8_7_ ?_
     with_reducible refine (laws_toTree.calls k _ _ l0_0 t252 _ ?side1 ?side2 A19.out).mono ?_
     (case side1 => have hx_ := (Kd.C_below HR0_0.out HB.out); exact kc_)
     (case side2 => exact HC0_0.out)
     rintro e w34 ⟨v253, rfl, ho0, hb⟩
     refine ⟨_, rfl, ?_⟩
     have _ := A_ (Kd.R_lower ho0 (below_size z8_10_))
     have _ := A_ (blk_below (g := gb248) (o := .cells #[.slice A0_0 l0_0.length c0_0] 24 (0, 0)) z8_2_ hb)
     have _ := A_ (blk_below (g := gb249) (o := .cells #[.slice A1_0 l1_0.length c1_0] 24 (0, 0)) z8_3_ hb)
     have _ := A_ (below_step z8_10_ hb)
     clear BK248 BK249 HB
     rename_i HO254 BK248 BK249 HB
     (try clear hb)
     (try clear hb2)
     (try clear hk)
     (try clear hi)
     (try clear ho0)
     refine hK.out _ _ ⟨(blk_cell BK248.out 0).trans rfl, (blk_cell BK249.out 0).trans rfl⟩ (fun hHeld => ?_)
     clear hK K
     refine norm_ (a' := ?_) ?_ ?_
     rotate_left
     ·
      show Act.put _ (some 29) _ = _
      simp only [Act.put, sA_, sB_, sC_, i64_w, i32_w]
      rfl
     refine two_ (i := 3) (j := 8) (Ni := some 31) (Nj := some 6) #[true, true, true, true, false, false, false, false, false, false, false] #[true, true, true, false, false, false, false, false, true, false, false] rfl rfl rfl rfl (two_of HT_.out (by kernel_rfl)) (by decide) (by decide) (fun K hK => ?_) (fun K hK => ?_)
     ·
      skip
      refine goes_ Try.func17 (by kernel_rfl) rfl #[.agg #[.slice A1_0 l1_0.length c1_0]] (by rfl) rfl rfl z8_7_ ?_
      with_reducible refine (laws_toTree.calls k _ _ l1_0 t255 _ ?side1 ?side2 A20.out).mono ?_
      (case side1 => have hx_ := (Kd.C_below HR1_0.out HB.out); exact kc_)
      (case side2 => exact HC1_0.out)
      rintro e w35 ⟨v256, rfl, ho0, hb⟩
      refine ⟨_, rfl, ?_⟩
      have _ := A_ (Kd.R_elder' z8_16_ (Kd.R_base ho0) hb)
      have _ := A_ (Kd.R_lower (Kd.R_new' ho0 (Kd.R_lt z8_16_)) (below_size z8_10_))
      have _ := A_ (blk_below (g := gb248) (o := .cells #[.slice A0_0 l0_0.length c0_0] 24 (0, 0)) z8_2_ hb)
      have _ := A_ (blk_below (g := gb249) (o := .cells #[.slice A1_0 l1_0.length c1_0] 24 (0, 0)) z8_3_ hb)
      have _ := A_ (below_step z8_10_ hb)
      clear HO254 BK248 BK249 HB
      rename_i HO254 HO257 BK248 BK249 HB
      (try clear hb)
      (try clear hb2)
      (try clear hk)
      (try clear hi)
      (try clear ho0)
      obtain ⟨Ao36, co36, eo36⟩ := Kd.R_slice HO254.out
      (first | subst eo36 | (injection eo36 with f1_ f2_ f3_; have f4_ := f1_.symm; have f5_ := f3_.symm; clear f1_ f2_ f3_; subst f4_; subst f5_))
      obtain ⟨Ao37, co37, eo37⟩ := Kd.R_slice HO257.out
      (first | subst eo37 | (injection eo37 with f1_ f2_ f3_; have f4_ := f1_.symm; have f5_ := f3_.symm; clear f1_ f2_ f3_; subst f4_; subst f5_))
      refine hK.out _ _ ⟨(blk_cell BK248.out 0).trans rfl, (blk_cell BK249.out 0).trans rfl⟩ (fun hHeld => ?_)
      clear hK K
      refine norm_ (a' := ?_) ?_ ?_
      rotate_left
      ·
       show Act.put _ (some 31) _ = _
       simp only [Act.put, sA_, sB_, sC_, i64_w, i32_w]
       rfl
      refine two_ (i := 4) (j := 8) (Ni := some 32) (Nj := some 6) #[true, true, true, true, true, false, false, false, false, false, false] #[true, true, true, true, false, false, false, false, true, false, false] rfl rfl rfl rfl (two_of HT_.out (by kernel_rfl)) (by decide) (by decide) (fun K hK => ?_) (fun K hK => ?_)
      ·
       skip
       refine goes_ Try.func29 (by kernel_rfl) rfl #[.agg #[.slice Ao36 t252.length co36], .agg #[.slice Ao37 t255.length co37]] (by rfl) rfl rfl z8_7_ ?_
       with_reducible refine (spec_ComposeTrees.calls k _ _ t252 _ _ t255 t258 t261 _ ?side1 ?side2 ?side3 ?side4 A21.out).mono ?_
       (case side1 => have hx_ := (Kd.R_reads' HO254.out).2.2; exact kc_)
       (case side2 => exact (Kd.R_reads' HO254.out).2.1)
       (case side3 => have hx_ := (Kd.R_reads' HO257.out).2.2; exact kc_)
       (case side4 => exact (Kd.R_reads' HO257.out).2.1)
       rintro e w38 ⟨v259, rfl, ho0, hb⟩
       refine ⟨_, rfl, ?_⟩
       have _ := A_ (Kd.R_elder' z8_16_ (Kd.R_base ho0) hb)
       have _ := A_ (Kd.R_elder' z8_20_ (Kd.R_base ho0) hb)
       have _ := A_ (Kd.R_lower (Kd.R_new' (Kd.R_new' ho0 (Kd.R_lt z8_16_)) (Kd.R_lt z8_20_)) (below_size z8_10_))
       have _ := A_ (blk_below (g := gb248) (o := .cells #[.slice A0_0 l0_0.length c0_0] 24 (0, 0)) z8_2_ hb)
       have _ := A_ (blk_below (g := gb249) (o := .cells #[.slice A1_0 l1_0.length c1_0] 24 (0, 0)) z8_3_ hb)
       have _ := A_ (below_step z8_10_ hb)
       clear HO254 HO257 BK248 BK249 HB
       rename_i HO254 HO257 HO260 BK248 BK249 HB
       (try clear hb)
       (try clear hb2)
       (try clear hk)
       (try clear hi)
       (try clear ho0)
       refine hK.out _ _ ⟨(blk_cell BK248.out 0).trans rfl, (blk_cell BK249.out 0).trans rfl⟩ (fun hHeld => ?_)
       clear hK K
       refine norm_ (a' := ?_) ?_ ?_
       rotate_left
       ·
        show Act.put _ (some 32) _ = _
        simp only [Act.put, sA_, sB_, sC_, i64_w, i32_w]
        rfl
       refine pure_ (i := 5) (N := some 27) (v := ?_) (a' := ?_) #[true, true, true, true, true, true, false, false, false, false, false] rfl rfl (any_of HT_.out (by kernel_rfl)) (fun _ _ _ h => h) (Or.inl ⟨by rfl, ?_⟩) ?_ ?_
       rotate_left
       ·
        intro w'
        go_simp
        with_reducible rfl
       rotate_left
       ·
        simp only [Act.put, sA_, sB_, sC_, i64_w, i32_w]
        rfl
       refine pure_ (i := 6) (N := some 33) (v := ?_) (a' := ?_) #[true, true, true, true, true, true, true, false, false, false, false] rfl rfl (any_of HT_.out (by kernel_rfl)) (fun _ _ _ h => h) (Or.inl ⟨by rfl, ?_⟩) ?_ ?_
       rotate_left
       ·
        intro w'
        go_simp
        with_reducible rfl
       rotate_left
       ·
        simp only [Act.put, sA_, sB_, sC_, i64_w, i32_w]
        rfl
       refine pure_ (i := 7) (N := some 34) (v := ?_) (a' := ?_) #[true, true, true, true, true, true, true, true, false, false, false] rfl rfl (any_of HT_.out (by kernel_rfl)) (fun _ _ _ h => h) (Or.inl ⟨by rfl, ?_⟩) ?_ ?_
       rotate_left
       ·
        intro w'
        go_simp
        with_reducible rfl
       rotate_left
       ·
        simp only [Act.put, sA_, sB_, sC_, i64_w, i32_w]
        rfl
       refine one_ (i := 8) (N := some 6) #[true, true, true, true, true, true, true, true, true, false, false] rfl rfl (one_of HT_.out (by kernel_rfl)) (by decide) (fun K hK => ?_)
       refine box_step ?hg (N := 6) ?hd (cs := #[.slice none 0 0]) (t := 34) ?hr ?_; (case hd => rfl); (case hg => rfl); (case hr => first | (go_simp; done) | (go_simp; rfl))
       intro gb262 hg w39 hbox hb
       have _ := A_ (Kd.R_below z8_16_ hb)
       have _ := A_ (Kd.R_below z8_20_ hb)
       have _ := A_ (Kd.R_below z8_47_ hb)
       have _ := A_ (blk_below (g := gb248) (o := .cells #[.slice A0_0 l0_0.length c0_0] 24 (0, 0)) z8_2_ hb)
       have _ := A_ (blk_below (g := gb249) (o := .cells #[.slice A1_0 l1_0.length c1_0] 24 (0, 0)) z8_3_ hb)
       have _ := A_ (below_step z8_10_ hb)
       have _ := A_ (hbox)
       have _ := A_ ((by rw [hg]; exact (below_size z8_10_) : w.heap.size ≤ gb262))
       have _ := A_ ((by rw [hg]; exact (below_size z8_10_) : w.heap.size ≤ gb262))
       have _ := A_ ((by rw [hg]; exact Nat.ne_of_lt (blk_lt (g := gb248) (o := .cells #[.slice A0_0 l0_0.length c0_0] 24 (0, 0)) z8_2_) : gb248 ≠ gb262))
       have _ := A_ ((by rw [hg]; exact Nat.ne_of_gt (blk_lt (g := gb248) (o := .cells #[.slice A0_0 l0_0.length c0_0] 24 (0, 0)) z8_2_) : gb262 ≠ gb248))
       have _ := A_ ((by rw [hg]; exact Nat.ne_of_lt (blk_lt (g := gb249) (o := .cells #[.slice A1_0 l1_0.length c1_0] 24 (0, 0)) z8_3_) : gb249 ≠ gb262))
       have _ := A_ ((by rw [hg]; exact Nat.ne_of_gt (blk_lt (g := gb249) (o := .cells #[.slice A1_0 l1_0.length c1_0] 24 (0, 0)) z8_3_) : gb262 ≠ gb249))
       clear HO254 HO257 HO260 BK248 BK249 HB
       rename_i HO254 HO257 HO260 BK248 BK249 HB BK262 GW262 GE262 NB248_262 NB262_248 NB249_262 NB262_249
       clear hb hbox hg
       refine hK.out _ _ ⟨(blk_cell BK248.out 0).trans rfl, (blk_cell BK249.out 0).trans rfl⟩ (fun hHeld => ?_)
       clear hK K
       refine norm_ (a' := ?_) ?_ ?_
       rotate_left
       ·
        show Act.put _ (some 6) _ = _
        simp only [Act.put, sA_, sB_, sC_, i64_w, i32_w]
        rfl
       exact norm_ z8_48_ (hCont (.slice Ao36 t252.length co36, .slice Ao37 t255.length co37, v259, gb262) _ ⟨hHeld, z8_41_, z8_40_, z8_39_, z8_2_, z8_3_, z8_5_, GW262.out, GE262.out, NB248_262.out, NB262_248.out, NB249_262.out, NB262_249.out, z8_9_⟩)
      ·
       skip
       refine box_step ?hg (N := 6) ?hd (cs := #[.slice none 0 0]) (t := 34) ?hr ?_; (case hd => rfl); (case hg => rfl); (case hr => first | (go_simp; done) | (go_simp; rfl))
       intro gb262 hg w36 hbox hb
       have _ := A_ (Kd.R_below z8_16_ hb)
       have _ := A_ (Kd.R_below z8_20_ hb)
       have _ := A_ (blk_below (g := gb248) (o := .cells #[.slice A0_0 l0_0.length c0_0] 24 (0, 0)) z8_2_ hb)
       have _ := A_ (blk_below (g := gb249) (o := .cells #[.slice A1_0 l1_0.length c1_0] 24 (0, 0)) z8_3_ hb)
       have _ := A_ (below_step z8_10_ hb)
       have _ := A_ (hbox)
       have _ := A_ ((by rw [hg]; exact (below_size z8_10_) : w.heap.size ≤ gb262))
       have _ := A_ ((by rw [hg]; exact (below_size z8_10_) : w.heap.size ≤ gb262))
       have _ := A_ ((by rw [hg]; exact Nat.ne_of_lt (blk_lt (g := gb248) (o := .cells #[.slice A0_0 l0_0.length c0_0] 24 (0, 0)) z8_2_) : gb248 ≠ gb262))
       have _ := A_ ((by rw [hg]; exact Nat.ne_of_gt (blk_lt (g := gb248) (o := .cells #[.slice A0_0 l0_0.length c0_0] 24 (0, 0)) z8_2_) : gb262 ≠ gb248))
       have _ := A_ ((by rw [hg]; exact Nat.ne_of_lt (blk_lt (g := gb249) (o := .cells #[.slice A1_0 l1_0.length c1_0] 24 (0, 0)) z8_3_) : gb249 ≠ gb262))
       have _ := A_ ((by rw [hg]; exact Nat.ne_of_gt (blk_lt (g := gb249) (o := .cells #[.slice A1_0 l1_0.length c1_0] 24 (0, 0)) z8_3_) : gb262 ≠ gb249))
       clear HO254 HO257 BK248 BK249 HB
       rename_i HO254 HO257 BK248 BK249 HB BK262 GW262 GE262 NB248_262 NB262_248 NB249_262 NB262_249
       clear hb hbox hg
       obtain ⟨Ao37, co37, eo37⟩ := Kd.R_slice HO254.out
       (first | subst eo37 | (injection eo37 with f1_ f2_ f3_; have f4_ := f1_.symm; have f5_ := f3_.symm; clear f1_ f2_ f3_; subst f4_; subst f5_))
       obtain ⟨Ao38, co38, eo38⟩ := Kd.R_slice HO257.out
       (first | subst eo38 | (injection eo38 with f1_ f2_ f3_; have f4_ := f1_.symm; have f5_ := f3_.symm; clear f1_ f2_ f3_; subst f4_; subst f5_))
       refine hK.out _ _ ⟨(blk_cell BK248.out 0).trans rfl, (blk_cell BK249.out 0).trans rfl⟩ (fun hHeld => ?_)
       clear hK K
       refine norm_ (a' := ?_) ?_ ?_
       rotate_left
       ·
        show Act.put _ (some 6) _ = _
        simp only [Act.put, sA_, sB_, sC_, i64_w, i32_w]
        rfl
       refine one_ (i := 4) (N := some 32) #[true, true, true, true, true, false, false, false, true, false, false] rfl rfl (one_of HT_.out (by kernel_rfl)) (by decide) (fun K hK => ?_)
       refine goes_ Try.func29 (by kernel_rfl) rfl #[.agg #[.slice Ao37 t252.length co37], .agg #[.slice Ao38 t255.length co38]] (by rfl) rfl rfl z8_7_ ?_
       with_reducible refine (spec_ComposeTrees.calls k _ _ t252 _ _ t255 t258 t261 _ ?side1 ?side2 ?side3 ?side4 A21.out).mono ?_
       (case side1 => have hx_ := (Kd.R_reads' HO254.out).2.2; exact kc_)
       (case side2 => exact (Kd.R_reads' HO254.out).2.1)
       (case side3 => have hx_ := (Kd.R_reads' HO257.out).2.2; exact kc_)
       (case side4 => exact (Kd.R_reads' HO257.out).2.1)
       rintro e w39 ⟨v259, rfl, ho0, hb⟩
       refine ⟨_, rfl, ?_⟩
       have _ := A_ (Kd.R_elder' z8_16_ (Kd.R_base ho0) hb)
       have _ := A_ (Kd.R_elder' z8_20_ (Kd.R_base ho0) hb)
       have _ := A_ (Kd.R_lower (Kd.R_new' (Kd.R_new' ho0 (Kd.R_lt z8_16_)) (Kd.R_lt z8_20_)) (below_size z8_9_))
       have _ := A_ (blk_below (g := gb248) (o := .cells #[.slice A0_0 l0_0.length c0_0] 24 (0, 0)) z8_2_ hb)
       have _ := A_ (blk_below (g := gb249) (o := .cells #[.slice A1_0 l1_0.length c1_0] 24 (0, 0)) z8_3_ hb)
       have _ := A_ (blk_below (g := gb262) (o := .cells #[.slice none 0 0] 34 (0, 0)) z8_5_ hb)
       have _ := A_ (below_step z8_9_ hb)
       clear HO254 HO257 BK248 BK249 BK262 HB
       rename_i HO254 HO257 HO260 BK248 BK249 BK262 HB
       (try clear hb)
       (try clear hb2)
       (try clear hk)
       (try clear hi)
       (try clear ho0)
       refine hK.out _ _ ⟨(blk_cell BK248.out 0).trans rfl, (blk_cell BK249.out 0).trans rfl⟩ (fun hHeld => ?_)
       clear hK K
       refine norm_ (a' := ?_) ?_ ?_
       rotate_left
       ·
        show Act.put _ (some 32) _ = _
        simp only [Act.put, sA_, sB_, sC_, i64_w, i32_w]
        rfl
       refine pure_ (i := 5) (N := some 27) (v := ?_) (a' := ?_) #[true, true, true, true, true, true, false, false, true, false, false] rfl rfl (any_of HT_.out (by kernel_rfl)) (fun _ _ _ h => h) (Or.inl ⟨by rfl, ?_⟩) ?_ ?_
       rotate_left
       ·
        intro w'
        go_simp
        with_reducible rfl
       rotate_left
       ·
        simp only [Act.put, sA_, sB_, sC_, i64_w, i32_w]
        rfl
       refine pure_ (i := 6) (N := some 33) (v := ?_) (a' := ?_) #[true, true, true, true, true, true, true, false, true, false, false] rfl rfl (any_of HT_.out (by kernel_rfl)) (fun _ _ _ h => h) (Or.inl ⟨by rfl, ?_⟩) ?_ ?_
       rotate_left
       ·
        intro w'
        go_simp
        with_reducible rfl
       rotate_left
       ·
        simp only [Act.put, sA_, sB_, sC_, i64_w, i32_w]
        rfl
       refine pure_ (i := 7) (N := some 34) (v := ?_) (a' := ?_) #[true, true, true, true, true, true, true, true, true, false, false] rfl rfl (any_of HT_.out (by kernel_rfl)) (fun _ _ _ h => h) (Or.inl ⟨by rfl, ?_⟩) ?_ ?_
       rotate_left
       ·
        intro w'
        go_simp
        with_reducible rfl
       rotate_left
       ·
        simp only [Act.put, sA_, sB_, sC_, i64_w, i32_w]
        rfl
       exact norm_ z8_48_ (hCont (.slice Ao37 t252.length co37, .slice Ao38 t255.length co38, v259, gb262) _ ⟨hHeld, z8_41_, z8_40_, z8_39_, z8_2_, z8_3_, z8_5_, GW262.out, GE262.out, NB248_262.out, NB262_248.out, NB249_262.out, NB262_249.out, z8_9_⟩)
     ·
      skip
      refine box_step ?hg (N := 6) ?hd (cs := #[.slice none 0 0]) (t := 34) ?hr ?_; (case hd => rfl); (case hg => rfl); (case hr => first | (go_simp; done) | (go_simp; rfl))
      intro gb262 hg w35 hbox hb
      have _ := A_ (Kd.R_below z8_16_ hb)
      have _ := A_ (blk_below (g := gb248) (o := .cells #[.slice A0_0 l0_0.length c0_0] 24 (0, 0)) z8_2_ hb)
      have _ := A_ (blk_below (g := gb249) (o := .cells #[.slice A1_0 l1_0.length c1_0] 24 (0, 0)) z8_3_ hb)
      have _ := A_ (below_step z8_10_ hb)
      have _ := A_ (hbox)
      have _ := A_ ((by rw [hg]; exact (below_size z8_10_) : w.heap.size ≤ gb262))
      have _ := A_ ((by rw [hg]; exact (below_size z8_10_) : w.heap.size ≤ gb262))
      have _ := A_ ((by rw [hg]; exact Nat.ne_of_lt (blk_lt (g := gb248) (o := .cells #[.slice A0_0 l0_0.length c0_0] 24 (0, 0)) z8_2_) : gb248 ≠ gb262))
      have _ := A_ ((by rw [hg]; exact Nat.ne_of_gt (blk_lt (g := gb248) (o := .cells #[.slice A0_0 l0_0.length c0_0] 24 (0, 0)) z8_2_) : gb262 ≠ gb248))
      have _ := A_ ((by rw [hg]; exact Nat.ne_of_lt (blk_lt (g := gb249) (o := .cells #[.slice A1_0 l1_0.length c1_0] 24 (0, 0)) z8_3_) : gb249 ≠ gb262))
      have _ := A_ ((by rw [hg]; exact Nat.ne_of_gt (blk_lt (g := gb249) (o := .cells #[.slice A1_0 l1_0.length c1_0] 24 (0, 0)) z8_3_) : gb262 ≠ gb249))
      clear HO254 BK248 BK249 HB
      rename_i HO254 BK248 BK249 HB BK262 GW262 GE262 NB248_262 NB262_248 NB249_262 NB262_249
      clear hb hbox hg
      refine hK.out _ _ ⟨(blk_cell BK248.out 0).trans rfl, (blk_cell BK249.out 0).trans rfl⟩ (fun hHeld => ?_)
      clear hK K
      refine norm_ (a' := ?_) ?_ ?_
      rotate_left
      ·
       show Act.put _ (some 6) _ = _
       simp only [Act.put, sA_, sB_, sC_, i64_w, i32_w]
       rfl
      refine one_ (i := 3) (N := some 31) #[true, true, true, true, false, false, false, false, true, false, false] rfl rfl (one_of HT_.out (by kernel_rfl)) (by decide) (fun K hK => ?_)
      refine goes_ Try.func17 (by kernel_rfl) rfl #[.agg #[.slice A1_0 l1_0.length c1_0]] (by rfl) rfl rfl z8_7_ ?_
      with_reducible refine (laws_toTree.calls k _ _ l1_0 t255 _ ?side1 ?side2 A20.out).mono ?_
      (case side1 => have hx_ := (Kd.C_below HR1_0.out HB.out); exact kc_)
      (case side2 => exact HC1_0.out)
      rintro e w36 ⟨v256, rfl, ho0, hb⟩
      refine ⟨_, rfl, ?_⟩
      have _ := A_ (Kd.R_elder' z8_16_ (Kd.R_base ho0) hb)
      have _ := A_ (Kd.R_lower (Kd.R_new' ho0 (Kd.R_lt z8_16_)) (below_size z8_9_))
      have _ := A_ (blk_below (g := gb248) (o := .cells #[.slice A0_0 l0_0.length c0_0] 24 (0, 0)) z8_2_ hb)
      have _ := A_ (blk_below (g := gb249) (o := .cells #[.slice A1_0 l1_0.length c1_0] 24 (0, 0)) z8_3_ hb)
      have _ := A_ (blk_below (g := gb262) (o := .cells #[.slice none 0 0] 34 (0, 0)) z8_5_ hb)
      have _ := A_ (below_step z8_9_ hb)
      clear HO254 BK248 BK249 BK262 HB
      rename_i HO254 HO257 BK248 BK249 BK262 HB
      (try clear hb)
      (try clear hb2)
      (try clear hk)
      (try clear hi)
      (try clear ho0)
      obtain ⟨Ao37, co37, eo37⟩ := Kd.R_slice HO254.out
      (first | subst eo37 | (injection eo37 with f1_ f2_ f3_; have f4_ := f1_.symm; have f5_ := f3_.symm; clear f1_ f2_ f3_; subst f4_; subst f5_))
      obtain ⟨Ao38, co38, eo38⟩ := Kd.R_slice HO257.out
      (first | subst eo38 | (injection eo38 with f1_ f2_ f3_; have f4_ := f1_.symm; have f5_ := f3_.symm; clear f1_ f2_ f3_; subst f4_; subst f5_))
      refine hK.out _ _ ⟨(blk_cell BK248.out 0).trans rfl, (blk_cell BK249.out 0).trans rfl⟩ (fun hHeld => ?_)
      clear hK K
      refine norm_ (a' := ?_) ?_ ?_
      rotate_left
      ·
       show Act.put _ (some 31) _ = _
       simp only [Act.put, sA_, sB_, sC_, i64_w, i32_w]
       rfl
      refine one_ (i := 4) (N := some 32) #[true, true, true, true, true, false, false, false, true, false, false] rfl rfl (one_of HT_.out (by kernel_rfl)) (by decide) (fun K hK => ?_)
      refine goes_ Try.func29 (by kernel_rfl) rfl #[.agg #[.slice Ao37 t252.length co37], .agg #[.slice Ao38 t255.length co38]] (by rfl) rfl rfl z8_7_ ?_
      with_reducible refine (spec_ComposeTrees.calls k _ _ t252 _ _ t255 t258 t261 _ ?side1 ?side2 ?side3 ?side4 A21.out).mono ?_
      (case side1 => have hx_ := (Kd.R_reads' HO254.out).2.2; exact kc_)
      (case side2 => exact (Kd.R_reads' HO254.out).2.1)
      (case side3 => have hx_ := (Kd.R_reads' HO257.out).2.2; exact kc_)
      (case side4 => exact (Kd.R_reads' HO257.out).2.1)
      rintro e w39 ⟨v259, rfl, ho0, hb⟩
      refine ⟨_, rfl, ?_⟩
      have _ := A_ (Kd.R_elder' z8_16_ (Kd.R_base ho0) hb)
      have _ := A_ (Kd.R_elder' z8_20_ (Kd.R_base ho0) hb)
      have _ := A_ (Kd.R_lower (Kd.R_new' (Kd.R_new' ho0 (Kd.R_lt z8_16_)) (Kd.R_lt z8_20_)) (below_size z8_9_))
      have _ := A_ (blk_below (g := gb248) (o := .cells #[.slice A0_0 l0_0.length c0_0] 24 (0, 0)) z8_2_ hb)
      have _ := A_ (blk_below (g := gb249) (o := .cells #[.slice A1_0 l1_0.length c1_0] 24 (0, 0)) z8_3_ hb)
      have _ := A_ (blk_below (g := gb262) (o := .cells #[.slice none 0 0] 34 (0, 0)) z8_5_ hb)
      have _ := A_ (below_step z8_9_ hb)
      clear HO254 HO257 BK248 BK249 BK262 HB
      rename_i HO254 HO257 HO260 BK248 BK249 BK262 HB
      (try clear hb)
      (try clear hb2)
      (try clear hk)
      (try clear hi)
      (try clear ho0)
      refine hK.out _ _ ⟨(blk_cell BK248.out 0).trans rfl, (blk_cell BK249.out 0).trans rfl⟩ (fun hHeld => ?_)
      clear hK K
      refine norm_ (a' := ?_) ?_ ?_
      rotate_left
      ·
       show Act.put _ (some 32) _ = _
       simp only [Act.put, sA_, sB_, sC_, i64_w, i32_w]
       rfl
      refine pure_ (i := 5) (N := some 27) (v := ?_) (a' := ?_) #[true, true, true, true, true, true, false, false, true, false, false] rfl rfl (any_of HT_.out (by kernel_rfl)) (fun _ _ _ h => h) (Or.inl ⟨by rfl, ?_⟩) ?_ ?_
      rotate_left
      ·
       intro w'
       go_simp
       with_reducible rfl
      rotate_left
      ·
       simp only [Act.put, sA_, sB_, sC_, i64_w, i32_w]
       rfl
      refine pure_ (i := 6) (N := some 33) (v := ?_) (a' := ?_) #[true, true, true, true, true, true, true, false, true, false, false] rfl rfl (any_of HT_.out (by kernel_rfl)) (fun _ _ _ h => h) (Or.inl ⟨by rfl, ?_⟩) ?_ ?_
      rotate_left
      ·
       intro w'
       go_simp
       with_reducible rfl
      rotate_left
      ·
       simp only [Act.put, sA_, sB_, sC_, i64_w, i32_w]
       rfl
      refine pure_ (i := 7) (N := some 34) (v := ?_) (a' := ?_) #[true, true, true, true, true, true, true, true, true, false, false] rfl rfl (any_of HT_.out (by kernel_rfl)) (fun _ _ _ h => h) (Or.inl ⟨by rfl, ?_⟩) ?_ ?_
      rotate_left
      ·
       intro w'
       go_simp
       with_reducible rfl
      rotate_left
      ·
       simp only [Act.put, sA_, sB_, sC_, i64_w, i32_w]
       rfl
      exact norm_ z8_48_ (hCont (.slice Ao37 t252.length co37, .slice Ao38 t255.length co38, v259, gb262) _ ⟨hHeld, z8_41_, z8_40_, z8_39_, z8_2_, z8_3_, z8_5_, GW262.out, GE262.out, NB248_262.out, NB262_248.out, NB249_262.out, NB262_249.out, z8_9_⟩)
    ·
     skip
     refine box_step ?hg (N := 6) ?hd (cs := #[.slice none 0 0]) (t := 34) ?hr ?_; (case hd => rfl); (case hg => rfl); (case hr => first | (go_simp; done) | (go_simp; rfl))
     intro gb262 hg w34 hbox hb
     have _ := A_ (blk_below (g := gb248) (o := .cells #[.slice A0_0 l0_0.length c0_0] 24 (0, 0)) z8_2_ hb)
     have _ := A_ (blk_below (g := gb249) (o := .cells #[.slice A1_0 l1_0.length c1_0] 24 (0, 0)) z8_3_ hb)
     have _ := A_ (below_step z8_10_ hb)
     have _ := A_ (hbox)
     have _ := A_ ((by rw [hg]; exact (below_size z8_10_) : w.heap.size ≤ gb262))
     have _ := A_ ((by rw [hg]; exact (below_size z8_10_) : w.heap.size ≤ gb262))
     have _ := A_ ((by rw [hg]; exact Nat.ne_of_lt (blk_lt (g := gb248) (o := .cells #[.slice A0_0 l0_0.length c0_0] 24 (0, 0)) z8_2_) : gb248 ≠ gb262))
     have _ := A_ ((by rw [hg]; exact Nat.ne_of_gt (blk_lt (g := gb248) (o := .cells #[.slice A0_0 l0_0.length c0_0] 24 (0, 0)) z8_2_) : gb262 ≠ gb248))
     have _ := A_ ((by rw [hg]; exact Nat.ne_of_lt (blk_lt (g := gb249) (o := .cells #[.slice A1_0 l1_0.length c1_0] 24 (0, 0)) z8_3_) : gb249 ≠ gb262))
     have _ := A_ ((by rw [hg]; exact Nat.ne_of_gt (blk_lt (g := gb249) (o := .cells #[.slice A1_0 l1_0.length c1_0] 24 (0, 0)) z8_3_) : gb262 ≠ gb249))
     clear BK248 BK249 HB
     rename_i BK248 BK249 HB BK262 GW262 GE262 NB248_262 NB262_248 NB249_262 NB262_249
     clear hb hbox hg
     refine hK.out _ _ ⟨(blk_cell BK248.out 0).trans rfl, (blk_cell BK249.out 0).trans rfl⟩ (fun hHeld => ?_)
     clear hK K
     refine norm_ (a' := ?_) ?_ ?_
     rotate_left
     ·
      show Act.put _ (some 6) _ = _
      simp only [Act.put, sA_, sB_, sC_, i64_w, i32_w]
      rfl
     refine one_ (i := 1) (N := some 29) #[true, true, true, false, false, false, false, false, true, false, false] rfl rfl (one_of HT_.out (by kernel_rfl)) (by decide) (fun K hK => ?_)
     refine goes_ Try.func17 (by kernel_rfl) rfl #[.agg #[.slice A0_0 l0_0.length c0_0]] (by rfl) rfl rfl z8_7_ ?_
     with_reducible refine (laws_toTree.calls k _ _ l0_0 t252 _ ?side1 ?side2 A19.out).mono ?_
     (case side1 => have hx_ := (Kd.C_below HR0_0.out HB.out); exact kc_)
     (case side2 => exact HC0_0.out)
     rintro e w35 ⟨v253, rfl, ho0, hb⟩
     refine ⟨_, rfl, ?_⟩
     have _ := A_ (Kd.R_lower ho0 (below_size z8_9_))
     have _ := A_ (blk_below (g := gb248) (o := .cells #[.slice A0_0 l0_0.length c0_0] 24 (0, 0)) z8_2_ hb)
     have _ := A_ (blk_below (g := gb249) (o := .cells #[.slice A1_0 l1_0.length c1_0] 24 (0, 0)) z8_3_ hb)
     have _ := A_ (blk_below (g := gb262) (o := .cells #[.slice none 0 0] 34 (0, 0)) z8_5_ hb)
     have _ := A_ (below_step z8_9_ hb)
     clear BK248 BK249 BK262 HB
     rename_i HO254 BK248 BK249 BK262 HB
     (try clear hb)
     (try clear hb2)
     (try clear hk)
     (try clear hi)
     (try clear ho0)
     refine hK.out _ _ ⟨(blk_cell BK248.out 0).trans rfl, (blk_cell BK249.out 0).trans rfl⟩ (fun hHeld => ?_)
     clear hK K
     refine norm_ (a' := ?_) ?_ ?_
     rotate_left
     ·
      show Act.put _ (some 29) _ = _
      simp only [Act.put, sA_, sB_, sC_, i64_w, i32_w]
      rfl
     refine one_ (i := 3) (N := some 31) #[true, true, true, true, false, false, false, false, true, false, false] rfl rfl (one_of HT_.out (by kernel_rfl)) (by decide) (fun K hK => ?_)
     refine goes_ Try.func17 (by kernel_rfl) rfl #[.agg #[.slice A1_0 l1_0.length c1_0]] (by rfl) rfl rfl z8_7_ ?_
     with_reducible refine (laws_toTree.calls k _ _ l1_0 t255 _ ?side1 ?side2 A20.out).mono ?_
     (case side1 => have hx_ := (Kd.C_below HR1_0.out HB.out); exact kc_)
     (case side2 => exact HC1_0.out)
     rintro e w36 ⟨v256, rfl, ho0, hb⟩
     refine ⟨_, rfl, ?_⟩
     have _ := A_ (Kd.R_elder' z8_16_ (Kd.R_base ho0) hb)
     have _ := A_ (Kd.R_lower (Kd.R_new' ho0 (Kd.R_lt z8_16_)) (below_size z8_9_))
     have _ := A_ (blk_below (g := gb248) (o := .cells #[.slice A0_0 l0_0.length c0_0] 24 (0, 0)) z8_2_ hb)
     have _ := A_ (blk_below (g := gb249) (o := .cells #[.slice A1_0 l1_0.length c1_0] 24 (0, 0)) z8_3_ hb)
     have _ := A_ (blk_below (g := gb262) (o := .cells #[.slice none 0 0] 34 (0, 0)) z8_5_ hb)
     have _ := A_ (below_step z8_9_ hb)
     clear HO254 BK248 BK249 BK262 HB
     rename_i HO254 HO257 BK248 BK249 BK262 HB
     (try clear hb)
     (try clear hb2)
     (try clear hk)
     (try clear hi)
     (try clear ho0)
     obtain ⟨Ao37, co37, eo37⟩ := Kd.R_slice HO254.out
     (first | subst eo37 | (injection eo37 with f1_ f2_ f3_; have f4_ := f1_.symm; have f5_ := f3_.symm; clear f1_ f2_ f3_; subst f4_; subst f5_))
     obtain ⟨Ao38, co38, eo38⟩ := Kd.R_slice HO257.out
     (first | subst eo38 | (injection eo38 with f1_ f2_ f3_; have f4_ := f1_.symm; have f5_ := f3_.symm; clear f1_ f2_ f3_; subst f4_; subst f5_))
     refine hK.out _ _ ⟨(blk_cell BK248.out 0).trans rfl, (blk_cell BK249.out 0).trans rfl⟩ (fun hHeld => ?_)
     clear hK K
     refine norm_ (a' := ?_) ?_ ?_
     rotate_left
     ·
      show Act.put _ (some 31) _ = _
      simp only [Act.put, sA_, sB_, sC_, i64_w, i32_w]
      rfl
     refine one_ (i := 4) (N := some 32) #[true, true, true, true, true, false, false, false, true, false, false] rfl rfl (one_of HT_.out (by kernel_rfl)) (by decide) (fun K hK => ?_)
     refine goes_ Try.func29 (by kernel_rfl) rfl #[.agg #[.slice Ao37 t252.length co37], .agg #[.slice Ao38 t255.length co38]] (by rfl) rfl rfl z8_7_ ?_
     with_reducible refine (spec_ComposeTrees.calls k _ _ t252 _ _ t255 t258 t261 _ ?side1 ?side2 ?side3 ?side4 A21.out).mono ?_
     (case side1 => have hx_ := (Kd.R_reads' HO254.out).2.2; exact kc_)
     (case side2 => exact (Kd.R_reads' HO254.out).2.1)
     (case side3 => have hx_ := (Kd.R_reads' HO257.out).2.2; exact kc_)
     (case side4 => exact (Kd.R_reads' HO257.out).2.1)
     rintro e w39 ⟨v259, rfl, ho0, hb⟩
     refine ⟨_, rfl, ?_⟩
     have _ := A_ (Kd.R_elder' z8_16_ (Kd.R_base ho0) hb)
     have _ := A_ (Kd.R_elder' z8_20_ (Kd.R_base ho0) hb)
     have _ := A_ (Kd.R_lower (Kd.R_new' (Kd.R_new' ho0 (Kd.R_lt z8_16_)) (Kd.R_lt z8_20_)) (below_size z8_9_))
     have _ := A_ (blk_below (g := gb248) (o := .cells #[.slice A0_0 l0_0.length c0_0] 24 (0, 0)) z8_2_ hb)
     have _ := A_ (blk_below (g := gb249) (o := .cells #[.slice A1_0 l1_0.length c1_0] 24 (0, 0)) z8_3_ hb)
     have _ := A_ (blk_below (g := gb262) (o := .cells #[.slice none 0 0] 34 (0, 0)) z8_5_ hb)
     have _ := A_ (below_step z8_9_ hb)
     clear HO254 HO257 BK248 BK249 BK262 HB
     rename_i HO254 HO257 HO260 BK248 BK249 BK262 HB
     (try clear hb)
     (try clear hb2)
     (try clear hk)
     (try clear hi)
     (try clear ho0)
     refine hK.out _ _ ⟨(blk_cell BK248.out 0).trans rfl, (blk_cell BK249.out 0).trans rfl⟩ (fun hHeld => ?_)
     clear hK K
     refine norm_ (a' := ?_) ?_ ?_
     rotate_left
     ·
      show Act.put _ (some 32) _ = _
      simp only [Act.put, sA_, sB_, sC_, i64_w, i32_w]
      rfl
     refine pure_ (i := 5) (N := some 27) (v := ?_) (a' := ?_) #[true, true, true, true, true, true, false, false, true, false, false] rfl rfl (any_of HT_.out (by kernel_rfl)) (fun _ _ _ h => h) (Or.inl ⟨by rfl, ?_⟩) ?_ ?_
     rotate_left
     ·
      intro w'
      go_simp
      with_reducible rfl
     rotate_left
     ·
      simp only [Act.put, sA_, sB_, sC_, i64_w, i32_w]
      rfl
     refine pure_ (i := 6) (N := some 33) (v := ?_) (a' := ?_) #[true, true, true, true, true, true, true, false, true, false, false] rfl rfl (any_of HT_.out (by kernel_rfl)) (fun _ _ _ h => h) (Or.inl ⟨by rfl, ?_⟩) ?_ ?_
     rotate_left
     ·
      intro w'
      go_simp
      with_reducible rfl
     rotate_left
     ·
      simp only [Act.put, sA_, sB_, sC_, i64_w, i32_w]
      rfl
     refine pure_ (i := 7) (N := some 34) (v := ?_) (a' := ?_) #[true, true, true, true, true, true, true, true, true, false, false] rfl rfl (any_of HT_.out (by kernel_rfl)) (fun _ _ _ h => h) (Or.inl ⟨by rfl, ?_⟩) ?_ ?_
     rotate_left
     ·
      intro w'
      go_simp
      with_reducible rfl
     rotate_left
     ·
      simp only [Act.put, sA_, sB_, sC_, i64_w, i32_w]
      rfl
     exact norm_ z8_48_ (hCont (.slice Ao37 t252.length co37, .slice Ao38 t255.length co38, v259, gb262) _ ⟨hHeld, z8_41_, z8_40_, z8_39_, z8_2_, z8_3_, z8_5_, GW262.out, GE262.out, NB248_262.out, NB262_248.out, NB249_262.out, NB262_249.out, z8_9_⟩)
   rintro ⟨v253, v256, v259, gb262⟩ w40 ⟨hS_, h0_, h1_, h2_, h3_, h4_, h5_, h6_, h7_, h8_, h9_, h10_, h11_, h12_⟩
   have n0_ : Aside0 (Kd.R k89 89 w40 w.heap.size (fun k_ => some k_ ≠ (v256 : Value).ownBlock ∧ some k_ ≠ (v259 : Value).ownBlock) v253 t252) := ⟨h0_⟩
   have n1_ : Aside0 (Kd.R k89 89 w40 w.heap.size (fun k_ => some k_ ≠ (v253 : Value).ownBlock ∧ some k_ ≠ (v259 : Value).ownBlock) v256 t255) := ⟨h1_⟩
   have n2_ : Aside0 (Kd.R k89 89 w40 w.heap.size (fun k_ => some k_ ≠ (v253 : Value).ownBlock ∧ some k_ ≠ (v256 : Value).ownBlock) v259 t258) := ⟨h2_⟩
   have n3_ : Aside0 (w40.heap[gb248]? = some (.cells #[.slice A0_0 l0_0.length c0_0] 24 (0, 0))) := ⟨h3_⟩
   have n4_ : Aside0 (w40.heap[gb249]? = some (.cells #[.slice A1_0 l1_0.length c1_0] 24 (0, 0))) := ⟨h4_⟩
   have n5_ : Aside0 (w40.heap[gb262]? = some (.cells #[.slice none 0 0] 34 (0, 0))) := ⟨h5_⟩
   have n6_ : Aside0 (w.heap.size ≤ gb262) := ⟨h6_⟩
   have n7_ : Aside0 (w.heap.size ≤ gb262) := ⟨h7_⟩
   have n8_ : Aside0 (gb248 ≠ gb262) := ⟨h8_⟩
   have n9_ : Aside0 (gb262 ≠ gb248) := ⟨h9_⟩
   have n10_ : Aside0 (gb249 ≠ gb262) := ⟨h10_⟩
   have n11_ : Aside0 (gb262 ≠ gb249) := ⟨h11_⟩
   have n12_ : Aside0 (Below w.heap.size w w40) := ⟨h12_⟩
   clear BK248
   clear BK249
   clear HB
   clear h0_ h1_ h2_ h3_ h4_ h5_ h6_ h7_ h8_ h9_ h10_ h11_ h12_
   have HO254 := n0_
   have HO257 := n1_
   have HO260 := n2_
   have BK248 := n3_
   have BK249 := n4_
   have BK262 := n5_
   have GW262 := n6_
   have GE262 := n7_
   have NB248_262 := n8_
   have NB262_248 := n9_
   have NB249_262 := n10_
   have NB262_249 := n11_
   have HB := n12_
   clear n0_ n1_ n2_ n3_ n4_ n5_ n6_ n7_ n8_ n9_ n10_ n11_ n12_
   have hHeld : w40.cell? ⟨gb248, 0, none⟩ = some (.slice A0_0 l0_0.length c0_0) ∧ w40.cell? ⟨gb249, 0, none⟩ = some (.slice A1_0 l1_0.length c1_0) := hS_
   obtain ⟨Ao41, co41, eo41⟩ := Kd.R_slice HO260.out
   (first | subst eo41 | (injection eo41 with f1_ f2_ f3_; have f4_ := f1_.symm; have f5_ := f3_.symm; clear f1_ f2_ f3_; subst f4_; subst f5_))
   refine norm_ (a' := ?_) ?_ ?_
   rotate_left
   ·
    simp only [putAll, Act.put, sA_, sB_, sC_]
    rfl
   refine one_ (i := 9) (N := none) #[true, true, true, true, true, true, true, true, true, true, false] rfl rfl (one_of HT_.out (by kernel_rfl)) (by decide) (fun K hK => ?_)
   have hs42 : w40.cell? ⟨gb262, 0, none⟩ = some (.slice none 0 0) := (blk_cell BK262.out 0).trans rfl
   have hfs42 := blk_frozen BK262.out 0
   have hns42_0 := NB248_262.out
   have hns42_1 := NB249_262.out
   have hms42_0 := NB262_248.out
   have hms42_1 := NB262_249.out
   refine skip_ (w1 := ?_) (by rfl) rfl ?_ ?_
   rotate_left
   ·
    go_simp
    rfl
   refine hK.out _ _ ⟨((cell_far (p := ⟨gb262, _, none⟩) NB248_262.out _).trans (hHeld.1)), ((cell_far (p := ⟨gb262, _, none⟩) NB249_262.out _).trans (hHeld.2))⟩ (fun hHeld => ?_)
   clear hK K
   refine pure_ (i := 10) (N := some 7) (v := ?_) (a' := ?_) #[true, true, true, true, true, true, true, true, true, true, true] rfl rfl (any_of HT_.out (by kernel_rfl)) (fun _ _ _ h => h) (Or.inl ⟨by rfl, ?_⟩) ?_ ?_
   rotate_left
   ·
    intro w'
    go_simp
    with_reducible rfl
   rotate_left
   ·
    simp only [Act.put, sA_, sB_, sC_, i64_w, i32_w]
    rfl
   refine done_ (done_of HT_.out (by kernel_rfl)) ?_
   have hnb43 := NB248_262.out
   have hnc43 := NB262_248.out
   have hcz44_0 : w40.cell? ⟨gb248, 0, none⟩ = some (.slice A0_0 l0_0.length c0_0) := (blk_cell BK248.out 0).trans rfl
   have hfz44_0 := blk_frozen BK248.out 0
   go_upto_region 12 with (first | ((with_reducible refine gate_callee (f := 17) rfl ?_); refine goesL_ (some 36) rfl rfl Try.func17 (by kernel_rfl) rfl #[.agg #[.slice A0_0 l0_0.length c0_0]] rfl z8_7_ ?_; (with_reducible refine (laws_toTree.calls k _ _ l0_0 t263 _ ?side1 ?side2 A22.out).mono ?_); (case side1 => exact Kd.C_below HR0_0.out z8_9_); (case side2 => exact HC0_0.out); rintro e w45 ⟨v264, rfl, ho0, hb⟩; refine ⟨_, rfl, ?_⟩; have _ := A_ (Kd.R_elder' z8_69_ (Kd.R_base ho0) hb); have _ := A_ (Kd.R_elder' z8_68_ (Kd.R_base ho0) hb); have _ := A_ (Kd.R_elder' z8_67_ (Kd.R_base ho0) hb); have _ := A_ (Kd.R_lower (Kd.R_new' (Kd.R_new' (Kd.R_new' ho0 (Kd.R_lt z8_69_)) (Kd.R_lt z8_68_)) (Kd.R_lt z8_67_)) (below_size z8_9_)); have _ := A_ (blk_below (g := gb248) (o := .cells #[.slice A0_0 l0_0.length c0_0] 24 (0, 0)) (by (with_reducible repeat (first | refine blk_drewN ?_ _ | refine blk_drew ?_ | refine blk_alloc ?_ _)); refine blk_far ?_ NB248_262.out _; (with_reducible repeat (first | refine blk_drewN ?_ _ | refine blk_drew ?_ | refine blk_alloc ?_ _)); exact BK248.out) hb); have _ := A_ (blk_below (g := gb249) (o := .cells #[.slice A1_0 l1_0.length c1_0] 24 (0, 0)) (by (with_reducible repeat (first | refine blk_drewN ?_ _ | refine blk_drew ?_ | refine blk_alloc ?_ _)); refine blk_far ?_ NB249_262.out _; (with_reducible repeat (first | refine blk_drewN ?_ _ | refine blk_drew ?_ | refine blk_alloc ?_ _)); exact BK249.out) hb); have _ := A_ (blk_below (g := gb262) (o := .cells #[.slice Ao41 t258.length co41] 34 (0, 0)) (by (with_reducible repeat (first | refine blk_drewN ?_ _ | refine blk_drew ?_ | refine blk_alloc ?_ _)); refine blk_put (cs := #[.slice none 0 0]) ?_ 0 _ rfl; (with_reducible repeat (first | refine blk_drewN ?_ _ | refine blk_drew ?_ | refine blk_alloc ?_ _)); exact BK262.out) hb); have _ := A_ (below_step z8_9_ hb); clear HO254 HO257 HO260 BK248 BK249 BK262 HB; rename_i HO254 HO257 HO260 HO265 BK248 BK249 BK262 HB; (try clear hb); (try clear ho0)) | ((with_reducible refine gate_dst (N := 8) rfl ?_); refine box_event ?hg (N := 8) ?hd (cs := #[.slice none 0 0]) (t := 34) ?hr ?_; (case hd => rfl); (case hg => rfl); (case hr => first | (go_simp; done) | (go_simp; rfl)); intro gb266 hg w46 hbox hb; have _ := A_ (Kd.R_below z8_16_ hb); have _ := A_ (Kd.R_below z8_20_ hb); have _ := A_ (Kd.R_below z8_47_ hb); have _ := A_ (Kd.R_below z8_87_ hb); have _ := A_ (blk_below (g := gb248) (o := .cells #[.slice A0_0 l0_0.length c0_0] 24 (0, 0)) z8_2_ hb); have _ := A_ (blk_below (g := gb249) (o := .cells #[.slice A1_0 l1_0.length c1_0] 24 (0, 0)) z8_3_ hb); have _ := A_ (blk_below (g := gb262) (o := .cells #[.slice Ao41 t258.length co41] 34 (0, 0)) z8_5_ hb); have _ := A_ (below_step z8_9_ hb); have _ := A_ (hbox); have _ := A_ ((by rw [hg]; exact (below_size z8_9_) : w.heap.size ≤ gb266)); have _ := A_ ((by rw [hg]; exact (below_size z8_9_) : w.heap.size ≤ gb266)); have _ := A_ ((by rw [hg]; exact Nat.ne_of_lt (blk_lt (g := gb248) (o := .cells #[.slice A0_0 l0_0.length c0_0] 24 (0, 0)) z8_2_) : gb248 ≠ gb266)); have _ := A_ ((by rw [hg]; exact Nat.ne_of_gt (blk_lt (g := gb248) (o := .cells #[.slice A0_0 l0_0.length c0_0] 24 (0, 0)) z8_2_) : gb266 ≠ gb248)); have _ := A_ ((by rw [hg]; exact Nat.ne_of_lt (blk_lt (g := gb249) (o := .cells #[.slice A1_0 l1_0.length c1_0] 24 (0, 0)) z8_3_) : gb249 ≠ gb266)); have _ := A_ ((by rw [hg]; exact Nat.ne_of_gt (blk_lt (g := gb249) (o := .cells #[.slice A1_0 l1_0.length c1_0] 24 (0, 0)) z8_3_) : gb266 ≠ gb249)); have _ := A_ ((by rw [hg]; exact Nat.ne_of_lt (blk_lt (g := gb262) (o := .cells #[.slice Ao41 t258.length co41] 34 (0, 0)) z8_5_) : gb262 ≠ gb266)); have _ := A_ ((by rw [hg]; exact Nat.ne_of_gt (blk_lt (g := gb262) (o := .cells #[.slice Ao41 t258.length co41] 34 (0, 0)) z8_5_) : gb266 ≠ gb262)); clear HO254 HO257 HO260 HO265 BK248 BK249 BK262 HB; rename_i HO254 HO257 HO260 HO265 BK248 BK249 BK262 HB BK266 GW266 GE266 NB248_266 NB266_248 NB249_266 NB266_249 NB262_266 NB266_262; clear hb hbox hg; obtain ⟨Ao47, co47, eo47⟩ := Kd.R_slice HO265.out; subst eo47; have hnb48 := NB266_248.out; have hnc48 := NB248_266.out; have hnb49 := NB266_249.out; have hnc49 := NB249_266.out; have hnb50 := NB266_262.out; have hnc50 := NB262_266.out; have hcz51_0 : w46.cell? ⟨gb266, 0, none⟩ = some (.slice none 0 0) := (blk_cell BK266.out 0).trans rfl; have hfz51_0 := blk_frozen BK266.out 0; have hnb52 := NB249_262.out; have hnc52 := NB262_249.out; have hcz53_0 : w46.cell? ⟨gb249, 0, none⟩ = some (.slice A1_0 l1_0.length c1_0) := (blk_cell BK249.out 0).trans rfl; have hfz53_0 := blk_frozen BK249.out 0) | ((with_reducible refine gate_callee (f := 17) rfl ?_); refine goesL_ (some 38) rfl rfl Try.func17 (by kernel_rfl) rfl #[.agg #[.slice A1_0 l1_0.length c1_0]] rfl z8_7_ ?_; (with_reducible refine (laws_toTree.calls k _ _ l1_0 t267 _ ?side1 ?side2 A23.out).mono ?_); (case side1 => exact Kd.C_below HR1_0.out z8_19_); (case side2 => exact HC1_0.out); rintro e w54 ⟨v268, rfl, ho0, hb⟩; refine ⟨_, rfl, ?_⟩; have _ := A_ (Kd.R_elder' z8_66_ (Kd.R_base ho0) hb); have _ := A_ (Kd.R_elder' z8_65_ (Kd.R_base ho0) hb); have _ := A_ (Kd.R_elder' z8_64_ (Kd.R_base ho0) hb); have _ := A_ (Kd.R_elder' z8_63_ (Kd.R_base ho0) hb); have _ := A_ (Kd.R_lower (Kd.R_new' (Kd.R_new' (Kd.R_new' (Kd.R_new' ho0 (Kd.R_lt z8_66_)) (Kd.R_lt z8_65_)) (Kd.R_lt z8_64_)) (Kd.R_lt z8_63_)) (below_size z8_19_)); have _ := A_ (blk_below (g := gb248) (o := .cells #[.slice A0_0 l0_0.length c0_0] 24 (0, 0)) (by (with_reducible repeat (first | refine blk_drewN ?_ _ | refine blk_drew ?_ | refine blk_alloc ?_ _)); refine blk_far ?_ NB248_266.out _; (with_reducible repeat (first | refine blk_drewN ?_ _ | refine blk_drew ?_ | refine blk_alloc ?_ _)); exact BK248.out) hb); have _ := A_ (blk_below (g := gb249) (o := .cells #[.slice A1_0 l1_0.length c1_0] 24 (0, 0)) (by (with_reducible repeat (first | refine blk_drewN ?_ _ | refine blk_drew ?_ | refine blk_alloc ?_ _)); refine blk_far ?_ NB249_266.out _; (with_reducible repeat (first | refine blk_drewN ?_ _ | refine blk_drew ?_ | refine blk_alloc ?_ _)); exact BK249.out) hb); have _ := A_ (blk_below (g := gb262) (o := .cells #[.slice Ao41 t258.length co41] 34 (0, 0)) (by (with_reducible repeat (first | refine blk_drewN ?_ _ | refine blk_drew ?_ | refine blk_alloc ?_ _)); refine blk_far ?_ NB262_266.out _; (with_reducible repeat (first | refine blk_drewN ?_ _ | refine blk_drew ?_ | refine blk_alloc ?_ _)); exact BK262.out) hb); have _ := A_ (blk_below (g := gb266) (o := .cells #[.slice Ao47 t263.length co47] 34 (0, 0)) (by (with_reducible repeat (first | refine blk_drewN ?_ _ | refine blk_drew ?_ | refine blk_alloc ?_ _)); refine blk_put (cs := #[.slice none 0 0]) ?_ 0 _ rfl; (with_reducible repeat (first | refine blk_drewN ?_ _ | refine blk_drew ?_ | refine blk_alloc ?_ _)); exact BK266.out) hb); have _ := A_ (below_step z8_19_ hb); clear HO254 HO257 HO260 HO265 BK248 BK249 BK262 BK266 HB; rename_i HO254 HO257 HO260 HO265 HO269 BK248 BK249 BK262 BK266 HB; (try clear hb); (try clear ho0)) | ((with_reducible refine gate_dst (N := 9) rfl ?_); refine box_event ?hg (N := 9) ?hd (cs := #[.slice none 0 0]) (t := 34) ?hr ?_; (case hd => rfl); (case hg => rfl); (case hr => first | (go_simp; done) | (go_simp; rfl)); intro gb270 hg w55 hbox hb; have _ := A_ (Kd.R_below z8_16_ hb); have _ := A_ (Kd.R_below z8_20_ hb); have _ := A_ (Kd.R_below z8_47_ hb); have _ := A_ (Kd.R_below z8_87_ hb); have _ := A_ (Kd.R_below z8_101_ hb); have _ := A_ (blk_below (g := gb248) (o := .cells #[.slice A0_0 l0_0.length c0_0] 24 (0, 0)) z8_2_ hb); have _ := A_ (blk_below (g := gb249) (o := .cells #[.slice A1_0 l1_0.length c1_0] 24 (0, 0)) z8_3_ hb); have _ := A_ (blk_below (g := gb262) (o := .cells #[.slice Ao41 t258.length co41] 34 (0, 0)) z8_5_ hb); have _ := A_ (blk_below (g := gb266) (o := .cells #[.slice Ao47 t263.length co47] 34 (0, 0)) z8_6_ hb); have _ := A_ (below_step z8_19_ hb); have _ := A_ (hbox); have _ := A_ ((by rw [hg]; exact (below_size z8_19_) : w.heap.size ≤ gb270)); have _ := A_ ((by rw [hg]; exact (below_size z8_19_) : w.heap.size ≤ gb270)); have _ := A_ ((by rw [hg]; exact Nat.ne_of_lt (blk_lt (g := gb248) (o := .cells #[.slice A0_0 l0_0.length c0_0] 24 (0, 0)) z8_2_) : gb248 ≠ gb270)); have _ := A_ ((by rw [hg]; exact Nat.ne_of_gt (blk_lt (g := gb248) (o := .cells #[.slice A0_0 l0_0.length c0_0] 24 (0, 0)) z8_2_) : gb270 ≠ gb248)); have _ := A_ ((by rw [hg]; exact Nat.ne_of_lt (blk_lt (g := gb249) (o := .cells #[.slice A1_0 l1_0.length c1_0] 24 (0, 0)) z8_3_) : gb249 ≠ gb270)); have _ := A_ ((by rw [hg]; exact Nat.ne_of_gt (blk_lt (g := gb249) (o := .cells #[.slice A1_0 l1_0.length c1_0] 24 (0, 0)) z8_3_) : gb270 ≠ gb249)); have _ := A_ ((by rw [hg]; exact Nat.ne_of_lt (blk_lt (g := gb262) (o := .cells #[.slice Ao41 t258.length co41] 34 (0, 0)) z8_5_) : gb262 ≠ gb270)); have _ := A_ ((by rw [hg]; exact Nat.ne_of_gt (blk_lt (g := gb262) (o := .cells #[.slice Ao41 t258.length co41] 34 (0, 0)) z8_5_) : gb270 ≠ gb262)); have _ := A_ ((by rw [hg]; exact Nat.ne_of_lt (blk_lt (g := gb266) (o := .cells #[.slice Ao47 t263.length co47] 34 (0, 0)) z8_6_) : gb266 ≠ gb270)); have _ := A_ ((by rw [hg]; exact Nat.ne_of_gt (blk_lt (g := gb266) (o := .cells #[.slice Ao47 t263.length co47] 34 (0, 0)) z8_6_) : gb270 ≠ gb266)); clear HO254 HO257 HO260 HO265 HO269 BK248 BK249 BK262 BK266 HB; rename_i HO254 HO257 HO260 HO265 HO269 BK248 BK249 BK262 BK266 HB BK270 GW270 GE270 NB248_270 NB270_248 NB249_270 NB270_249 NB262_270 NB270_262 NB266_270 NB270_266; clear hb hbox hg; obtain ⟨Ao56, co56, eo56⟩ := Kd.R_slice HO269.out; subst eo56; have hnb57 := NB270_248.out; have hnc57 := NB248_270.out; have hnb58 := NB270_249.out; have hnc58 := NB249_270.out; have hnb59 := NB270_262.out; have hnc59 := NB262_270.out; have hnb60 := NB270_266.out; have hnc60 := NB266_270.out; have hcz61_0 : w55.cell? ⟨gb270, 0, none⟩ = some (.slice none 0 0) := (blk_cell BK270.out 0).trans rfl; have hfz61_0 := blk_frozen BK270.out 0; have hcz62_0 : w55.cell? ⟨gb266, 0, none⟩ = some (.slice Ao47 t263.length co47) := (blk_cell BK266.out 0).trans rfl; have hfz62_0 := blk_frozen BK266.out 0) | ((with_reducible refine gate_callee (f := 30) rfl ?_); refine goesL_ (some 42) rfl rfl Try.func30 (by kernel_rfl) rfl #[.agg #[.slice Ao47 t263.length co47], .agg #[.slice Ao56 t267.length co56]] rfl z8_7_ ?_; (with_reducible refine (impl_ComposeTrees.calls k _ _ t263 _ _ t267 t271 t274 _ ?side1 ?side2 ?side3 ?side4 A24.out).mono ?_); (case side1 => refine (Kd.R_reads' (e := 89) (base := w.heap.size) (ok := fun k_ => ((((True ∧ some k_ ≠ (v253 : Value).ownBlock) ∧ some k_ ≠ (v256 : Value).ownBlock) ∧ some k_ ≠ (.slice Ao41 t258.length co41 : Value).ownBlock) ∧ some k_ ≠ (.slice Ao56 t267.length co56 : Value).ownBlock)) (n := t263.length) (c := co47) ?_).2.2; exact z8_38_); (case side2 => exact (Kd.R_reads' HO265.out).2.1); (case side3 => refine (Kd.R_reads' (e := 89) (base := w.heap.size) (ok := fun k_ => ((((True ∧ some k_ ≠ (v253 : Value).ownBlock) ∧ some k_ ≠ (v256 : Value).ownBlock) ∧ some k_ ≠ (.slice Ao41 t258.length co41 : Value).ownBlock) ∧ some k_ ≠ (.slice Ao47 t263.length co47 : Value).ownBlock)) (n := t267.length) (c := co56) ?_).2.2; exact z8_37_); (case side4 => exact (Kd.R_reads' HO269.out).2.1); rintro e w63 ⟨v272, rfl, ho0, hb⟩; refine ⟨_, rfl, ?_⟩; have _ := A_ (Kd.R_elder' z8_62_ (Kd.R_base ho0) hb); have _ := A_ (Kd.R_elder' z8_61_ (Kd.R_base ho0) hb); have _ := A_ (Kd.R_elder' z8_60_ (Kd.R_base ho0) hb); have _ := A_ (Kd.R_elder' z8_38_ (Kd.R_base ho0) hb); have _ := A_ (Kd.R_elder' z8_37_ (Kd.R_base ho0) hb); have _ := A_ (Kd.R_lower (Kd.R_new' (Kd.R_new' (Kd.R_new' (Kd.R_new' (Kd.R_new' ho0 (Kd.R_lt z8_62_)) (Kd.R_lt z8_61_)) (Kd.R_lt z8_60_)) (Kd.R_lt z8_38_)) (Kd.R_lt z8_37_)) (below_size z8_21_)); have _ := A_ (blk_below (g := gb248) (o := .cells #[.slice A0_0 l0_0.length c0_0] 24 (0, 0)) (by (with_reducible repeat (first | refine blk_drewN ?_ _ | refine blk_drew ?_ | refine blk_alloc ?_ _)); refine blk_far ?_ NB248_270.out _; (with_reducible repeat (first | refine blk_drewN ?_ _ | refine blk_drew ?_ | refine blk_alloc ?_ _)); exact BK248.out) hb); have _ := A_ (blk_below (g := gb249) (o := .cells #[.slice A1_0 l1_0.length c1_0] 24 (0, 0)) (by (with_reducible repeat (first | refine blk_drewN ?_ _ | refine blk_drew ?_ | refine blk_alloc ?_ _)); refine blk_far ?_ NB249_270.out _; (with_reducible repeat (first | refine blk_drewN ?_ _ | refine blk_drew ?_ | refine blk_alloc ?_ _)); exact BK249.out) hb); have _ := A_ (blk_below (g := gb262) (o := .cells #[.slice Ao41 t258.length co41] 34 (0, 0)) (by (with_reducible repeat (first | refine blk_drewN ?_ _ | refine blk_drew ?_ | refine blk_alloc ?_ _)); refine blk_far ?_ NB262_270.out _; (with_reducible repeat (first | refine blk_drewN ?_ _ | refine blk_drew ?_ | refine blk_alloc ?_ _)); exact BK262.out) hb); have _ := A_ (blk_below (g := gb266) (o := .cells #[.slice Ao47 t263.length co47] 34 (0, 0)) (by (with_reducible repeat (first | refine blk_drewN ?_ _ | refine blk_drew ?_ | refine blk_alloc ?_ _)); refine blk_far ?_ NB266_270.out _; (with_reducible repeat (first | refine blk_drewN ?_ _ | refine blk_drew ?_ | refine blk_alloc ?_ _)); exact BK266.out) hb); have _ := A_ (blk_below (g := gb270) (o := .cells #[.slice Ao56 t267.length co56] 34 (0, 0)) (by (with_reducible repeat (first | refine blk_drewN ?_ _ | refine blk_drew ?_ | refine blk_alloc ?_ _)); refine blk_put (cs := #[.slice none 0 0]) ?_ 0 _ rfl; (with_reducible repeat (first | refine blk_drewN ?_ _ | refine blk_drew ?_ | refine blk_alloc ?_ _)); exact BK270.out) hb); have _ := A_ (below_step z8_21_ hb); clear HO254 HO257 HO260 HO265 HO269 BK248 BK249 BK262 BK266 BK270 HB; rename_i HO254 HO257 HO260 HO265 HO269 HO273 BK248 BK249 BK262 BK266 BK270 HB; (try clear hb); (try clear ho0)) | ((with_reducible refine gate_dst (N := 10) rfl ?_); refine box_event ?hg (N := 10) ?hd (cs := #[.slice none 0 0]) (t := 34) ?hr ?_; (case hd => rfl); (case hg => rfl); (case hr => first | (go_simp; done) | (go_simp; rfl)); intro gb275 hg w64 hbox hb; have _ := A_ (Kd.R_below z8_16_ hb); have _ := A_ (Kd.R_below z8_20_ hb); have _ := A_ (Kd.R_below z8_47_ hb); have _ := A_ (Kd.R_below z8_87_ hb); have _ := A_ (Kd.R_below z8_101_ hb); have _ := A_ (Kd.R_below (by (with_reducible repeat (first | apply Kd.R_alloc | apply Kd.R_drewN | apply Kd.R_drew)); exact HO273.out) hb); have _ := A_ (blk_below (g := gb248) (o := .cells #[.slice A0_0 l0_0.length c0_0] 24 (0, 0)) z8_2_ hb); have _ := A_ (blk_below (g := gb249) (o := .cells #[.slice A1_0 l1_0.length c1_0] 24 (0, 0)) z8_3_ hb); have _ := A_ (blk_below (g := gb262) (o := .cells #[.slice Ao41 t258.length co41] 34 (0, 0)) z8_5_ hb); have _ := A_ (blk_below (g := gb266) (o := .cells #[.slice Ao47 t263.length co47] 34 (0, 0)) z8_6_ hb); have _ := A_ (blk_below (g := gb270) (o := .cells #[.slice Ao56 t267.length co56] 34 (0, 0)) z8_8_ hb); have _ := A_ (below_step z8_21_ hb); have _ := A_ (hbox); have _ := A_ ((by rw [hg]; exact (below_size z8_21_) : w.heap.size ≤ gb275)); have _ := A_ ((by rw [hg]; exact (below_size z8_21_) : w.heap.size ≤ gb275)); have _ := A_ ((by rw [hg]; exact Nat.ne_of_lt (blk_lt (g := gb248) (o := .cells #[.slice A0_0 l0_0.length c0_0] 24 (0, 0)) z8_2_) : gb248 ≠ gb275)); have _ := A_ ((by rw [hg]; exact Nat.ne_of_gt (blk_lt (g := gb248) (o := .cells #[.slice A0_0 l0_0.length c0_0] 24 (0, 0)) z8_2_) : gb275 ≠ gb248)); have _ := A_ ((by rw [hg]; exact Nat.ne_of_lt (blk_lt (g := gb249) (o := .cells #[.slice A1_0 l1_0.length c1_0] 24 (0, 0)) z8_3_) : gb249 ≠ gb275)); have _ := A_ ((by rw [hg]; exact Nat.ne_of_gt (blk_lt (g := gb249) (o := .cells #[.slice A1_0 l1_0.length c1_0] 24 (0, 0)) z8_3_) : gb275 ≠ gb249)); have _ := A_ ((by rw [hg]; exact Nat.ne_of_lt (blk_lt (g := gb262) (o := .cells #[.slice Ao41 t258.length co41] 34 (0, 0)) z8_5_) : gb262 ≠ gb275)); have _ := A_ ((by rw [hg]; exact Nat.ne_of_gt (blk_lt (g := gb262) (o := .cells #[.slice Ao41 t258.length co41] 34 (0, 0)) z8_5_) : gb275 ≠ gb262)); have _ := A_ ((by rw [hg]; exact Nat.ne_of_lt (blk_lt (g := gb266) (o := .cells #[.slice Ao47 t263.length co47] 34 (0, 0)) z8_6_) : gb266 ≠ gb275)); have _ := A_ ((by rw [hg]; exact Nat.ne_of_gt (blk_lt (g := gb266) (o := .cells #[.slice Ao47 t263.length co47] 34 (0, 0)) z8_6_) : gb275 ≠ gb266)); have _ := A_ ((by rw [hg]; exact Nat.ne_of_lt (blk_lt (g := gb270) (o := .cells #[.slice Ao56 t267.length co56] 34 (0, 0)) z8_8_) : gb270 ≠ gb275)); have _ := A_ ((by rw [hg]; exact Nat.ne_of_gt (blk_lt (g := gb270) (o := .cells #[.slice Ao56 t267.length co56] 34 (0, 0)) z8_8_) : gb275 ≠ gb270)); clear HO254 HO257 HO260 HO265 HO269 HO273 BK248 BK249 BK262 BK266 BK270 HB; rename_i HO254 HO257 HO260 HO265 HO269 HO273 BK248 BK249 BK262 BK266 BK270 HB BK275 GW275 GE275 NB248_275 NB275_248 NB249_275 NB275_249 NB262_275 NB275_262 NB266_275 NB275_266 NB270_275 NB275_270; clear hb hbox hg; obtain ⟨Ao65, co65, eo65⟩ := Kd.R_slice HO273.out; subst eo65; have hnb66 := NB275_248.out; have hnc66 := NB248_275.out; have hnb67 := NB275_249.out; have hnc67 := NB249_275.out; have hnb68 := NB275_262.out; have hnc68 := NB262_275.out; have hnb69 := NB275_266.out; have hnc69 := NB266_275.out; have hnb70 := NB275_270.out; have hnc70 := NB270_275.out; have hcz71_0 : w64.cell? ⟨gb275, 0, none⟩ = some (.slice none 0 0) := (blk_cell BK275.out 0).trans rfl; have hfz71_0 := blk_frozen BK275.out 0))
   (try simp only [Act.put, sA_, sB_, sC_])
   go_cut [53] (fun v53 wc => ∃ (kq : Nat) (x53_24 : Bool), v53 = .bool x53_24 ∧ Aside0 (laws_FnExactComposeTrees.j0 kq t261 t274 x53_24 l0_0 l1_0 t258 t263 t267 t271 = some true) ∧ Aside0 (kq ≤ k) ∧ Aside0 (Kd.R k89 89 wc w.heap.size (fun k_ => some k_ ≠ ((.slice Ao47 t263.length co47) : Value).ownBlock ∧ some k_ ≠ ((.slice Ao56 t267.length co56) : Value).ownBlock ∧ some k_ ≠ ((.slice Ao65 t271.length co65) : Value).ownBlock) (.slice Ao41 t258.length co41) t258) ∧ Aside0 (Kd.R k89 89 wc w.heap.size (fun k_ => some k_ ≠ ((.slice Ao41 t258.length co41) : Value).ownBlock ∧ some k_ ≠ ((.slice Ao56 t267.length co56) : Value).ownBlock ∧ some k_ ≠ ((.slice Ao65 t271.length co65) : Value).ownBlock) (.slice Ao47 t263.length co47) t263) ∧ Aside0 (Kd.R k89 89 wc w.heap.size (fun k_ => some k_ ≠ ((.slice Ao41 t258.length co41) : Value).ownBlock ∧ some k_ ≠ ((.slice Ao47 t263.length co47) : Value).ownBlock ∧ some k_ ≠ ((.slice Ao65 t271.length co65) : Value).ownBlock) (.slice Ao56 t267.length co56) t267) ∧ Aside0 (Kd.R k89 89 wc w.heap.size (fun k_ => some k_ ≠ ((.slice Ao41 t258.length co41) : Value).ownBlock ∧ some k_ ≠ ((.slice Ao47 t263.length co47) : Value).ownBlock ∧ some k_ ≠ ((.slice Ao56 t267.length co56) : Value).ownBlock) (.slice Ao65 t271.length co65) t271) ∧ Aside0 (wc.heap[gb248]? = some (.cells #[(.slice A0_0 l0_0.length c0_0)] 24 (0, 0))) ∧ Aside0 (wc.heap[gb249]? = some (.cells #[(.slice A1_0 l1_0.length c1_0)] 24 (0, 0))) ∧ Aside0 (wc.heap[gb262]? = some (.cells #[(.slice Ao41 t258.length co41)] 34 (0, 0))) ∧ Aside0 (wc.heap[gb266]? = some (.cells #[(.slice Ao47 t263.length co47)] 34 (0, 0))) ∧ Aside0 (wc.heap[gb270]? = some (.cells #[(.slice Ao56 t267.length co56)] 34 (0, 0))) ∧ Aside0 (wc.heap[gb275]? = some (.cells #[(.slice Ao65 t271.length co65)] 34 (0, 0))) ∧ Aside0 (Below w.heap.size w wc))
   case first =>
    have H := HC25.out
    clear HC25
    replace H := Option.bind_eq_some_iff.mp H
    obtain ⟨t276, A720, H⟩ := H
    try dsimp only at H
    have A72 := A_ A720
    clear A720
    by_cases c73 : t276 = true
    ·
     subst c73
     have H1 : (laws_FnExactComposeTrees.j0 k t261 t274 (t274 != t261) l0_0 l1_0 t258 t263 t267 t271) = some true := by first | (rw [if_pos rfl] at H; exact H) | rfl
     clear H
     have H := H1
     clear H1
     have H' := A_ H
     clear H
     have hnb74 := NB275_248.out
     have hnc74 := NB248_275.out
     have hnb75 := NB275_249.out
     have hnc75 := NB249_275.out
     have hnb76 := NB275_262.out
     have hnc76 := NB262_275.out
     have hnb77 := NB275_266.out
     have hnc77 := NB266_275.out
     have hnb78 := NB275_270.out
     have hnc78 := NB270_275.out
     have hcz79_0 : w64.cell? ⟨gb275, 0, none⟩ = some (.slice none 0 0) := (blk_cell BK275.out 0).trans rfl
     have hfz79_0 := blk_frozen BK275.out 0
     have hnb80 := NB262_248.out
     have hnc80 := NB248_262.out
     have hnb81 := NB262_249.out
     have hnc81 := NB249_262.out
     have hnb82 := NB262_266.out
     have hnc82 := NB266_262.out
     have hnb83 := NB262_270.out
     have hnc83 := NB270_262.out
     have hcz84_0 : w64.cell? ⟨gb262, 0, none⟩ = some (.slice Ao41 t258.length co41) := (blk_cell BK262.out 0).trans rfl
     have hfz84_0 := blk_frozen BK262.out 0
     go_wp2_with (first | ((with_reducible refine gate_callee (f := 21) rfl ?_); refine goesL_ (some 47) rfl rfl Try.func21 (by kernel_rfl) rfl #[.agg #[.slice Ao65 t271.length co65], .agg #[.slice Ao41 t258.length co41]] rfl z8_7_ ?_; (with_reducible refine (laws_eqTree.calls k _ _ t271 _ _ t258 true _ ?side1 ?side2 ?side3 ?side4 A72.out).mono ?_); (case side1 => refine (Kd.R_reads' (e := 89) (base := w.heap.size) (ok := fun k_ => (((((True ∧ some k_ ≠ (v253 : Value).ownBlock) ∧ some k_ ≠ (v256 : Value).ownBlock) ∧ some k_ ≠ (.slice Ao41 t258.length co41 : Value).ownBlock) ∧ some k_ ≠ (.slice Ao47 t263.length co47 : Value).ownBlock) ∧ some k_ ≠ (.slice Ao56 t267.length co56 : Value).ownBlock)) (n := t271.length) (c := co65) ?_).2.2; exact z8_27_); (case side2 => exact (Kd.R_reads' HO273.out).2.1); (case side3 => refine (Kd.R_reads' (e := 89) (base := w.heap.size) (ok := fun k_ => ((((some k_ ≠ (v253 : Value).ownBlock ∧ some k_ ≠ (v256 : Value).ownBlock) ∧ some k_ ≠ (.slice Ao47 t263.length co47 : Value).ownBlock) ∧ some k_ ≠ (.slice Ao56 t267.length co56 : Value).ownBlock) ∧ some k_ ≠ (.slice Ao65 t271.length co65 : Value).ownBlock)) (n := t258.length) (c := co41) ?_).2.2; exact z8_28_); (case side4 => exact (Kd.R_reads' HO260.out).2.1); rintro e w85 ⟨rfl, hb⟩; refine ⟨_, rfl, ?_⟩; have _ := A_ (Kd.R_below z8_59_ hb); have _ := A_ (Kd.R_below z8_58_ hb); have _ := A_ (Kd.R_below z8_28_ hb); have _ := A_ (Kd.R_below z8_57_ hb); have _ := A_ (Kd.R_below z8_56_ hb); have _ := A_ (Kd.R_below z8_27_ hb); have _ := A_ (blk_below (g := gb248) (o := .cells #[.slice A0_0 l0_0.length c0_0] 24 (0, 0)) z8_80_ hb); have _ := A_ (blk_below (g := gb249) (o := .cells #[.slice A1_0 l1_0.length c1_0] 24 (0, 0)) z8_78_ hb); have _ := A_ (blk_below (g := gb262) (o := .cells #[.slice Ao41 t258.length co41] 34 (0, 0)) z8_76_ hb); have _ := A_ (blk_below (g := gb266) (o := .cells #[.slice Ao47 t263.length co47] 34 (0, 0)) z8_74_ hb); have _ := A_ (blk_below (g := gb270) (o := .cells #[.slice Ao56 t267.length co56] 34 (0, 0)) z8_72_ hb); have _ := A_ (blk_below (g := gb275) (o := .cells #[.slice Ao65 t271.length co65] 34 (0, 0)) z8_50_ hb); have _ := A_ (below_step z8_1_ hb); clear HO254 HO257 HO260 HO265 HO269 HO273 BK248 BK249 BK262 BK266 BK270 BK275 HB; rename_i HO254 HO257 HO260 HO265 HO269 HO273 BK248 BK249 BK262 BK266 BK270 BK275 HB; (try clear hb)))
     go_meet
     case rel => exact ⟨_, ((t274 != t261)), z8_42_, H', ⟨(by first | omega | exact Nat.le_refl _)⟩, ⟨z8_99_⟩, ⟨z8_98_⟩, ⟨z8_97_⟩, ⟨z8_96_⟩, ⟨z8_2_⟩, ⟨z8_3_⟩, ⟨z8_5_⟩, ⟨z8_6_⟩, ⟨z8_8_⟩, ⟨z8_11_⟩, ⟨z8_1_⟩⟩
    ·
     replace c73 := Bool.eq_false_iff.mpr c73
     subst c73
     have H1 : (laws_FnExactComposeTrees.j0 k t261 t274 true l0_0 l1_0 t258 t263 t267 t271) = some true := by first | (rw [if_neg (show ¬ (false = true) by decide)] at H; exact H) | rfl
     clear H
     have H := H1
     clear H1
     have H' := A_ H
     clear H
     have hnb86 := NB275_248.out
     have hnc86 := NB248_275.out
     have hnb87 := NB275_249.out
     have hnc87 := NB249_275.out
     have hnb88 := NB275_262.out
     have hnc88 := NB262_275.out
     have hnb89 := NB275_266.out
     have hnc89 := NB266_275.out
     have hnb90 := NB275_270.out
     have hnc90 := NB270_275.out
     have hcz91_0 : w64.cell? ⟨gb275, 0, none⟩ = some (.slice none 0 0) := (blk_cell BK275.out 0).trans rfl
     have hfz91_0 := blk_frozen BK275.out 0
     have hnb92 := NB262_248.out
     have hnc92 := NB248_262.out
     have hnb93 := NB262_249.out
     have hnc93 := NB249_262.out
     have hnb94 := NB262_266.out
     have hnc94 := NB266_262.out
     have hnb95 := NB262_270.out
     have hnc95 := NB270_262.out
     have hcz96_0 : w64.cell? ⟨gb262, 0, none⟩ = some (.slice Ao41 t258.length co41) := (blk_cell BK262.out 0).trans rfl
     have hfz96_0 := blk_frozen BK262.out 0
     go_wp2_with (first | ((with_reducible refine gate_callee (f := 21) rfl ?_); refine goesL_ (some 47) rfl rfl Try.func21 (by kernel_rfl) rfl #[.agg #[.slice Ao65 t271.length co65], .agg #[.slice Ao41 t258.length co41]] rfl z8_7_ ?_; (with_reducible refine (laws_eqTree.calls k _ _ t271 _ _ t258 false _ ?side1 ?side2 ?side3 ?side4 A72.out).mono ?_); (case side1 => refine (Kd.R_reads' (e := 89) (base := w.heap.size) (ok := fun k_ => (((((True ∧ some k_ ≠ (v253 : Value).ownBlock) ∧ some k_ ≠ (v256 : Value).ownBlock) ∧ some k_ ≠ (.slice Ao41 t258.length co41 : Value).ownBlock) ∧ some k_ ≠ (.slice Ao47 t263.length co47 : Value).ownBlock) ∧ some k_ ≠ (.slice Ao56 t267.length co56 : Value).ownBlock)) (n := t271.length) (c := co65) ?_).2.2; exact z8_27_); (case side2 => exact (Kd.R_reads' HO273.out).2.1); (case side3 => refine (Kd.R_reads' (e := 89) (base := w.heap.size) (ok := fun k_ => ((((some k_ ≠ (v253 : Value).ownBlock ∧ some k_ ≠ (v256 : Value).ownBlock) ∧ some k_ ≠ (.slice Ao47 t263.length co47 : Value).ownBlock) ∧ some k_ ≠ (.slice Ao56 t267.length co56 : Value).ownBlock) ∧ some k_ ≠ (.slice Ao65 t271.length co65 : Value).ownBlock)) (n := t258.length) (c := co41) ?_).2.2; exact z8_28_); (case side4 => exact (Kd.R_reads' HO260.out).2.1); rintro e w97 ⟨rfl, hb⟩; refine ⟨_, rfl, ?_⟩; have _ := A_ (Kd.R_below z8_59_ hb); have _ := A_ (Kd.R_below z8_58_ hb); have _ := A_ (Kd.R_below z8_28_ hb); have _ := A_ (Kd.R_below z8_57_ hb); have _ := A_ (Kd.R_below z8_56_ hb); have _ := A_ (Kd.R_below z8_27_ hb); have _ := A_ (blk_below (g := gb248) (o := .cells #[.slice A0_0 l0_0.length c0_0] 24 (0, 0)) z8_80_ hb); have _ := A_ (blk_below (g := gb249) (o := .cells #[.slice A1_0 l1_0.length c1_0] 24 (0, 0)) z8_78_ hb); have _ := A_ (blk_below (g := gb262) (o := .cells #[.slice Ao41 t258.length co41] 34 (0, 0)) z8_76_ hb); have _ := A_ (blk_below (g := gb266) (o := .cells #[.slice Ao47 t263.length co47] 34 (0, 0)) z8_74_ hb); have _ := A_ (blk_below (g := gb270) (o := .cells #[.slice Ao56 t267.length co56] 34 (0, 0)) z8_72_ hb); have _ := A_ (blk_below (g := gb275) (o := .cells #[.slice Ao65 t271.length co65] 34 (0, 0)) z8_50_ hb); have _ := A_ (below_step z8_1_ hb); clear HO254 HO257 HO260 HO265 HO269 HO273 BK248 BK249 BK262 BK266 BK270 BK275 HB; rename_i HO254 HO257 HO260 HO265 HO269 HO273 BK248 BK249 BK262 BK266 BK270 BK275 HB; (try clear hb)))
     go_meet
     case rel => exact ⟨_, (true), z8_42_, H', ⟨(by first | omega | exact Nat.le_refl _)⟩, ⟨z8_99_⟩, ⟨z8_98_⟩, ⟨z8_97_⟩, ⟨z8_96_⟩, ⟨z8_2_⟩, ⟨z8_3_⟩, ⟨z8_5_⟩, ⟨z8_6_⟩, ⟨z8_8_⟩, ⟨z8_11_⟩, ⟨z8_1_⟩⟩
   case rest =>
    clear HC25
    try clear c1
    try clear c2
    try clear p2
    try clear c3
    try clear c4
    try clear c5
    try clear c6
    try clear c7
    try clear c8
    try clear c9
    try clear c17
    try clear c21
    try clear c29
    try clear c30
    try clear c43
    try clear c48
    try clear c49
    try clear c50
    try clear c52
    try clear c57
    try clear c58
    try clear c59
    try clear c60
    try clear c66
    try clear c67
    try clear c68
    try clear c69
    try clear c70
    try clear c73
    try clear c74
    try clear c75
    try clear c76
    try clear c77
    try clear c78
    try clear c80
    try clear c81
    try clear c82
    try clear c83
    try clear c86
    try clear c87
    try clear c88
    try clear c89
    try clear c90
    try clear c92
    try clear c93
    try clear c94
    try clear c95
    try clear hcz44_0
    try clear hcz51_0
    try clear hcz53_0
    try clear hcz61_0
    try clear hcz62_0
    try clear hcz71_0
    try clear hcz79_0
    try clear hcz84_0
    try clear hcz91_0
    try clear hcz96_0
    try clear hfz44_0
    try clear hfz51_0
    try clear hfz53_0
    try clear hfz61_0
    try clear hfz62_0
    try clear hfz71_0
    try clear hfz79_0
    try clear hfz84_0
    try clear hfz91_0
    try clear hfz96_0
    obtain ⟨kq, x53_24, rfl, HA, HJ24, HO_263000, HO_267000, HO_271000, HO_276000, BK248, BK249, BK262, BK266, BK270, BK275, HB⟩ := hcut
    cases kq with
    | zero => exact absurd HA.out (by simp [laws_FnExactComposeTrees.j0])
    | succ kj24 =>
     have H := HA.out
     clear HA
     simp only [laws_FnExactComposeTrees.j0] at H
     by_cases c98 : x53_24 = true
     ·
      subst c98
      have H1 : (some false) = some true := by first | (rw [if_pos rfl] at H; exact H) | rfl
      clear H
      have H := H1
      clear H1
      exact absurd H (by decide)
     ·
      replace c98 := Bool.eq_false_iff.mpr c98
      subst c98
      have H1 : ((laws_toTree.f kj24 l0_0).bind fun t277 => ((laws_eqTree.f kj24 t263 t277).bind fun t280 => (if t280 = true then ((laws_toTree.f kj24 l1_0).bind fun t281 => ((laws_eqTree.f kj24 t267 t281).bind fun t284 => (if t284 = true then ((laws_markTree.f kj24 t263 1).bind fun bt285 => ((laws_markTree.f kj24 t267 bt285.1).bind fun bt287 => (if bt287.1 < 0 then (laws_FnExactComposeTrees.j1 kj24 t261 true l0_0 l1_0 t258 t271) else ((laws_eqTree.f kj24 t271 t258).bind fun t289 => (if t289 = true then (laws_FnExactComposeTrees.j1 kj24 t261 (t274 != t261) l0_0 l1_0 t258 t271) else (laws_FnExactComposeTrees.j1 kj24 t261 true l0_0 l1_0 t258 t271)))))) else (some false)))) else (some false)))) = some true := by first | (rw [if_neg (show ¬ (false = true) by decide)] at H; exact H) | rfl
      clear H
      have H := H1
      clear H1
      replace H := Option.bind_eq_some_iff.mp H
      obtain ⟨t277, A990, H⟩ := H
      try dsimp only at H
      have A99 := A_ A990
      clear A990
      replace H := Option.bind_eq_some_iff.mp H
      obtain ⟨t280, A1000, H⟩ := H
      try dsimp only at H
      have A100 := A_ A1000
      clear A1000
      by_cases c101 : t280 = true
      ·
       subst c101
       have H1 : ((laws_toTree.f kj24 l1_0).bind fun t281 => ((laws_eqTree.f kj24 t267 t281).bind fun t284 => (if t284 = true then ((laws_markTree.f kj24 t263 1).bind fun bt285 => ((laws_markTree.f kj24 t267 bt285.1).bind fun bt287 => (if bt287.1 < 0 then (laws_FnExactComposeTrees.j1 kj24 t261 true l0_0 l1_0 t258 t271) else ((laws_eqTree.f kj24 t271 t258).bind fun t289 => (if t289 = true then (laws_FnExactComposeTrees.j1 kj24 t261 (t274 != t261) l0_0 l1_0 t258 t271) else (laws_FnExactComposeTrees.j1 kj24 t261 true l0_0 l1_0 t258 t271)))))) else (some false)))) = some true := by first | (rw [if_pos rfl] at H; exact H) | rfl
       clear H
       have H := H1
       clear H1
       replace H := Option.bind_eq_some_iff.mp H
       obtain ⟨t281, A1020, H⟩ := H
       try dsimp only at H
       have A102 := A_ A1020
       clear A1020
       replace H := Option.bind_eq_some_iff.mp H
       obtain ⟨t284, A1030, H⟩ := H
       try dsimp only at H
       have A103 := A_ A1030
       clear A1030
       by_cases c104 : t284 = true
       ·
        subst c104
        have H1 : ((laws_markTree.f kj24 t263 1).bind fun bt285 => ((laws_markTree.f kj24 t267 bt285.1).bind fun bt287 => (if bt287.1 < 0 then (laws_FnExactComposeTrees.j1 kj24 t261 true l0_0 l1_0 t258 t271) else ((laws_eqTree.f kj24 t271 t258).bind fun t289 => (if t289 = true then (laws_FnExactComposeTrees.j1 kj24 t261 (t274 != t261) l0_0 l1_0 t258 t271) else (laws_FnExactComposeTrees.j1 kj24 t261 true l0_0 l1_0 t258 t271)))))) = some true := by first | (rw [if_pos rfl] at H; exact H) | rfl
        clear H
        have H := H1
        clear H1
        replace H := Option.bind_eq_some_iff.mp H
        obtain ⟨⟨t285, t286⟩, A1050, H⟩ := H
        try dsimp only at H
        have A105 := A_ A1050
        clear A1050
        replace H := Option.bind_eq_some_iff.mp H
        obtain ⟨⟨t287, t288⟩, A1060, H⟩ := H
        try dsimp only at H
        have A106 := A_ A1060
        clear A1060
        have HC107 := A_ H
        clear H
        try go_wp2
        have _ := A_ (Kd.R_drew HO_263000.out)
        have _ := A_ (Kd.R_drew HO_267000.out)
        have _ := A_ (Kd.R_drew HO_271000.out)
        have _ := A_ (Kd.R_drew HO_276000.out)
        have _ := A_ (blk_drew BK248.out)
        have _ := A_ (blk_drew BK249.out)
        have _ := A_ (blk_drew BK262.out)
        have _ := A_ (blk_drew BK266.out)
        have _ := A_ (blk_drew BK270.out)
        have _ := A_ (blk_drew BK275.out)
        have _ := A_ (below_drew1 HB.out)
        clear HO_263000 HO_267000 HO_271000 HO_276000 BK248 BK249 BK262 BK266 BK270 BK275 HB
        rename_i HO_263000 HO_267000 HO_271000 HO_276000 BK248 BK249 BK262 BK266 BK270 BK275 HB
        refine start_ (n := 5) (S := fun w' => w'.cell? ⟨gb266, 0, none⟩ = some (.slice Ao47 t263.length co47) ∧ w'.cell? ⟨gb248, 0, none⟩ = some (.slice A0_0 l0_0.length c0_0)) (ds := []) #[false, false, false, false, false] (by kernel_rfl) rfl rfl ⟨(blk_cell BK266.out 0).trans rfl, (blk_cell BK248.out 0).trans rfl⟩ (fun hHeld => ?_)
        generalize wc.drew = w108 at HO_263000 HO_267000 HO_271000 HO_276000 BK248 BK249 BK262 BK266 BK270 BK275 HB hHeld ⊢
        refine take_ (i := 0) (N := some 54) (v := ?_) (a' := ?_) #[true, false, false, false, false] rfl rfl (by kernel_rfl) (fun _ _ _ h => h) (Or.inl ⟨by rfl, ?_⟩) hHeld ?_ ?_
        rotate_left
        ·
         rintro w' ⟨s0, s1⟩
         go_simp
         with_reducible rfl
        rotate_left
        ·
         simp only [Act.put, sA_, sB_, sC_, i64_w, i32_w]
         rfl
        refine take_ (i := 1) (N := some 55) (v := ?_) (a' := ?_) #[true, true, false, false, false] rfl rfl (by kernel_rfl) (fun _ _ _ h => h) (Or.inl ⟨by rfl, ?_⟩) hHeld ?_ ?_
        rotate_left
        ·
         rintro w' ⟨s0, s1⟩
         go_simp
         with_reducible rfl
        rotate_left
        ·
         simp only [Act.put, sA_, sB_, sC_, i64_w, i32_w]
         rfl
        refine one_ (i := 2) (N := some 56) #[true, true, true, false, false] rfl rfl (by kernel_rfl) (by decide) (fun K hK => ?_)
        refine goes_ Try.func17 (by kernel_rfl) rfl #[.agg #[.slice A0_0 l0_0.length c0_0]] (by rfl) rfl rfl z8_7_ ?_
        with_reducible refine (laws_toTree.calls kj24 _ _ l0_0 t277 _ ?side1 ?side2 A99.out).mono ?_
        (case side1 => have hx_ := (Kd.C_below HR0_0.out HB.out); exact kc_)
        (case side2 => exact HC0_0.out)
        rintro e w109 ⟨v278, rfl, ho0, hb⟩
        refine ⟨_, rfl, ?_⟩
        have _ := A_ (Kd.R_elder' z8_15_ (Kd.R_base ho0) hb)
        have _ := A_ (Kd.R_elder' z8_14_ (Kd.R_base ho0) hb)
        have _ := A_ (Kd.R_elder' z8_13_ (Kd.R_base ho0) hb)
        have _ := A_ (Kd.R_elder' z8_12_ (Kd.R_base ho0) hb)
        have _ := A_ (Kd.R_lower (Kd.R_new' (Kd.R_new' (Kd.R_new' (Kd.R_new' ho0 (Kd.R_lt z8_15_)) (Kd.R_lt z8_14_)) (Kd.R_lt z8_13_)) (Kd.R_lt z8_12_)) (below_size z8_1_))
        have _ := A_ (blk_below (g := gb248) (o := .cells #[.slice A0_0 l0_0.length c0_0] 24 (0, 0)) z8_2_ hb)
        have _ := A_ (blk_below (g := gb249) (o := .cells #[.slice A1_0 l1_0.length c1_0] 24 (0, 0)) z8_3_ hb)
        have _ := A_ (blk_below (g := gb262) (o := .cells #[.slice Ao41 t258.length co41] 34 (0, 0)) z8_5_ hb)
        have _ := A_ (blk_below (g := gb266) (o := .cells #[.slice Ao47 t263.length co47] 34 (0, 0)) z8_6_ hb)
        have _ := A_ (blk_below (g := gb270) (o := .cells #[.slice Ao56 t267.length co56] 34 (0, 0)) z8_8_ hb)
        have _ := A_ (blk_below (g := gb275) (o := .cells #[.slice Ao65 t271.length co65] 34 (0, 0)) z8_11_ hb)
        have _ := A_ (below_step z8_1_ hb)
        clear HO_263000 HO_267000 HO_271000 HO_276000 BK248 BK249 BK262 BK266 BK270 BK275 HB
        rename_i HO_263000 HO_267000 HO_271000 HO_276000 HO279 BK248 BK249 BK262 BK266 BK270 BK275 HB
        (try clear hb)
        (try clear hb2)
        (try clear hk)
        (try clear hi)
        (try clear ho0)
        obtain ⟨Ao110, co110, eo110⟩ := Kd.R_slice HO279.out
        (first | subst eo110 | (injection eo110 with f1_ f2_ f3_; have f4_ := f1_.symm; have f5_ := f3_.symm; clear f1_ f2_ f3_; subst f4_; subst f5_))
        refine hK.out _ _ ⟨(blk_cell BK266.out 0).trans rfl, (blk_cell BK248.out 0).trans rfl⟩ (fun hHeld => ?_)
        clear hK K
        refine norm_ (a' := ?_) ?_ ?_
        rotate_left
        ·
         show Act.put _ (some 56) _ = _
         simp only [Act.put, sA_, sB_, sC_, i64_w, i32_w]
         rfl
        refine one_ (i := 3) (N := some 57) #[true, true, true, true, false] rfl rfl (by kernel_rfl) (by decide) (fun K hK => ?_)
        refine goes_ Try.func21 (by kernel_rfl) rfl #[.agg #[.slice Ao47 t263.length co47], .agg #[.slice Ao110 t277.length co110]] (by rfl) rfl rfl z8_7_ ?_
        with_reducible refine (laws_eqTree.calls kj24 _ _ t263 _ _ t277 true _ ?side1 ?side2 ?side3 ?side4 A100.out).mono ?_
        (case side1 => have hx_ := (Kd.R_reads' HO_267000.out).2.2; exact kc_)
        (case side2 => exact (Kd.R_reads' HO_267000.out).2.1)
        (case side3 => have hx_ := (Kd.R_reads' HO279.out).2.2; exact kc_)
        (case side4 => exact (Kd.R_reads' HO279.out).2.1)
        rintro e w111 ⟨rfl, hb⟩
        refine ⟨_, rfl, ?_⟩
        have _ := A_ (Kd.R_below z8_15_ hb)
        have _ := A_ (Kd.R_below z8_14_ hb)
        have _ := A_ (Kd.R_below z8_13_ hb)
        have _ := A_ (Kd.R_below z8_12_ hb)
        have _ := A_ (Kd.R_below z8_36_ hb)
        have _ := A_ (blk_below (g := gb248) (o := .cells #[.slice A0_0 l0_0.length c0_0] 24 (0, 0)) z8_2_ hb)
        have _ := A_ (blk_below (g := gb249) (o := .cells #[.slice A1_0 l1_0.length c1_0] 24 (0, 0)) z8_3_ hb)
        have _ := A_ (blk_below (g := gb262) (o := .cells #[.slice Ao41 t258.length co41] 34 (0, 0)) z8_5_ hb)
        have _ := A_ (blk_below (g := gb266) (o := .cells #[.slice Ao47 t263.length co47] 34 (0, 0)) z8_6_ hb)
        have _ := A_ (blk_below (g := gb270) (o := .cells #[.slice Ao56 t267.length co56] 34 (0, 0)) z8_8_ hb)
        have _ := A_ (blk_below (g := gb275) (o := .cells #[.slice Ao65 t271.length co65] 34 (0, 0)) z8_11_ hb)
        have _ := A_ (below_step z8_1_ hb)
        clear HO_263000 HO_267000 HO_271000 HO_276000 HO279 BK248 BK249 BK262 BK266 BK270 BK275 HB
        rename_i HO_263000 HO_267000 HO_271000 HO_276000 HO279 BK248 BK249 BK262 BK266 BK270 BK275 HB
        (try clear hb)
        (try clear hb2)
        (try clear hk)
        (try clear hi)
        refine hK.out _ _ ⟨(blk_cell BK266.out 0).trans rfl, (blk_cell BK248.out 0).trans rfl⟩ (fun hHeld => ?_)
        clear hK K
        refine norm_ (a' := ?_) ?_ ?_
        rotate_left
        ·
         show Act.put _ (some 57) _ = _
         simp only [Act.put, sA_, sB_, sC_, i64_w, i32_w]
         rfl
        refine pure_ (i := 4) (N := some 58) (v := ?_) (a' := ?_) #[true, true, true, true, true] rfl rfl (by kernel_rfl) (fun _ _ _ h => h) (Or.inl ⟨by rfl, ?_⟩) ?_ ?_
        rotate_left
        ·
         intro w'
         go_simp
         with_reducible rfl
        rotate_left
        ·
         simp only [Act.put, sA_, sB_, sC_, i64_w, i32_w]
         rfl
        refine done_ (by kernel_rfl) ?_
        try go_wp2
        have _ := A_ (Kd.R_drew HO_263000.out)
        have _ := A_ (Kd.R_drew HO_267000.out)
        have _ := A_ (Kd.R_drew HO_271000.out)
        have _ := A_ (Kd.R_drew HO_276000.out)
        have _ := A_ (Kd.R_drew HO279.out)
        have _ := A_ (blk_drew BK248.out)
        have _ := A_ (blk_drew BK249.out)
        have _ := A_ (blk_drew BK262.out)
        have _ := A_ (blk_drew BK266.out)
        have _ := A_ (blk_drew BK270.out)
        have _ := A_ (blk_drew BK275.out)
        have _ := A_ (below_drew1 HB.out)
        clear HO_263000 HO_267000 HO_271000 HO_276000 HO279 BK248 BK249 BK262 BK266 BK270 BK275 HB
        rename_i HO_263000 HO_267000 HO_271000 HO_276000 HO279 BK248 BK249 BK262 BK266 BK270 BK275 HB
        refine start_ (n := 5) (S := fun w' => w'.cell? ⟨gb270, 0, none⟩ = some (.slice Ao56 t267.length co56) ∧ w'.cell? ⟨gb249, 0, none⟩ = some (.slice A1_0 l1_0.length c1_0)) (ds := []) #[false, false, false, false, false] (by kernel_rfl) rfl rfl ⟨(blk_cell BK270.out 0).trans rfl, (blk_cell BK249.out 0).trans rfl⟩ (fun hHeld => ?_)
        generalize w111.drew = w112 at HO_263000 HO_267000 HO_271000 HO_276000 HO279 BK248 BK249 BK262 BK266 BK270 BK275 HB hHeld ⊢
        refine take_ (i := 0) (N := some 59) (v := ?_) (a' := ?_) #[true, false, false, false, false] rfl rfl (by kernel_rfl) (fun _ _ _ h => h) (Or.inl ⟨by rfl, ?_⟩) hHeld ?_ ?_
        rotate_left
        ·
         rintro w' ⟨s0, s1⟩
         go_simp
         with_reducible rfl
        rotate_left
        ·
         simp only [Act.put, sA_, sB_, sC_, i64_w, i32_w]
         rfl
        refine take_ (i := 1) (N := some 60) (v := ?_) (a' := ?_) #[true, true, false, false, false] rfl rfl (by kernel_rfl) (fun _ _ _ h => h) (Or.inl ⟨by rfl, ?_⟩) hHeld ?_ ?_
        rotate_left
        ·
         rintro w' ⟨s0, s1⟩
         go_simp
         with_reducible rfl
        rotate_left
        ·
         simp only [Act.put, sA_, sB_, sC_, i64_w, i32_w]
         rfl
        refine one_ (i := 2) (N := some 61) #[true, true, true, false, false] rfl rfl (by kernel_rfl) (by decide) (fun K hK => ?_)
        refine goes_ Try.func17 (by kernel_rfl) rfl #[.agg #[.slice A1_0 l1_0.length c1_0]] (by rfl) rfl rfl z8_7_ ?_
        with_reducible refine (laws_toTree.calls kj24 _ _ l1_0 t281 _ ?side1 ?side2 A102.out).mono ?_
        (case side1 => have hx_ := (Kd.C_below HR1_0.out HB.out); exact kc_)
        (case side2 => exact HC1_0.out)
        rintro e w113 ⟨v282, rfl, ho0, hb⟩
        refine ⟨_, rfl, ?_⟩
        have _ := A_ (Kd.R_elder' z8_15_ (Kd.R_base ho0) hb)
        have _ := A_ (Kd.R_elder' z8_14_ (Kd.R_base ho0) hb)
        have _ := A_ (Kd.R_elder' z8_13_ (Kd.R_base ho0) hb)
        have _ := A_ (Kd.R_elder' z8_12_ (Kd.R_base ho0) hb)
        have _ := A_ (Kd.R_elder' z8_36_ (Kd.R_base ho0) hb)
        have _ := A_ (Kd.R_lower (Kd.R_new' (Kd.R_new' (Kd.R_new' (Kd.R_new' (Kd.R_new' ho0 (Kd.R_lt z8_15_)) (Kd.R_lt z8_14_)) (Kd.R_lt z8_13_)) (Kd.R_lt z8_12_)) (Kd.R_lt z8_36_)) (below_size z8_1_))
        have _ := A_ (blk_below (g := gb248) (o := .cells #[.slice A0_0 l0_0.length c0_0] 24 (0, 0)) z8_2_ hb)
        have _ := A_ (blk_below (g := gb249) (o := .cells #[.slice A1_0 l1_0.length c1_0] 24 (0, 0)) z8_3_ hb)
        have _ := A_ (blk_below (g := gb262) (o := .cells #[.slice Ao41 t258.length co41] 34 (0, 0)) z8_5_ hb)
        have _ := A_ (blk_below (g := gb266) (o := .cells #[.slice Ao47 t263.length co47] 34 (0, 0)) z8_6_ hb)
        have _ := A_ (blk_below (g := gb270) (o := .cells #[.slice Ao56 t267.length co56] 34 (0, 0)) z8_8_ hb)
        have _ := A_ (blk_below (g := gb275) (o := .cells #[.slice Ao65 t271.length co65] 34 (0, 0)) z8_11_ hb)
        have _ := A_ (below_step z8_1_ hb)
        clear HO_263000 HO_267000 HO_271000 HO_276000 HO279 BK248 BK249 BK262 BK266 BK270 BK275 HB
        rename_i HO_263000 HO_267000 HO_271000 HO_276000 HO279 HO283 BK248 BK249 BK262 BK266 BK270 BK275 HB
        (try clear hb)
        (try clear hb2)
        (try clear hk)
        (try clear hi)
        (try clear ho0)
        obtain ⟨Ao114, co114, eo114⟩ := Kd.R_slice HO283.out
        (first | subst eo114 | (injection eo114 with f1_ f2_ f3_; have f4_ := f1_.symm; have f5_ := f3_.symm; clear f1_ f2_ f3_; subst f4_; subst f5_))
        refine hK.out _ _ ⟨(blk_cell BK270.out 0).trans rfl, (blk_cell BK249.out 0).trans rfl⟩ (fun hHeld => ?_)
        clear hK K
        refine norm_ (a' := ?_) ?_ ?_
        rotate_left
        ·
         show Act.put _ (some 61) _ = _
         simp only [Act.put, sA_, sB_, sC_, i64_w, i32_w]
         rfl
        refine one_ (i := 3) (N := some 62) #[true, true, true, true, false] rfl rfl (by kernel_rfl) (by decide) (fun K hK => ?_)
        refine goes_ Try.func21 (by kernel_rfl) rfl #[.agg #[.slice Ao56 t267.length co56], .agg #[.slice Ao114 t281.length co114]] (by rfl) rfl rfl z8_7_ ?_
        with_reducible refine (laws_eqTree.calls kj24 _ _ t267 _ _ t281 true _ ?side1 ?side2 ?side3 ?side4 A103.out).mono ?_
        (case side1 => have hx_ := (Kd.R_reads' HO_271000.out).2.2; exact kc_)
        (case side2 => exact (Kd.R_reads' HO_271000.out).2.1)
        (case side3 => have hx_ := (Kd.R_reads' HO283.out).2.2; exact kc_)
        (case side4 => exact (Kd.R_reads' HO283.out).2.1)
        rintro e w115 ⟨rfl, hb⟩
        refine ⟨_, rfl, ?_⟩
        have _ := A_ (Kd.R_below z8_15_ hb)
        have _ := A_ (Kd.R_below z8_14_ hb)
        have _ := A_ (Kd.R_below z8_13_ hb)
        have _ := A_ (Kd.R_below z8_12_ hb)
        have _ := A_ (Kd.R_below z8_36_ hb)
        have _ := A_ (Kd.R_below z8_86_ hb)
        have _ := A_ (blk_below (g := gb248) (o := .cells #[.slice A0_0 l0_0.length c0_0] 24 (0, 0)) z8_2_ hb)
        have _ := A_ (blk_below (g := gb249) (o := .cells #[.slice A1_0 l1_0.length c1_0] 24 (0, 0)) z8_3_ hb)
        have _ := A_ (blk_below (g := gb262) (o := .cells #[.slice Ao41 t258.length co41] 34 (0, 0)) z8_5_ hb)
        have _ := A_ (blk_below (g := gb266) (o := .cells #[.slice Ao47 t263.length co47] 34 (0, 0)) z8_6_ hb)
        have _ := A_ (blk_below (g := gb270) (o := .cells #[.slice Ao56 t267.length co56] 34 (0, 0)) z8_8_ hb)
        have _ := A_ (blk_below (g := gb275) (o := .cells #[.slice Ao65 t271.length co65] 34 (0, 0)) z8_11_ hb)
        have _ := A_ (below_step z8_1_ hb)
        clear HO_263000 HO_267000 HO_271000 HO_276000 HO279 HO283 BK248 BK249 BK262 BK266 BK270 BK275 HB
        rename_i HO_263000 HO_267000 HO_271000 HO_276000 HO279 HO283 BK248 BK249 BK262 BK266 BK270 BK275 HB
        (try clear hb)
        (try clear hb2)
        (try clear hk)
        (try clear hi)
        refine hK.out _ _ ⟨(blk_cell BK270.out 0).trans rfl, (blk_cell BK249.out 0).trans rfl⟩ (fun hHeld => ?_)
        clear hK K
        refine norm_ (a' := ?_) ?_ ?_
        rotate_left
        ·
         show Act.put _ (some 62) _ = _
         simp only [Act.put, sA_, sB_, sC_, i64_w, i32_w]
         rfl
        refine pure_ (i := 4) (N := some 63) (v := ?_) (a' := ?_) #[true, true, true, true, true] rfl rfl (by kernel_rfl) (fun _ _ _ h => h) (Or.inl ⟨by rfl, ?_⟩) ?_ ?_
        rotate_left
        ·
         intro w'
         go_simp
         with_reducible rfl
        rotate_left
        ·
         simp only [Act.put, sA_, sB_, sC_, i64_w, i32_w]
         rfl
        refine done_ (by kernel_rfl) ?_
        have hnb116 := NB266_248.out
        have hnc116 := NB248_266.out
        have hnb117 := NB266_249.out
        have hnc117 := NB249_266.out
        have hnb118 := NB266_262.out
        have hnc118 := NB262_266.out
        have hnb119 := NB266_270.out
        have hnc119 := NB270_266.out
        have hnb120 := NB266_275.out
        have hnc120 := NB275_266.out
        have hcz121_0 : w115.cell? ⟨gb266, 0, none⟩ = some (.slice Ao47 t263.length co47) := (blk_cell BK266.out 0).trans rfl
        have hfz121_0 := blk_frozen BK266.out 0
        go_upto_region 21 with (first | ((with_reducible refine gate_callee (f := 23) rfl ?_); refine goesL_ (some 66) rfl rfl Try.func23 (by kernel_rfl) rfl #[.agg #[.slice Ao47 t263.length co47], .int .i64 1] rfl z8_7_ ?_; (with_reducible refine (laws_markTree.calls kj24 (fun k_ => some k_ = (.slice Ao47 t263.length co47 : Value).ownBlock) (.slice Ao47 t263.length co47) t263 1 t285 t286 w _ ?side1 ?side2 A105.out).mono ?_); (case side1 => repeat (first | (with_reducible first | exact HB.out | apply below_alloc | apply pw_below_drewN | apply below_drew1 | refine below_set ?_ GE248.out | refine below_set ?_ GE249.out | refine below_set ?_ GE262.out | refine below_set ?_ GE266.out | refine below_set ?_ GE270.out | refine below_set ?_ GE275.out) | exact HB.out)); (case side2 => exact Kd.R_tight rfl HO_267000.out); rintro e w122 ⟨rfl, hy0, hb, hkp⟩; refine ⟨_, rfl, ?_⟩; have _ := A_ (Kd.R_mono (ok' := fun k_ => some k_ ≠ (.slice Ao47 t263.length co47 : Value).ownBlock ∧ some k_ ≠ (.slice Ao56 t267.length co56 : Value).ownBlock ∧ some k_ ≠ (.slice Ao65 t271.length co65 : Value).ownBlock ∧ some k_ ≠ (.slice Ao110 t277.length co110 : Value).ownBlock ∧ some k_ ≠ (.slice Ao114 t281.length co114 : Value).ownBlock) (Kd.R_keptB (HO_263000.out) hkp (fun k_ hk_ hs_ => (hk_.1.1.1) hs_)) (fun k_ hk_ => ⟨hk_.1.1.1.1, hk_.1.1.1.2.1, hk_.1.1.1.2.2, hk_.1.1.2, hk_.1.2⟩)); have _ := A_ (Kd.R_reok rfl hy0 (fun k_ e_ => HO_267000.out.1 k_ e_)); have _ := A_ (Kd.R_mono (ok' := fun k_ => some k_ ≠ (.slice Ao41 t258.length co41 : Value).ownBlock ∧ some k_ ≠ (.slice Ao47 t263.length co47 : Value).ownBlock ∧ some k_ ≠ (.slice Ao65 t271.length co65 : Value).ownBlock ∧ some k_ ≠ (.slice Ao110 t277.length co110 : Value).ownBlock ∧ some k_ ≠ (.slice Ao114 t281.length co114 : Value).ownBlock) (Kd.R_keptB (HO_271000.out) hkp (fun k_ hk_ hs_ => (hk_.1.1.2.1) hs_)) (fun k_ hk_ => ⟨hk_.1.1.1.1, hk_.1.1.1.2.1, hk_.1.1.1.2.2, hk_.1.1.2, hk_.1.2⟩)); have _ := A_ (Kd.R_mono (ok' := fun k_ => some k_ ≠ (.slice Ao41 t258.length co41 : Value).ownBlock ∧ some k_ ≠ (.slice Ao47 t263.length co47 : Value).ownBlock ∧ some k_ ≠ (.slice Ao56 t267.length co56 : Value).ownBlock ∧ some k_ ≠ (.slice Ao110 t277.length co110 : Value).ownBlock ∧ some k_ ≠ (.slice Ao114 t281.length co114 : Value).ownBlock) (Kd.R_keptB (HO_276000.out) hkp (fun k_ hk_ hs_ => (hk_.1.1.2.1) hs_)) (fun k_ hk_ => ⟨hk_.1.1.1.1, hk_.1.1.1.2.1, hk_.1.1.1.2.2, hk_.1.1.2, hk_.1.2⟩)); have _ := A_ (blk_kept z8_2_ hkp (fun hs_ => (fun e_ => (Kd.R_ne HO_267000.out BK248.out (by decide)) e_) hs_)); have _ := A_ (blk_kept z8_3_ hkp (fun hs_ => (fun e_ => (Kd.R_ne HO_267000.out BK249.out (by decide)) e_) hs_)); have _ := A_ (blk_kept z8_5_ hkp (fun hs_ => (fun e_ => (Kd.R_ne HO_267000.out BK262.out (by decide)) e_) hs_)); have _ := A_ (blk_kept z8_6_ hkp (fun hs_ => (fun e_ => (Kd.R_ne HO_267000.out BK266.out (by decide)) e_) hs_)); have _ := A_ (blk_kept z8_8_ hkp (fun hs_ => (fun e_ => (Kd.R_ne HO_267000.out BK270.out (by decide)) e_) hs_)); have _ := A_ (blk_kept z8_11_ hkp (fun hs_ => (fun e_ => (Kd.R_ne HO_267000.out BK275.out (by decide)) e_) hs_)); have _ := A_ (Kd.R_mono (ok' := fun k_ => some k_ ≠ (.slice Ao41 t258.length co41 : Value).ownBlock ∧ some k_ ≠ (.slice Ao47 t263.length co47 : Value).ownBlock ∧ some k_ ≠ (.slice Ao56 t267.length co56 : Value).ownBlock ∧ some k_ ≠ (.slice Ao65 t271.length co65 : Value).ownBlock ∧ some k_ ≠ (.slice Ao114 t281.length co114 : Value).ownBlock) (Kd.R_keptB (HO279.out) hkp (fun k_ hk_ hs_ => (hk_.1.1.1.2) hs_)) (fun k_ hk_ => ⟨hk_.1.1.1.1.1.2, hk_.1.1.1.1.2, hk_.1.1.1.2, hk_.1.1.2, hk_.1.2⟩)); have _ := A_ (Kd.R_mono (ok' := fun k_ => some k_ ≠ (.slice Ao41 t258.length co41 : Value).ownBlock ∧ some k_ ≠ (.slice Ao47 t263.length co47 : Value).ownBlock ∧ some k_ ≠ (.slice Ao56 t267.length co56 : Value).ownBlock ∧ some k_ ≠ (.slice Ao65 t271.length co65 : Value).ownBlock ∧ some k_ ≠ (.slice Ao110 t277.length co110 : Value).ownBlock) (Kd.R_keptB (HO283.out) hkp (fun k_ hk_ hs_ => (hk_.1.1.1.2) hs_)) (fun k_ hk_ => ⟨hk_.1.1.1.1.1.2, hk_.1.1.1.1.2, hk_.1.1.1.2, hk_.1.1.2, hk_.1.2⟩)); have _ := A_ (hb); clear HO_263000 HO_267000 HO_271000 HO_276000 BK248 BK249 BK262 BK266 BK270 BK275 HO279 HO283 HB; rename_i HO_263000 HO_267000 HO_271000 HO_276000 BK248 BK249 BK262 BK266 BK270 BK275 HO279 HO283 HB; (try clear hb); (try clear hkp); (try clear hy0); have hnb123 := NB270_248.out; have hnc123 := NB248_270.out; have hnb124 := NB270_249.out; have hnc124 := NB249_270.out; have hnb125 := NB270_262.out; have hnc125 := NB262_270.out; have hnb126 := NB270_275.out; have hnc126 := NB275_270.out; have hcz127_0 : w122.cell? ⟨gb270, 0, none⟩ = some (.slice Ao56 t267.length co56) := (blk_cell BK270.out 0).trans rfl; have hfz127_0 := blk_frozen BK270.out 0) | ((with_reducible refine gate_callee (f := 23) rfl ?_); refine goesL_ (some 69) rfl rfl Try.func23 (by kernel_rfl) rfl #[.agg #[.slice Ao56 t267.length co56], .int .i64 t285] rfl z8_7_ ?_; (with_reducible refine (laws_markTree.calls kj24 (fun k_ => some k_ = (.slice Ao56 t267.length co56 : Value).ownBlock) (.slice Ao56 t267.length co56) t267 t285 t287 t288 w _ ?side1 ?side2 A106.out).mono ?_); (case side1 => repeat (first | (with_reducible first | exact HB.out | apply below_alloc | apply pw_below_drewN | apply below_drew1 | refine below_set ?_ GE248.out | refine below_set ?_ GE249.out | refine below_set ?_ GE262.out | refine below_set ?_ GE266.out | refine below_set ?_ GE270.out | refine below_set ?_ GE275.out) | exact HB.out)); (case side2 => exact Kd.R_tight rfl HO_271000.out); rintro e w128 ⟨rfl, hy0, hb, hkp⟩; refine ⟨_, rfl, ?_⟩; have _ := A_ (Kd.R_mono (ok' := fun k_ => some k_ ≠ (.slice Ao47 t263.length co47 : Value).ownBlock ∧ some k_ ≠ (.slice Ao56 t267.length co56 : Value).ownBlock ∧ some k_ ≠ (.slice Ao65 t271.length co65 : Value).ownBlock ∧ some k_ ≠ (.slice Ao110 t277.length co110 : Value).ownBlock ∧ some k_ ≠ (.slice Ao114 t281.length co114 : Value).ownBlock) (Kd.R_keptB (HO_263000.out) hkp (fun k_ hk_ hs_ => (hk_.2.1) hs_)) (fun k_ hk_ => ⟨hk_.1.1, hk_.1.2.1, hk_.1.2.2.1, hk_.1.2.2.2.1, hk_.1.2.2.2.2⟩)); have _ := A_ (Kd.R_mono (ok' := fun k_ => some k_ ≠ (.slice Ao41 t258.length co41 : Value).ownBlock ∧ some k_ ≠ (.slice Ao56 t267.length co56 : Value).ownBlock ∧ some k_ ≠ (.slice Ao65 t271.length co65 : Value).ownBlock ∧ some k_ ≠ (.slice Ao110 t277.length co110 : Value).ownBlock ∧ some k_ ≠ (.slice Ao114 t281.length co114 : Value).ownBlock) (Kd.R_keptB (HO_267000.out) hkp (fun k_ hk_ hs_ => (hk_.1.1.2.1) hs_)) (fun k_ hk_ => ⟨hk_.1.1.1.1, hk_.1.1.1.2.1, hk_.1.1.1.2.2, hk_.1.1.2, hk_.1.2⟩)); have _ := A_ (Kd.R_reok rfl hy0 (fun k_ e_ => HO_271000.out.1 k_ e_)); have _ := A_ (Kd.R_mono (ok' := fun k_ => some k_ ≠ (.slice Ao41 t258.length co41 : Value).ownBlock ∧ some k_ ≠ (.slice Ao47 t263.length co47 : Value).ownBlock ∧ some k_ ≠ (.slice Ao56 t267.length co56 : Value).ownBlock ∧ some k_ ≠ (.slice Ao110 t277.length co110 : Value).ownBlock ∧ some k_ ≠ (.slice Ao114 t281.length co114 : Value).ownBlock) (Kd.R_keptB (HO_276000.out) hkp (fun k_ hk_ hs_ => (hk_.2.2.1) hs_)) (fun k_ hk_ => ⟨hk_.1.1, hk_.1.2.1, hk_.1.2.2.1, hk_.1.2.2.2.1, hk_.1.2.2.2.2⟩)); have _ := A_ (blk_kept z8_2_ hkp (fun hs_ => (fun e_ => (Kd.R_ne HO_271000.out BK248.out (by decide)) e_) hs_)); have _ := A_ (blk_kept z8_3_ hkp (fun hs_ => (fun e_ => (Kd.R_ne HO_271000.out BK249.out (by decide)) e_) hs_)); have _ := A_ (blk_kept z8_5_ hkp (fun hs_ => (fun e_ => (Kd.R_ne HO_271000.out BK262.out (by decide)) e_) hs_)); have _ := A_ (blk_kept z8_6_ hkp (fun hs_ => (fun e_ => (Kd.R_ne HO_271000.out BK266.out (by decide)) e_) hs_)); have _ := A_ (blk_kept z8_8_ hkp (fun hs_ => (fun e_ => (Kd.R_ne HO_271000.out BK270.out (by decide)) e_) hs_)); have _ := A_ (blk_kept z8_11_ hkp (fun hs_ => (fun e_ => (Kd.R_ne HO_271000.out BK275.out (by decide)) e_) hs_)); have _ := A_ (Kd.R_mono (ok' := fun k_ => some k_ ≠ (.slice Ao41 t258.length co41 : Value).ownBlock ∧ some k_ ≠ (.slice Ao47 t263.length co47 : Value).ownBlock ∧ some k_ ≠ (.slice Ao56 t267.length co56 : Value).ownBlock ∧ some k_ ≠ (.slice Ao65 t271.length co65 : Value).ownBlock ∧ some k_ ≠ (.slice Ao114 t281.length co114 : Value).ownBlock) (Kd.R_keptB (HO279.out) hkp (fun k_ hk_ hs_ => (hk_.2.2.1) hs_)) (fun k_ hk_ => ⟨hk_.1.1, hk_.1.2.1, hk_.1.2.2.1, hk_.1.2.2.2.1, hk_.1.2.2.2.2⟩)); have _ := A_ (Kd.R_mono (ok' := fun k_ => some k_ ≠ (.slice Ao41 t258.length co41 : Value).ownBlock ∧ some k_ ≠ (.slice Ao47 t263.length co47 : Value).ownBlock ∧ some k_ ≠ (.slice Ao56 t267.length co56 : Value).ownBlock ∧ some k_ ≠ (.slice Ao65 t271.length co65 : Value).ownBlock ∧ some k_ ≠ (.slice Ao110 t277.length co110 : Value).ownBlock) (Kd.R_keptB (HO283.out) hkp (fun k_ hk_ hs_ => (hk_.2.2.1) hs_)) (fun k_ hk_ => ⟨hk_.1.1, hk_.1.2.1, hk_.1.2.2.1, hk_.1.2.2.2.1, hk_.1.2.2.2.2⟩)); have _ := A_ (hb); clear HO_263000 HO_267000 HO_271000 HO_276000 BK248 BK249 BK262 BK266 BK270 BK275 HO279 HO283 HB; rename_i HO_263000 HO_267000 HO_271000 HO_276000 BK248 BK249 BK262 BK266 BK270 BK275 HO279 HO283 HB; (try clear hb); (try clear hkp); (try clear hy0)))
        (try simp only [Act.put, sA_, sB_, sC_])
        go_cut [82] (fun v82 wc => ∃ (kq : Nat) (x82_106 : Bool), v82 = .bool x82_106 ∧ Aside0 (laws_FnExactComposeTrees.j1 kq t261 x82_106 l0_0 l1_0 t258 t271 = some true) ∧ Aside0 (kq ≤ kj24) ∧ Aside0 (Kd.R k89 89 wc w.heap.size (fun k_ => some k_ ≠ ((.slice Ao47 t263.length co47) : Value).ownBlock ∧ some k_ ≠ ((.slice Ao56 t267.length co56) : Value).ownBlock ∧ some k_ ≠ ((.slice Ao65 t271.length co65) : Value).ownBlock) (.slice Ao41 t258.length co41) t258) ∧ Aside0 (Kd.R k89 89 wc w.heap.size (fun k_ => some k_ ≠ ((.slice Ao41 t258.length co41) : Value).ownBlock ∧ some k_ ≠ ((.slice Ao56 t267.length co56) : Value).ownBlock ∧ some k_ ≠ ((.slice Ao65 t271.length co65) : Value).ownBlock) (.slice Ao47 t263.length co47) t286) ∧ Aside0 (Kd.R k89 89 wc w.heap.size (fun k_ => some k_ ≠ ((.slice Ao41 t258.length co41) : Value).ownBlock ∧ some k_ ≠ ((.slice Ao47 t263.length co47) : Value).ownBlock ∧ some k_ ≠ ((.slice Ao65 t271.length co65) : Value).ownBlock) (.slice Ao56 t267.length co56) t288) ∧ Aside0 (Kd.R k89 89 wc w.heap.size (fun k_ => some k_ ≠ ((.slice Ao41 t258.length co41) : Value).ownBlock ∧ some k_ ≠ ((.slice Ao47 t263.length co47) : Value).ownBlock ∧ some k_ ≠ ((.slice Ao56 t267.length co56) : Value).ownBlock) (.slice Ao65 t271.length co65) t271) ∧ Aside0 (wc.heap[gb248]? = some (.cells #[(.slice A0_0 l0_0.length c0_0)] 24 (0, 0))) ∧ Aside0 (wc.heap[gb249]? = some (.cells #[(.slice A1_0 l1_0.length c1_0)] 24 (0, 0))) ∧ Aside0 (wc.heap[gb262]? = some (.cells #[(.slice Ao41 t258.length co41)] 34 (0, 0))) ∧ Aside0 (wc.heap[gb266]? = some (.cells #[(.slice Ao47 t263.length co47)] 34 (0, 0))) ∧ Aside0 (wc.heap[gb270]? = some (.cells #[(.slice Ao56 t267.length co56)] 34 (0, 0))) ∧ Aside0 (wc.heap[gb275]? = some (.cells #[(.slice Ao65 t271.length co65)] 34 (0, 0))) ∧ Aside0 (Below w.heap.size w wc))
        case first =>
         have H := HC107.out
         clear HC107
         by_cases c129 : t287 < 0
         ·
          rw [if_pos c129] at H
          have c129b0 := decide_eq_true c129
          clear c129
          (first | rw [c129b0] | (simp only [i64_w, i32_w]; rw [c129b0]) | skip)
          have H' := A_ H
          clear H
          go_wp2
          go_meet
          case rel => exact ⟨_, (true), z8_42_, H', ⟨z8_100_⟩, ⟨z8_46_⟩, ⟨z8_45_⟩, ⟨z8_44_⟩, ⟨z8_43_⟩, ⟨z8_2_⟩, ⟨z8_3_⟩, ⟨z8_5_⟩, ⟨z8_6_⟩, ⟨z8_8_⟩, ⟨z8_11_⟩, ⟨z8_1_⟩⟩
         ·
          rw [if_neg c129] at H
          have c129b0 := decide_eq_false c129
          clear c129
          (first | rw [c129b0] | (simp only [i64_w, i32_w]; rw [c129b0]) | skip)
          replace H := Option.bind_eq_some_iff.mp H
          obtain ⟨t289, A1300, H⟩ := H
          try dsimp only at H
          have A130 := A_ A1300
          clear A1300
          by_cases c131 : t289 = true
          ·
           subst c131
           have H1 : (laws_FnExactComposeTrees.j1 kj24 t261 (t274 != t261) l0_0 l1_0 t258 t271) = some true := by first | (rw [if_pos rfl] at H; exact H) | rfl
           clear H
           have H := H1
           clear H1
           have H' := A_ H
           clear H
           have hnb132 := NB275_248.out
           have hnc132 := NB248_275.out
           have hnb133 := NB275_249.out
           have hnc133 := NB249_275.out
           have hnb134 := NB275_262.out
           have hnc134 := NB262_275.out
           have hnb135 := NB275_266.out
           have hnc135 := NB266_275.out
           have hnb136 := NB275_270.out
           have hnc136 := NB270_275.out
           have hcz137_0 : w128.cell? ⟨gb275, 0, none⟩ = some (.slice Ao65 t271.length co65) := (blk_cell BK275.out 0).trans rfl
           have hfz137_0 := blk_frozen BK275.out 0
           have hnb138 := NB262_248.out
           have hnc138 := NB248_262.out
           have hnb139 := NB262_249.out
           have hnc139 := NB249_262.out
           have hnb140 := NB262_266.out
           have hnc140 := NB266_262.out
           have hnb141 := NB262_270.out
           have hnc141 := NB270_262.out
           have hcz142_0 : w128.cell? ⟨gb262, 0, none⟩ = some (.slice Ao41 t258.length co41) := (blk_cell BK262.out 0).trans rfl
           have hfz142_0 := blk_frozen BK262.out 0
           go_wp2_with (first | (go_at_call 21; (with_reducible refine (laws_eqTree.calls kj24 _ _ t271 _ _ t258 true _ ?side1 ?side2 ?side3 ?side4 A130.out).mono ?_); (case side1 => have hx_ := (Kd.R_reads' HO_276000.out).2.2; exact kc_); (case side2 => exact (Kd.R_reads' HO_276000.out).2.1); (case side3 => have hx_ := (Kd.R_reads' HO_263000.out).2.2; exact kc_); (case side4 => exact (Kd.R_reads' HO_263000.out).2.1); rintro e w143 ⟨rfl, hb⟩; have _ := A_ (Kd.R_below z8_15_ hb); have _ := A_ (Kd.R_below z8_14_ hb); have _ := A_ (Kd.R_below z8_13_ hb); have _ := A_ (Kd.R_below z8_12_ hb); have _ := A_ (Kd.R_below z8_36_ hb); have _ := A_ (Kd.R_below z8_86_ hb); have _ := A_ (blk_below (g := gb248) (o := .cells #[.slice A0_0 l0_0.length c0_0] 24 (0, 0)) z8_2_ hb); have _ := A_ (blk_below (g := gb249) (o := .cells #[.slice A1_0 l1_0.length c1_0] 24 (0, 0)) z8_3_ hb); have _ := A_ (blk_below (g := gb262) (o := .cells #[.slice Ao41 t258.length co41] 34 (0, 0)) z8_5_ hb); have _ := A_ (blk_below (g := gb266) (o := .cells #[.slice Ao47 t263.length co47] 34 (0, 0)) z8_6_ hb); have _ := A_ (blk_below (g := gb270) (o := .cells #[.slice Ao56 t267.length co56] 34 (0, 0)) z8_8_ hb); have _ := A_ (blk_below (g := gb275) (o := .cells #[.slice Ao65 t271.length co65] 34 (0, 0)) z8_11_ hb); have _ := A_ (below_step z8_1_ hb); clear HO_263000 HO_267000 HO_271000 HO_276000 HO279 HO283 BK248 BK249 BK262 BK266 BK270 BK275 HB; rename_i HO_263000 HO_267000 HO_271000 HO_276000 HO279 HO283 BK248 BK249 BK262 BK266 BK270 BK275 HB; (try clear hb)))
           go_meet
           case rel => exact ⟨_, ((t274 != t261)), z8_42_, H', ⟨z8_100_⟩, ⟨z8_46_⟩, ⟨z8_45_⟩, ⟨z8_44_⟩, ⟨z8_43_⟩, ⟨z8_2_⟩, ⟨z8_3_⟩, ⟨z8_5_⟩, ⟨z8_6_⟩, ⟨z8_8_⟩, ⟨z8_11_⟩, ⟨z8_1_⟩⟩
          ·
           replace c131 := Bool.eq_false_iff.mpr c131
           subst c131
           have H1 : (laws_FnExactComposeTrees.j1 kj24 t261 true l0_0 l1_0 t258 t271) = some true := by first | (rw [if_neg (show ¬ (false = true) by decide)] at H; exact H) | rfl
           clear H
           have H := H1
           clear H1
           have H' := A_ H
           clear H
           have hnb144 := NB275_248.out
           have hnc144 := NB248_275.out
           have hnb145 := NB275_249.out
           have hnc145 := NB249_275.out
           have hnb146 := NB275_262.out
           have hnc146 := NB262_275.out
           have hnb147 := NB275_266.out
           have hnc147 := NB266_275.out
           have hnb148 := NB275_270.out
           have hnc148 := NB270_275.out
           have hcz149_0 : w128.cell? ⟨gb275, 0, none⟩ = some (.slice Ao65 t271.length co65) := (blk_cell BK275.out 0).trans rfl
           have hfz149_0 := blk_frozen BK275.out 0
           have hnb150 := NB262_248.out
           have hnc150 := NB248_262.out
           have hnb151 := NB262_249.out
           have hnc151 := NB249_262.out
           have hnb152 := NB262_266.out
           have hnc152 := NB266_262.out
           have hnb153 := NB262_270.out
           have hnc153 := NB270_262.out
           have hcz154_0 : w128.cell? ⟨gb262, 0, none⟩ = some (.slice Ao41 t258.length co41) := (blk_cell BK262.out 0).trans rfl
           have hfz154_0 := blk_frozen BK262.out 0
           go_wp2_with (first | (go_at_call 21; (with_reducible refine (laws_eqTree.calls kj24 _ _ t271 _ _ t258 false _ ?side1 ?side2 ?side3 ?side4 A130.out).mono ?_); (case side1 => have hx_ := (Kd.R_reads' HO_276000.out).2.2; exact kc_); (case side2 => exact (Kd.R_reads' HO_276000.out).2.1); (case side3 => have hx_ := (Kd.R_reads' HO_263000.out).2.2; exact kc_); (case side4 => exact (Kd.R_reads' HO_263000.out).2.1); rintro e w155 ⟨rfl, hb⟩; have _ := A_ (Kd.R_below z8_15_ hb); have _ := A_ (Kd.R_below z8_14_ hb); have _ := A_ (Kd.R_below z8_13_ hb); have _ := A_ (Kd.R_below z8_12_ hb); have _ := A_ (Kd.R_below z8_36_ hb); have _ := A_ (Kd.R_below z8_86_ hb); have _ := A_ (blk_below (g := gb248) (o := .cells #[.slice A0_0 l0_0.length c0_0] 24 (0, 0)) z8_2_ hb); have _ := A_ (blk_below (g := gb249) (o := .cells #[.slice A1_0 l1_0.length c1_0] 24 (0, 0)) z8_3_ hb); have _ := A_ (blk_below (g := gb262) (o := .cells #[.slice Ao41 t258.length co41] 34 (0, 0)) z8_5_ hb); have _ := A_ (blk_below (g := gb266) (o := .cells #[.slice Ao47 t263.length co47] 34 (0, 0)) z8_6_ hb); have _ := A_ (blk_below (g := gb270) (o := .cells #[.slice Ao56 t267.length co56] 34 (0, 0)) z8_8_ hb); have _ := A_ (blk_below (g := gb275) (o := .cells #[.slice Ao65 t271.length co65] 34 (0, 0)) z8_11_ hb); have _ := A_ (below_step z8_1_ hb); clear HO_263000 HO_267000 HO_271000 HO_276000 HO279 HO283 BK248 BK249 BK262 BK266 BK270 BK275 HB; rename_i HO_263000 HO_267000 HO_271000 HO_276000 HO279 HO283 BK248 BK249 BK262 BK266 BK270 BK275 HB; (try clear hb)))
           go_meet
           case rel => exact ⟨_, (true), z8_42_, H', ⟨z8_100_⟩, ⟨z8_46_⟩, ⟨z8_45_⟩, ⟨z8_44_⟩, ⟨z8_43_⟩, ⟨z8_2_⟩, ⟨z8_3_⟩, ⟨z8_5_⟩, ⟨z8_6_⟩, ⟨z8_8_⟩, ⟨z8_11_⟩, ⟨z8_1_⟩⟩
        case rest =>
         clear HC107
         try clear c1
         try clear c2
         try clear p2
         try clear c3
         try clear c4
         try clear c5
         try clear c6
         try clear c7
         try clear c8
         try clear c9
         try clear c10
         try clear c11
         try clear c12
         try clear c13
         try clear c14
         try clear c15
         try clear c17
         try clear c21
         try clear c23
         try clear c29
         try clear c30
         try clear c43
         try clear c48
         try clear c49
         try clear c50
         try clear c52
         try clear c57
         try clear c58
         try clear c59
         try clear c60
         try clear c66
         try clear c67
         try clear c68
         try clear c69
         try clear c70
         try clear c73
         try clear c74
         try clear c75
         try clear c76
         try clear c77
         try clear c78
         try clear c80
         try clear c81
         try clear c82
         try clear c83
         try clear c86
         try clear c87
         try clear c88
         try clear c89
         try clear c90
         try clear c92
         try clear c93
         try clear c94
         try clear c95
         try clear c98
         try clear c101
         try clear c104
         try clear c116
         try clear c117
         try clear c118
         try clear c119
         try clear c120
         try clear c123
         try clear c124
         try clear c125
         try clear c126
         try clear c129
         try clear c129b0
         try clear c131
         try clear c132
         try clear c133
         try clear c134
         try clear c135
         try clear c136
         try clear c138
         try clear c139
         try clear c140
         try clear c141
         try clear c144
         try clear c145
         try clear c146
         try clear c147
         try clear c148
         try clear c150
         try clear c151
         try clear c152
         try clear c153
         try clear hcz121_0
         try clear hcz127_0
         try clear hcz137_0
         try clear hcz142_0
         try clear hcz149_0
         try clear hcz154_0
         try clear hcz44_0
         try clear hcz51_0
         try clear hcz53_0
         try clear hcz61_0
         try clear hcz62_0
         try clear hcz71_0
         try clear hcz79_0
         try clear hcz84_0
         try clear hcz91_0
         try clear hcz96_0
         try clear hfz121_0
         try clear hfz127_0
         try clear hfz137_0
         try clear hfz142_0
         try clear hfz149_0
         try clear hfz154_0
         try clear hfz44_0
         try clear hfz51_0
         try clear hfz53_0
         try clear hfz61_0
         try clear hfz62_0
         try clear hfz71_0
         try clear hfz79_0
         try clear hfz84_0
         try clear hfz91_0
         try clear hfz96_0
         try clear p2
         obtain ⟨kq, x82_106, rfl, HA, HJ106, HO_263000, HO_267000, HO_271000, HO_276000, BK248, BK249, BK262, BK266, BK270, BK275, HB⟩ := hcut
         have hl267000_106 := (Kd.R_reads' HO_267000.out).1
         rw [hl267000_106] at HO_267000
         (try simp only [hl267000_106])
         (try simp only [hl267000_106] at BK248)
         (try simp only [hl267000_106] at BK249)
         (try simp only [hl267000_106] at BK262)
         (try simp only [hl267000_106] at BK266)
         (try simp only [hl267000_106] at BK270)
         (try simp only [hl267000_106] at BK275)
         (try simp only [hl267000_106] at HO_263000)
         (try simp only [hl267000_106] at HO_271000)
         (try simp only [hl267000_106] at HO_276000)
         have hl271000_106 := (Kd.R_reads' HO_271000.out).1
         rw [hl271000_106] at HO_271000
         (try simp only [hl271000_106])
         (try simp only [hl271000_106] at BK248)
         (try simp only [hl271000_106] at BK249)
         (try simp only [hl271000_106] at BK262)
         (try simp only [hl271000_106] at BK266)
         (try simp only [hl271000_106] at BK270)
         (try simp only [hl271000_106] at BK275)
         (try simp only [hl271000_106] at HO_263000)
         (try simp only [hl271000_106] at HO_267000)
         (try simp only [hl271000_106] at HO_276000)
         cases kq with
         | zero => exact absurd HA.out (by simp [laws_FnExactComposeTrees.j1])
         | succ kj106 =>
          have H := HA.out
          clear HA
          simp only [laws_FnExactComposeTrees.j1] at H
          by_cases c156 : x82_106 = true
          ·
           subst c156
           have H1 : (some false) = some true := by first | (rw [if_pos rfl] at H; exact H) | rfl
           clear H
           have H := H1
           clear H1
           exact absurd H (by decide)
          ·
           replace c156 := Bool.eq_false_iff.mpr c156
           subst c156
           have H1 : ((laws_markTree.f kj106 t271 1).bind fun bt290 => ((laws_heldTree.f kj106 bt290.2 1).bind fun t292 => (if t292 < 0 then (some false) else (if t292 = bt290.1 then ((laws_toTree.f kj106 l0_0).bind fun t293 => ((laws_toTree.f kj106 l1_0).bind fun t296 => ((impl_ComposeTrees.f kj106 t293 t296).bind fun bt299 => ((laws_eqTree.f kj106 bt299.1 t258).bind fun t304 => (if t304 = true then (laws_FnExactComposeTrees.j2 kj106 bt290.1 (bt299.2 != t261) bt290.2) else (laws_FnExactComposeTrees.j2 kj106 bt290.1 true bt290.2)))))) else (some false))))) = some true := by first | (rw [if_neg (show ¬ (false = true) by decide)] at H; exact H) | rfl
           clear H
           have H := H1
           clear H1
           replace H := Option.bind_eq_some_iff.mp H
           obtain ⟨⟨t290, t291⟩, A1570, H⟩ := H
           try dsimp only at H
           have A157 := A_ A1570
           clear A1570
           replace H := Option.bind_eq_some_iff.mp H
           obtain ⟨t292, A1580, H⟩ := H
           try dsimp only at H
           have A158 := A_ A1580
           clear A1580
           by_cases c159 : t292 < 0
           ·
            rw [if_pos c159] at H
            have c159b0 := decide_eq_true c159
            clear c159
            exact absurd H (by decide)
           ·
            rw [if_neg c159] at H
            have c159b0 := decide_eq_false c159
            clear c159
            by_cases c160 : t292 = t290
            ·
             rw [if_pos c160] at H
             have c160b0 := beq_iff_eq.mpr c160
             have c160b1 := bne_eq_false_iff_eq.mpr c160
             clear c160
             replace H := Option.bind_eq_some_iff.mp H
             obtain ⟨t293, A1610, H⟩ := H
             try dsimp only at H
             have A161 := A_ A1610
             clear A1610
             replace H := Option.bind_eq_some_iff.mp H
             obtain ⟨t296, A1620, H⟩ := H
             try dsimp only at H
             have A162 := A_ A1620
             clear A1620
             replace H := Option.bind_eq_some_iff.mp H
             obtain ⟨⟨t299, t302⟩, A1630, H⟩ := H
             try dsimp only at H
             have A163 := A_ A1630
             clear A1630
             have HC164 := A_ H
             clear H
             have hnb165 := NB275_248.out
             have hnc165 := NB248_275.out
             have hnb166 := NB275_249.out
             have hnc166 := NB249_275.out
             have hnb167 := NB275_262.out
             have hnc167 := NB262_275.out
             have hnb168 := NB275_266.out
             have hnc168 := NB266_275.out
             have hnb169 := NB275_270.out
             have hnc169 := NB270_275.out
             have hcz170_0 : wc.cell? ⟨gb275, 0, none⟩ = some (.slice Ao65 t271.length co65) := (blk_cell BK275.out 0).trans rfl
             have hfz170_0 := blk_frozen BK275.out 0
             try go_wp2_with (first | ((with_reducible refine gate_callee (f := 23) rfl ?_); refine goesL_ (some 85) rfl rfl Try.func23 (by kernel_rfl) rfl #[.agg #[.slice Ao65 t271.length co65], .int .i64 1] rfl z8_7_ ?_; (with_reducible refine (laws_markTree.calls kj106 (fun k_ => some k_ = (.slice Ao65 t271.length co65 : Value).ownBlock) (.slice Ao65 t271.length co65) t271 1 t290 t291 w _ ?side1 ?side2 A157.out).mono ?_); (case side1 => repeat (first | (with_reducible first | exact HB.out | apply below_alloc | apply pw_below_drewN | apply below_drew1 | refine below_set ?_ GE248.out | refine below_set ?_ GE249.out | refine below_set ?_ GE262.out | refine below_set ?_ GE266.out | refine below_set ?_ GE270.out | refine below_set ?_ GE275.out) | exact HB.out)); (case side2 => exact Kd.R_tight rfl HO_276000.out); rintro e w171 ⟨rfl, hy0, hb, hkp⟩; refine ⟨_, rfl, ?_⟩; have _ := A_ (Kd.R_mono (ok' := fun k_ => some k_ ≠ (.slice Ao47 t286.length co47 : Value).ownBlock ∧ some k_ ≠ (.slice Ao56 t288.length co56 : Value).ownBlock ∧ some k_ ≠ (.slice Ao65 t271.length co65 : Value).ownBlock) (Kd.R_keptB (HO_263000.out) hkp (fun k_ hk_ hs_ => (hk_.2.2) hs_)) (fun k_ hk_ => ⟨hk_.1.1, hk_.1.2.1, hk_.1.2.2⟩)); have _ := A_ (Kd.R_mono (ok' := fun k_ => some k_ ≠ (.slice Ao41 t258.length co41 : Value).ownBlock ∧ some k_ ≠ (.slice Ao56 t288.length co56 : Value).ownBlock ∧ some k_ ≠ (.slice Ao65 t271.length co65 : Value).ownBlock) (Kd.R_keptB (HO_267000.out) hkp (fun k_ hk_ hs_ => (hk_.2.2) hs_)) (fun k_ hk_ => ⟨hk_.1.1, hk_.1.2.1, hk_.1.2.2⟩)); have _ := A_ (Kd.R_mono (ok' := fun k_ => some k_ ≠ (.slice Ao41 t258.length co41 : Value).ownBlock ∧ some k_ ≠ (.slice Ao47 t286.length co47 : Value).ownBlock ∧ some k_ ≠ (.slice Ao65 t271.length co65 : Value).ownBlock) (Kd.R_keptB (HO_271000.out) hkp (fun k_ hk_ hs_ => (hk_.2.2) hs_)) (fun k_ hk_ => ⟨hk_.1.1, hk_.1.2.1, hk_.1.2.2⟩)); have _ := A_ (Kd.R_reok rfl hy0 (fun k_ e_ => HO_276000.out.1 k_ e_)); have _ := A_ (blk_kept z8_2_ hkp (fun hs_ => (fun e_ => (Kd.R_ne HO_276000.out BK248.out (by decide)) e_) hs_)); have _ := A_ (blk_kept z8_3_ hkp (fun hs_ => (fun e_ => (Kd.R_ne HO_276000.out BK249.out (by decide)) e_) hs_)); have _ := A_ (blk_kept z8_5_ hkp (fun hs_ => (fun e_ => (Kd.R_ne HO_276000.out BK262.out (by decide)) e_) hs_)); have _ := A_ (blk_kept z8_6_ hkp (fun hs_ => (fun e_ => (Kd.R_ne HO_276000.out BK266.out (by decide)) e_) hs_)); have _ := A_ (blk_kept z8_8_ hkp (fun hs_ => (fun e_ => (Kd.R_ne HO_276000.out BK270.out (by decide)) e_) hs_)); have _ := A_ (blk_kept z8_11_ hkp (fun hs_ => (fun e_ => (Kd.R_ne HO_276000.out BK275.out (by decide)) e_) hs_)); have _ := A_ (hb); clear HO_263000 HO_267000 HO_271000 HO_276000 BK248 BK249 BK262 BK266 BK270 BK275 HB; rename_i HO_263000 HO_267000 HO_271000 HO_276000 BK248 BK249 BK262 BK266 BK270 BK275 HB; (try clear hb); (try clear hkp); (try clear hy0); have hcz172_0 : w171.cell? ⟨gb275, 0, none⟩ = some (.slice Ao65 t271.length co65) := (blk_cell BK275.out 0).trans rfl; have hfz172_0 := blk_frozen BK275.out 0) | ((with_reducible refine gate_callee (f := 31) rfl ?_); refine goesL_ (some 88) rfl rfl Try.func31 (by kernel_rfl) rfl #[.agg #[.slice Ao65 t291.length co65], .int .i64 1] rfl (by (try simp only [List.map_toArray, List.map_cons, List.map_nil]); first | done | (rw [show t291.length = t271.length from (Kd.R_reads' HO_276000.out).1.symm] <;> rfl) | rfl | (simp only [List.length_drop, List.length_take]; rfl)) ?_; (with_reducible refine (laws_heldTree.calls kj106 _ _ t291 1 t292 _ ?side1 ?side2 A158.out).mono ?_); (case side1 => have hx_ := (Kd.R_reads' HO_276000.out).2.2; exact kc_); (case side2 => rw [show t291.length = t271.length from (Kd.R_reads' HO_276000.out).1.symm]; exact (Kd.R_reads' HO_276000.out).2.1); rintro e w173 ⟨rfl, hb⟩; refine ⟨_, rfl, ?_⟩; have _ := A_ (Kd.R_below z8_15_ hb); have _ := A_ (Kd.R_below z8_14_ hb); have _ := A_ (Kd.R_below z8_13_ hb); have _ := A_ (Kd.R_below z8_12_ hb); have _ := A_ (blk_below (g := gb248) (o := .cells #[.slice A0_0 l0_0.length c0_0] 24 (0, 0)) z8_2_ hb); have _ := A_ (blk_below (g := gb249) (o := .cells #[.slice A1_0 l1_0.length c1_0] 24 (0, 0)) z8_3_ hb); have _ := A_ (blk_below (g := gb262) (o := .cells #[.slice Ao41 t258.length co41] 34 (0, 0)) z8_5_ hb); have _ := A_ (blk_below (g := gb266) (o := .cells #[.slice Ao47 t286.length co47] 34 (0, 0)) z8_6_ hb); have _ := A_ (blk_below (g := gb270) (o := .cells #[.slice Ao56 t288.length co56] 34 (0, 0)) z8_8_ hb); have _ := A_ (blk_below (g := gb275) (o := .cells #[.slice Ao65 t271.length co65] 34 (0, 0)) z8_11_ hb); have _ := A_ (below_step z8_1_ hb); clear HO_263000 HO_267000 HO_271000 HO_276000 BK248 BK249 BK262 BK266 BK270 BK275 HB; rename_i HO_263000 HO_267000 HO_271000 HO_276000 BK248 BK249 BK262 BK266 BK270 BK275 HB; (try clear hb)))
             have _ := A_ (Kd.R_drew HO_263000.out)
             have _ := A_ (Kd.R_drew HO_267000.out)
             have _ := A_ (Kd.R_drew HO_271000.out)
             have _ := A_ (Kd.R_drew HO_276000.out)
             have _ := A_ (blk_drew BK248.out)
             have _ := A_ (blk_drew BK249.out)
             have _ := A_ (blk_drew BK262.out)
             have _ := A_ (blk_drew BK266.out)
             have _ := A_ (blk_drew BK270.out)
             have _ := A_ (blk_drew BK275.out)
             have _ := A_ (below_drew1 HB.out)
             clear HO_263000 HO_267000 HO_271000 HO_276000 BK248 BK249 BK262 BK266 BK270 BK275 HB
             rename_i HO_263000 HO_267000 HO_271000 HO_276000 BK248 BK249 BK262 BK266 BK270 BK275 HB
             refine start_ (n := 11) (S := fun w' => w'.cell? ⟨gb248, 0, none⟩ = some (.slice A0_0 l0_0.length c0_0) ∧ w'.cell? ⟨gb249, 0, none⟩ = some (.slice A1_0 l1_0.length c1_0)) (ds := []) #[false, false, false, false, false, false, false, false, false, false, false] (by kernel_rfl) rfl rfl ⟨(blk_cell BK248.out 0).trans rfl, (blk_cell BK249.out 0).trans rfl⟩ (fun hHeld => ?_); refine with_tabW laws_FnExactComposeTrees.tab31 laws_FnExactComposeTrees.bits31 (fun HT_ HW_ => ?_)
             generalize w173.drew = w174 at HO_263000 HO_267000 HO_271000 HO_276000 BK248 BK249 BK262 BK266 BK270 BK275 HB hHeld ⊢
             refine take_ (i := 0) (N := some 95) (v := ?_) (a' := ?_) #[true, false, false, false, false, false, false, false, false, false, false] rfl rfl (take_ofW HT_.out HW_.out (by kernel_rfl)) (fun _ _ _ h => h) (Or.inl ⟨by rfl, ?_⟩) hHeld ?_ ?_
             rotate_left
             ·
              rintro w' ⟨s0, s1⟩
              go_simp
              with_reducible rfl
             rotate_left
             ·
              simp only [Act.put, sA_, sB_, sC_, i64_w, i32_w]
              rfl
             refine take_ (i := 2) (N := some 97) (v := ?_) (a' := ?_) #[true, false, true, false, false, false, false, false, false, false, false] rfl rfl (take_ofW HT_.out HW_.out (by kernel_rfl)) (fun _ _ _ h => h) (Or.inl ⟨by rfl, ?_⟩) hHeld ?_ ?_
             rotate_left
             ·
              rintro w' ⟨s0, s1⟩
              go_simp
              with_reducible rfl
             rotate_left
             ·
              simp only [Act.put, sA_, sB_, sC_, i64_w, i32_w]
              rfl
             refine join_ (σ := Value × Value × Value × Nat) 2 #[true, true, true, true, true, true, true, true, true, false, false] (fun s_ => [(96, .agg #[s_.1]), (98, .agg #[s_.2.1]), (99, .tuple #[.agg #[s_.2.2.1], .int .i64 t302]), (15, .pointer (some ⟨s_.2.2.2, 0, none⟩)), (94, .tuple #[.agg #[s_.2.2.1], .int .i64 t302]), (100, .agg #[s_.2.2.1]), (101, .int .i64 t302)]) (fun s_ w' => (w'.cell? ⟨gb248, 0, none⟩ = some (.slice A0_0 l0_0.length c0_0) ∧ w'.cell? ⟨gb249, 0, none⟩ = some (.slice A1_0 l1_0.length c1_0)) ∧ (Kd.R k89 89 w' w.heap.size (fun k_ => some k_ ≠ (s_.2.1 : Value).ownBlock ∧ some k_ ≠ (s_.2.2.1 : Value).ownBlock ∧ some k_ ≠ (.slice Ao41 t258.length co41 : Value).ownBlock ∧ some k_ ≠ (.slice Ao47 t286.length co47 : Value).ownBlock ∧ some k_ ≠ (.slice Ao56 t288.length co56 : Value).ownBlock ∧ some k_ ≠ (.slice Ao65 t271.length co65 : Value).ownBlock) s_.1 t293) ∧ (Kd.R k89 89 w' w.heap.size (fun k_ => some k_ ≠ (s_.1 : Value).ownBlock ∧ some k_ ≠ (s_.2.2.1 : Value).ownBlock ∧ some k_ ≠ (.slice Ao41 t258.length co41 : Value).ownBlock ∧ some k_ ≠ (.slice Ao47 t286.length co47 : Value).ownBlock ∧ some k_ ≠ (.slice Ao56 t288.length co56 : Value).ownBlock ∧ some k_ ≠ (.slice Ao65 t271.length co65 : Value).ownBlock) s_.2.1 t296) ∧ (Kd.R k89 89 w' w.heap.size (fun k_ => some k_ ≠ (s_.1 : Value).ownBlock ∧ some k_ ≠ (s_.2.1 : Value).ownBlock ∧ some k_ ≠ (.slice Ao41 t258.length co41 : Value).ownBlock ∧ some k_ ≠ (.slice Ao47 t286.length co47 : Value).ownBlock ∧ some k_ ≠ (.slice Ao56 t288.length co56 : Value).ownBlock ∧ some k_ ≠ (.slice Ao65 t271.length co65 : Value).ownBlock) s_.2.2.1 t299) ∧ (Kd.R k89 89 w' w.heap.size (fun k_ => some k_ ≠ (s_.1 : Value).ownBlock ∧ some k_ ≠ (s_.2.1 : Value).ownBlock ∧ some k_ ≠ (s_.2.2.1 : Value).ownBlock ∧ some k_ ≠ (.slice Ao47 t286.length co47 : Value).ownBlock ∧ some k_ ≠ (.slice Ao56 t288.length co56 : Value).ownBlock ∧ some k_ ≠ (.slice Ao65 t271.length co65 : Value).ownBlock) (.slice Ao41 t258.length co41) t258) ∧ (Kd.R k89 89 w' w.heap.size (fun k_ => some k_ ≠ (s_.1 : Value).ownBlock ∧ some k_ ≠ (s_.2.1 : Value).ownBlock ∧ some k_ ≠ (s_.2.2.1 : Value).ownBlock ∧ some k_ ≠ (.slice Ao41 t258.length co41 : Value).ownBlock ∧ some k_ ≠ (.slice Ao56 t288.length co56 : Value).ownBlock ∧ some k_ ≠ (.slice Ao65 t271.length co65 : Value).ownBlock) (.slice Ao47 t286.length co47) t286) ∧ (Kd.R k89 89 w' w.heap.size (fun k_ => some k_ ≠ (s_.1 : Value).ownBlock ∧ some k_ ≠ (s_.2.1 : Value).ownBlock ∧ some k_ ≠ (s_.2.2.1 : Value).ownBlock ∧ some k_ ≠ (.slice Ao41 t258.length co41 : Value).ownBlock ∧ some k_ ≠ (.slice Ao47 t286.length co47 : Value).ownBlock ∧ some k_ ≠ (.slice Ao65 t271.length co65 : Value).ownBlock) (.slice Ao56 t288.length co56) t288) ∧ (Kd.R k89 89 w' w.heap.size (fun k_ => some k_ ≠ (s_.1 : Value).ownBlock ∧ some k_ ≠ (s_.2.1 : Value).ownBlock ∧ some k_ ≠ (s_.2.2.1 : Value).ownBlock ∧ some k_ ≠ (.slice Ao41 t258.length co41 : Value).ownBlock ∧ some k_ ≠ (.slice Ao47 t286.length co47 : Value).ownBlock ∧ some k_ ≠ (.slice Ao56 t288.length co56 : Value).ownBlock) (.slice Ao65 t271.length co65) t291) ∧ (w'.heap[gb248]? = some (.cells #[.slice A0_0 l0_0.length c0_0] 24 (0, 0))) ∧ (w'.heap[gb249]? = some (.cells #[.slice A1_0 l1_0.length c1_0] 24 (0, 0))) ∧ (w'.heap[gb262]? = some (.cells #[.slice Ao41 t258.length co41] 34 (0, 0))) ∧ (w'.heap[gb266]? = some (.cells #[.slice Ao47 t286.length co47] 34 (0, 0))) ∧ (w'.heap[gb270]? = some (.cells #[.slice Ao56 t288.length co56] 34 (0, 0))) ∧ (w'.heap[gb275]? = some (.cells #[.slice Ao65 t271.length co65] 34 (0, 0))) ∧ (w'.heap[s_.2.2.2]? = some (.cells #[.slice none 0 0] 34 (0, 0))) ∧ (w.heap.size ≤ s_.2.2.2) ∧ (w.heap.size ≤ s_.2.2.2) ∧ (gb248 ≠ s_.2.2.2) ∧ (s_.2.2.2 ≠ gb248) ∧ (gb249 ≠ s_.2.2.2) ∧ (s_.2.2.2 ≠ gb249) ∧ (gb262 ≠ s_.2.2.2) ∧ (s_.2.2.2 ≠ gb262) ∧ (gb266 ≠ s_.2.2.2) ∧ (s_.2.2.2 ≠ gb266) ∧ (gb270 ≠ s_.2.2.2) ∧ (s_.2.2.2 ≠ gb270) ∧ (gb275 ≠ s_.2.2.2) ∧ (s_.2.2.2 ≠ gb275) ∧ (Below w.heap.size w w')) ?_ ?_
             rotate_left
             ·
              intro hCont
              refine two_ (i := 1) (j := 8) (Ni := some 96) (Nj := some 15) #[true, true, true, false, false, false, false, false, false, false, false] #[true, false, true, false, false, false, false, false, true, false, false] rfl rfl rfl rfl (two_of HT_.out (by kernel_rfl)) (by decide) (by decide) (fun K hK => ?_) (fun K hK => ?_)
              ·
               skip
               refine goes_ Try.func17 (by kernel_rfl) rfl #[.agg #[.slice A0_0 l0_0.length c0_0]] (by rfl) rfl rfl z8_7_ ?_
               with_reducible refine (laws_toTree.calls kj106 _ _ l0_0 t293 _ ?side1 ?side2 A161.out).mono ?_
               (case side1 => have hx_ := (Kd.C_below HR0_0.out HB.out); exact kc_)
               (case side2 => exact HC0_0.out)
               rintro e w175 ⟨v294, rfl, ho0, hb⟩
               refine ⟨_, rfl, ?_⟩
               have _ := A_ (Kd.R_elder' z8_15_ (Kd.R_base ho0) hb)
               have _ := A_ (Kd.R_elder' z8_14_ (Kd.R_base ho0) hb)
               have _ := A_ (Kd.R_elder' z8_13_ (Kd.R_base ho0) hb)
               have _ := A_ (Kd.R_elder' z8_12_ (Kd.R_base ho0) hb)
               have _ := A_ (Kd.R_lower (Kd.R_new' (Kd.R_new' (Kd.R_new' (Kd.R_new' ho0 (Kd.R_lt z8_15_)) (Kd.R_lt z8_14_)) (Kd.R_lt z8_13_)) (Kd.R_lt z8_12_)) (below_size z8_1_))
               have _ := A_ (blk_below (g := gb248) (o := .cells #[.slice A0_0 l0_0.length c0_0] 24 (0, 0)) z8_2_ hb)
               have _ := A_ (blk_below (g := gb249) (o := .cells #[.slice A1_0 l1_0.length c1_0] 24 (0, 0)) z8_3_ hb)
               have _ := A_ (blk_below (g := gb262) (o := .cells #[.slice Ao41 t258.length co41] 34 (0, 0)) z8_5_ hb)
               have _ := A_ (blk_below (g := gb266) (o := .cells #[.slice Ao47 t286.length co47] 34 (0, 0)) z8_6_ hb)
               have _ := A_ (blk_below (g := gb270) (o := .cells #[.slice Ao56 t288.length co56] 34 (0, 0)) z8_8_ hb)
               have _ := A_ (blk_below (g := gb275) (o := .cells #[.slice Ao65 t271.length co65] 34 (0, 0)) z8_11_ hb)
               have _ := A_ (below_step z8_1_ hb)
               clear HO_263000 HO_267000 HO_271000 HO_276000 BK248 BK249 BK262 BK266 BK270 BK275 HB
               rename_i HO_263000 HO_267000 HO_271000 HO_276000 HO295 BK248 BK249 BK262 BK266 BK270 BK275 HB
               (try clear hb)
               (try clear hb2)
               (try clear hk)
               (try clear hi)
               (try clear ho0)
               refine hK.out _ _ ⟨(blk_cell BK248.out 0).trans rfl, (blk_cell BK249.out 0).trans rfl⟩ (fun hHeld => ?_)
               clear hK K
               refine norm_ (a' := ?_) ?_ ?_
               rotate_left
               ·
                show Act.put _ (some 96) _ = _
                simp only [Act.put, sA_, sB_, sC_, i64_w, i32_w]
                rfl
               refine two_ (i := 3) (j := 8) (Ni := some 98) (Nj := some 15) #[true, true, true, true, false, false, false, false, false, false, false] #[true, true, true, false, false, false, false, false, true, false, false] rfl rfl rfl rfl (two_of HT_.out (by kernel_rfl)) (by decide) (by decide) (fun K hK => ?_) (fun K hK => ?_)
               ·
                skip
                refine goes_ Try.func17 (by kernel_rfl) rfl #[.agg #[.slice A1_0 l1_0.length c1_0]] (by rfl) rfl rfl z8_7_ ?_
                with_reducible refine (laws_toTree.calls kj106 _ _ l1_0 t296 _ ?side1 ?side2 A162.out).mono ?_
                (case side1 => have hx_ := (Kd.C_below HR1_0.out HB.out); exact kc_)
                (case side2 => exact HC1_0.out)
                rintro e w176 ⟨v297, rfl, ho0, hb⟩
                refine ⟨_, rfl, ?_⟩
                have _ := A_ (Kd.R_elder' z8_15_ (Kd.R_base ho0) hb)
                have _ := A_ (Kd.R_elder' z8_14_ (Kd.R_base ho0) hb)
                have _ := A_ (Kd.R_elder' z8_13_ (Kd.R_base ho0) hb)
                have _ := A_ (Kd.R_elder' z8_12_ (Kd.R_base ho0) hb)
                have _ := A_ (Kd.R_elder' z8_17_ (Kd.R_base ho0) hb)
                have _ := A_ (Kd.R_lower (Kd.R_new' (Kd.R_new' (Kd.R_new' (Kd.R_new' (Kd.R_new' ho0 (Kd.R_lt z8_15_)) (Kd.R_lt z8_14_)) (Kd.R_lt z8_13_)) (Kd.R_lt z8_12_)) (Kd.R_lt z8_17_)) (below_size z8_1_))
                have _ := A_ (blk_below (g := gb248) (o := .cells #[.slice A0_0 l0_0.length c0_0] 24 (0, 0)) z8_2_ hb)
                have _ := A_ (blk_below (g := gb249) (o := .cells #[.slice A1_0 l1_0.length c1_0] 24 (0, 0)) z8_3_ hb)
                have _ := A_ (blk_below (g := gb262) (o := .cells #[.slice Ao41 t258.length co41] 34 (0, 0)) z8_5_ hb)
                have _ := A_ (blk_below (g := gb266) (o := .cells #[.slice Ao47 t286.length co47] 34 (0, 0)) z8_6_ hb)
                have _ := A_ (blk_below (g := gb270) (o := .cells #[.slice Ao56 t288.length co56] 34 (0, 0)) z8_8_ hb)
                have _ := A_ (blk_below (g := gb275) (o := .cells #[.slice Ao65 t271.length co65] 34 (0, 0)) z8_11_ hb)
                have _ := A_ (below_step z8_1_ hb)
                clear HO_263000 HO_267000 HO_271000 HO_276000 HO295 BK248 BK249 BK262 BK266 BK270 BK275 HB
                rename_i HO_263000 HO_267000 HO_271000 HO_276000 HO295 HO298 BK248 BK249 BK262 BK266 BK270 BK275 HB
                (try clear hb)
                (try clear hb2)
                (try clear hk)
                (try clear hi)
                (try clear ho0)
                obtain ⟨Ao177, co177, eo177⟩ := Kd.R_slice HO295.out
                (first | subst eo177 | (injection eo177 with f1_ f2_ f3_; have f4_ := f1_.symm; have f5_ := f3_.symm; clear f1_ f2_ f3_; subst f4_; subst f5_))
                obtain ⟨Ao178, co178, eo178⟩ := Kd.R_slice HO298.out
                (first | subst eo178 | (injection eo178 with f1_ f2_ f3_; have f4_ := f1_.symm; have f5_ := f3_.symm; clear f1_ f2_ f3_; subst f4_; subst f5_))
                refine hK.out _ _ ⟨(blk_cell BK248.out 0).trans rfl, (blk_cell BK249.out 0).trans rfl⟩ (fun hHeld => ?_)
                clear hK K
                refine norm_ (a' := ?_) ?_ ?_
                rotate_left
                ·
                 show Act.put _ (some 98) _ = _
                 simp only [Act.put, sA_, sB_, sC_, i64_w, i32_w]
                 rfl
                refine two_ (i := 4) (j := 8) (Ni := some 99) (Nj := some 15) #[true, true, true, true, true, false, false, false, false, false, false] #[true, true, true, true, false, false, false, false, true, false, false] rfl rfl rfl rfl (two_of HT_.out (by kernel_rfl)) (by decide) (by decide) (fun K hK => ?_) (fun K hK => ?_)
                ·
                 skip
                 refine goes_ Try.func30 (by kernel_rfl) rfl #[.agg #[.slice Ao177 t293.length co177], .agg #[.slice Ao178 t296.length co178]] (by rfl) rfl rfl z8_7_ ?_
                 with_reducible refine (impl_ComposeTrees.calls kj106 _ _ t293 _ _ t296 t299 t302 _ ?side1 ?side2 ?side3 ?side4 A163.out).mono ?_
                 (case side1 => have hx_ := (Kd.R_reads' HO295.out).2.2; exact kc_)
                 (case side2 => exact (Kd.R_reads' HO295.out).2.1)
                 (case side3 => have hx_ := (Kd.R_reads' HO298.out).2.2; exact kc_)
                 (case side4 => exact (Kd.R_reads' HO298.out).2.1)
                 rintro e w179 ⟨v300, rfl, ho0, hb⟩
                 refine ⟨_, rfl, ?_⟩
                 have _ := A_ (Kd.R_elder' z8_15_ (Kd.R_base ho0) hb)
                 have _ := A_ (Kd.R_elder' z8_14_ (Kd.R_base ho0) hb)
                 have _ := A_ (Kd.R_elder' z8_13_ (Kd.R_base ho0) hb)
                 have _ := A_ (Kd.R_elder' z8_12_ (Kd.R_base ho0) hb)
                 have _ := A_ (Kd.R_elder' z8_17_ (Kd.R_base ho0) hb)
                 have _ := A_ (Kd.R_elder' z8_24_ (Kd.R_base ho0) hb)
                 have _ := A_ (Kd.R_lower (Kd.R_new' (Kd.R_new' (Kd.R_new' (Kd.R_new' (Kd.R_new' (Kd.R_new' ho0 (Kd.R_lt z8_15_)) (Kd.R_lt z8_14_)) (Kd.R_lt z8_13_)) (Kd.R_lt z8_12_)) (Kd.R_lt z8_17_)) (Kd.R_lt z8_24_)) (below_size z8_1_))
                 have _ := A_ (blk_below (g := gb248) (o := .cells #[.slice A0_0 l0_0.length c0_0] 24 (0, 0)) z8_2_ hb)
                 have _ := A_ (blk_below (g := gb249) (o := .cells #[.slice A1_0 l1_0.length c1_0] 24 (0, 0)) z8_3_ hb)
                 have _ := A_ (blk_below (g := gb262) (o := .cells #[.slice Ao41 t258.length co41] 34 (0, 0)) z8_5_ hb)
                 have _ := A_ (blk_below (g := gb266) (o := .cells #[.slice Ao47 t286.length co47] 34 (0, 0)) z8_6_ hb)
                 have _ := A_ (blk_below (g := gb270) (o := .cells #[.slice Ao56 t288.length co56] 34 (0, 0)) z8_8_ hb)
                 have _ := A_ (blk_below (g := gb275) (o := .cells #[.slice Ao65 t271.length co65] 34 (0, 0)) z8_11_ hb)
                 have _ := A_ (below_step z8_1_ hb)
                 clear HO_263000 HO_267000 HO_271000 HO_276000 HO295 HO298 BK248 BK249 BK262 BK266 BK270 BK275 HB
                 rename_i HO_263000 HO_267000 HO_271000 HO_276000 HO295 HO298 HO301 BK248 BK249 BK262 BK266 BK270 BK275 HB
                 (try clear hb)
                 (try clear hb2)
                 (try clear hk)
                 (try clear hi)
                 (try clear ho0)
                 refine hK.out _ _ ⟨(blk_cell BK248.out 0).trans rfl, (blk_cell BK249.out 0).trans rfl⟩ (fun hHeld => ?_)
                 clear hK K
                 refine norm_ (a' := ?_) ?_ ?_
                 rotate_left
                 ·
                  show Act.put _ (some 99) _ = _
                  simp only [Act.put, sA_, sB_, sC_, i64_w, i32_w]
                  rfl
                 refine pure_ (i := 5) (N := some 94) (v := ?_) (a' := ?_) #[true, true, true, true, true, true, false, false, false, false, false] rfl rfl (any_of HT_.out (by kernel_rfl)) (fun _ _ _ h => h) (Or.inl ⟨by rfl, ?_⟩) ?_ ?_
                 rotate_left
                 ·
                  intro w'
                  go_simp
                  with_reducible rfl
                 rotate_left
                 ·
                  simp only [Act.put, sA_, sB_, sC_, i64_w, i32_w]
                  rfl
                 refine pure_ (i := 6) (N := some 100) (v := ?_) (a' := ?_) #[true, true, true, true, true, true, true, false, false, false, false] rfl rfl (any_of HT_.out (by kernel_rfl)) (fun _ _ _ h => h) (Or.inl ⟨by rfl, ?_⟩) ?_ ?_
                 rotate_left
                 ·
                  intro w'
                  go_simp
                  with_reducible rfl
                 rotate_left
                 ·
                  simp only [Act.put, sA_, sB_, sC_, i64_w, i32_w]
                  rfl
                 refine pure_ (i := 7) (N := some 101) (v := ?_) (a' := ?_) #[true, true, true, true, true, true, true, true, false, false, false] rfl rfl (any_of HT_.out (by kernel_rfl)) (fun _ _ _ h => h) (Or.inl ⟨by rfl, ?_⟩) ?_ ?_
                 rotate_left
                 ·
                  intro w'
                  go_simp
                  with_reducible rfl
                 rotate_left
                 ·
                  simp only [Act.put, sA_, sB_, sC_, i64_w, i32_w]
                  rfl
                 refine one_ (i := 8) (N := some 15) #[true, true, true, true, true, true, true, true, true, false, false] rfl rfl (one_of HT_.out (by kernel_rfl)) (by decide) (fun K hK => ?_)
                 refine box_step ?hg (N := 15) ?hd (cs := #[.slice none 0 0]) (t := 34) ?hr ?_; (case hd => rfl); (case hg => rfl); (case hr => first | (go_simp; done) | (go_simp; rfl))
                 intro gb303 hg w180 hbox hb
                 have _ := A_ (Kd.R_below z8_15_ hb)
                 have _ := A_ (Kd.R_below z8_14_ hb)
                 have _ := A_ (Kd.R_below z8_13_ hb)
                 have _ := A_ (Kd.R_below z8_12_ hb)
                 have _ := A_ (Kd.R_below z8_17_ hb)
                 have _ := A_ (Kd.R_below z8_24_ hb)
                 have _ := A_ (Kd.R_below (by (with_reducible repeat (first | apply Kd.R_alloc | apply Kd.R_drewN | apply Kd.R_drew)); exact HO301.out) hb)
                 have _ := A_ (blk_below (g := gb248) (o := .cells #[.slice A0_0 l0_0.length c0_0] 24 (0, 0)) z8_2_ hb)
                 have _ := A_ (blk_below (g := gb249) (o := .cells #[.slice A1_0 l1_0.length c1_0] 24 (0, 0)) z8_3_ hb)
                 have _ := A_ (blk_below (g := gb262) (o := .cells #[.slice Ao41 t258.length co41] 34 (0, 0)) z8_5_ hb)
                 have _ := A_ (blk_below (g := gb266) (o := .cells #[.slice Ao47 t286.length co47] 34 (0, 0)) z8_6_ hb)
                 have _ := A_ (blk_below (g := gb270) (o := .cells #[.slice Ao56 t288.length co56] 34 (0, 0)) z8_8_ hb)
                 have _ := A_ (blk_below (g := gb275) (o := .cells #[.slice Ao65 t271.length co65] 34 (0, 0)) z8_11_ hb)
                 have _ := A_ (below_step z8_1_ hb)
                 have _ := A_ (hbox)
                 have _ := A_ ((by rw [hg]; exact (below_size z8_1_) : w.heap.size ≤ gb303))
                 have _ := A_ ((by rw [hg]; exact (below_size z8_1_) : w.heap.size ≤ gb303))
                 have _ := A_ ((by rw [hg]; exact Nat.ne_of_lt (blk_lt (g := gb248) (o := .cells #[.slice A0_0 l0_0.length c0_0] 24 (0, 0)) z8_2_) : gb248 ≠ gb303))
                 have _ := A_ ((by rw [hg]; exact Nat.ne_of_gt (blk_lt (g := gb248) (o := .cells #[.slice A0_0 l0_0.length c0_0] 24 (0, 0)) z8_2_) : gb303 ≠ gb248))
                 have _ := A_ ((by rw [hg]; exact Nat.ne_of_lt (blk_lt (g := gb249) (o := .cells #[.slice A1_0 l1_0.length c1_0] 24 (0, 0)) z8_3_) : gb249 ≠ gb303))
                 have _ := A_ ((by rw [hg]; exact Nat.ne_of_gt (blk_lt (g := gb249) (o := .cells #[.slice A1_0 l1_0.length c1_0] 24 (0, 0)) z8_3_) : gb303 ≠ gb249))
                 have _ := A_ ((by rw [hg]; exact Nat.ne_of_lt (blk_lt (g := gb262) (o := .cells #[.slice Ao41 t258.length co41] 34 (0, 0)) z8_5_) : gb262 ≠ gb303))
                 have _ := A_ ((by rw [hg]; exact Nat.ne_of_gt (blk_lt (g := gb262) (o := .cells #[.slice Ao41 t258.length co41] 34 (0, 0)) z8_5_) : gb303 ≠ gb262))
                 have _ := A_ ((by rw [hg]; exact Nat.ne_of_lt (blk_lt (g := gb266) (o := .cells #[.slice Ao47 t286.length co47] 34 (0, 0)) z8_6_) : gb266 ≠ gb303))
                 have _ := A_ ((by rw [hg]; exact Nat.ne_of_gt (blk_lt (g := gb266) (o := .cells #[.slice Ao47 t286.length co47] 34 (0, 0)) z8_6_) : gb303 ≠ gb266))
                 have _ := A_ ((by rw [hg]; exact Nat.ne_of_lt (blk_lt (g := gb270) (o := .cells #[.slice Ao56 t288.length co56] 34 (0, 0)) z8_8_) : gb270 ≠ gb303))
                 have _ := A_ ((by rw [hg]; exact Nat.ne_of_gt (blk_lt (g := gb270) (o := .cells #[.slice Ao56 t288.length co56] 34 (0, 0)) z8_8_) : gb303 ≠ gb270))
                 have _ := A_ ((by rw [hg]; exact Nat.ne_of_lt (blk_lt (g := gb275) (o := .cells #[.slice Ao65 t271.length co65] 34 (0, 0)) z8_11_) : gb275 ≠ gb303))
                 have _ := A_ ((by rw [hg]; exact Nat.ne_of_gt (blk_lt (g := gb275) (o := .cells #[.slice Ao65 t271.length co65] 34 (0, 0)) z8_11_) : gb303 ≠ gb275))
                 clear HO_263000 HO_267000 HO_271000 HO_276000 HO295 HO298 HO301 BK248 BK249 BK262 BK266 BK270 BK275 HB
                 rename_i HO_263000 HO_267000 HO_271000 HO_276000 HO295 HO298 HO301 BK248 BK249 BK262 BK266 BK270 BK275 HB BK303 GW303 GE303 NB248_303 NB303_248 NB249_303 NB303_249 NB262_303 NB303_262 NB266_303 NB303_266 NB270_303 NB303_270 NB275_303 NB303_275
                 clear hb hbox hg
                 refine hK.out _ _ ⟨(blk_cell BK248.out 0).trans rfl, (blk_cell BK249.out 0).trans rfl⟩ (fun hHeld => ?_)
                 clear hK K
                 refine norm_ (a' := ?_) ?_ ?_
                 rotate_left
                 ·
                  show Act.put _ (some 15) _ = _
                  simp only [Act.put, sA_, sB_, sC_, i64_w, i32_w]
                  rfl
                 exact norm_ z8_48_ (hCont (.slice Ao177 t293.length co177, .slice Ao178 t296.length co178, v300, gb303) _ ⟨hHeld, z8_35_, z8_34_, z8_33_, z8_32_, z8_31_, z8_30_, z8_29_, z8_2_, z8_3_, z8_5_, z8_6_, z8_8_, z8_11_, z8_22_, GW303.out, GE303.out, NB248_303.out, NB303_248.out, NB249_303.out, NB303_249.out, NB262_303.out, NB303_262.out, NB266_303.out, NB303_266.out, NB270_303.out, NB303_270.out, NB275_303.out, NB303_275.out, z8_4_⟩)
                ·
                 skip
                 refine box_step ?hg (N := 15) ?hd (cs := #[.slice none 0 0]) (t := 34) ?hr ?_; (case hd => rfl); (case hg => rfl); (case hr => first | (go_simp; done) | (go_simp; rfl))
                 intro gb303 hg w177 hbox hb
                 have _ := A_ (Kd.R_below z8_15_ hb)
                 have _ := A_ (Kd.R_below z8_14_ hb)
                 have _ := A_ (Kd.R_below z8_13_ hb)
                 have _ := A_ (Kd.R_below z8_12_ hb)
                 have _ := A_ (Kd.R_below z8_17_ hb)
                 have _ := A_ (Kd.R_below z8_24_ hb)
                 have _ := A_ (blk_below (g := gb248) (o := .cells #[.slice A0_0 l0_0.length c0_0] 24 (0, 0)) z8_2_ hb)
                 have _ := A_ (blk_below (g := gb249) (o := .cells #[.slice A1_0 l1_0.length c1_0] 24 (0, 0)) z8_3_ hb)
                 have _ := A_ (blk_below (g := gb262) (o := .cells #[.slice Ao41 t258.length co41] 34 (0, 0)) z8_5_ hb)
                 have _ := A_ (blk_below (g := gb266) (o := .cells #[.slice Ao47 t286.length co47] 34 (0, 0)) z8_6_ hb)
                 have _ := A_ (blk_below (g := gb270) (o := .cells #[.slice Ao56 t288.length co56] 34 (0, 0)) z8_8_ hb)
                 have _ := A_ (blk_below (g := gb275) (o := .cells #[.slice Ao65 t271.length co65] 34 (0, 0)) z8_11_ hb)
                 have _ := A_ (below_step z8_1_ hb)
                 have _ := A_ (hbox)
                 have _ := A_ ((by rw [hg]; exact (below_size z8_1_) : w.heap.size ≤ gb303))
                 have _ := A_ ((by rw [hg]; exact (below_size z8_1_) : w.heap.size ≤ gb303))
                 have _ := A_ ((by rw [hg]; exact Nat.ne_of_lt (blk_lt (g := gb248) (o := .cells #[.slice A0_0 l0_0.length c0_0] 24 (0, 0)) z8_2_) : gb248 ≠ gb303))
                 have _ := A_ ((by rw [hg]; exact Nat.ne_of_gt (blk_lt (g := gb248) (o := .cells #[.slice A0_0 l0_0.length c0_0] 24 (0, 0)) z8_2_) : gb303 ≠ gb248))
                 have _ := A_ ((by rw [hg]; exact Nat.ne_of_lt (blk_lt (g := gb249) (o := .cells #[.slice A1_0 l1_0.length c1_0] 24 (0, 0)) z8_3_) : gb249 ≠ gb303))
                 have _ := A_ ((by rw [hg]; exact Nat.ne_of_gt (blk_lt (g := gb249) (o := .cells #[.slice A1_0 l1_0.length c1_0] 24 (0, 0)) z8_3_) : gb303 ≠ gb249))
                 have _ := A_ ((by rw [hg]; exact Nat.ne_of_lt (blk_lt (g := gb262) (o := .cells #[.slice Ao41 t258.length co41] 34 (0, 0)) z8_5_) : gb262 ≠ gb303))
                 have _ := A_ ((by rw [hg]; exact Nat.ne_of_gt (blk_lt (g := gb262) (o := .cells #[.slice Ao41 t258.length co41] 34 (0, 0)) z8_5_) : gb303 ≠ gb262))
                 have _ := A_ ((by rw [hg]; exact Nat.ne_of_lt (blk_lt (g := gb266) (o := .cells #[.slice Ao47 t286.length co47] 34 (0, 0)) z8_6_) : gb266 ≠ gb303))
                 have _ := A_ ((by rw [hg]; exact Nat.ne_of_gt (blk_lt (g := gb266) (o := .cells #[.slice Ao47 t286.length co47] 34 (0, 0)) z8_6_) : gb303 ≠ gb266))
                 have _ := A_ ((by rw [hg]; exact Nat.ne_of_lt (blk_lt (g := gb270) (o := .cells #[.slice Ao56 t288.length co56] 34 (0, 0)) z8_8_) : gb270 ≠ gb303))
                 have _ := A_ ((by rw [hg]; exact Nat.ne_of_gt (blk_lt (g := gb270) (o := .cells #[.slice Ao56 t288.length co56] 34 (0, 0)) z8_8_) : gb303 ≠ gb270))
                 have _ := A_ ((by rw [hg]; exact Nat.ne_of_lt (blk_lt (g := gb275) (o := .cells #[.slice Ao65 t271.length co65] 34 (0, 0)) z8_11_) : gb275 ≠ gb303))
                 have _ := A_ ((by rw [hg]; exact Nat.ne_of_gt (blk_lt (g := gb275) (o := .cells #[.slice Ao65 t271.length co65] 34 (0, 0)) z8_11_) : gb303 ≠ gb275))
                 clear HO_263000 HO_267000 HO_271000 HO_276000 HO295 HO298 BK248 BK249 BK262 BK266 BK270 BK275 HB
                 rename_i HO_263000 HO_267000 HO_271000 HO_276000 HO295 HO298 BK248 BK249 BK262 BK266 BK270 BK275 HB BK303 GW303 GE303 NB248_303 NB303_248 NB249_303 NB303_249 NB262_303 NB303_262 NB266_303 NB303_266 NB270_303 NB303_270 NB275_303 NB303_275
                 clear hb hbox hg
                 obtain ⟨Ao178, co178, eo178⟩ := Kd.R_slice HO295.out
                 (first | subst eo178 | (injection eo178 with f1_ f2_ f3_; have f4_ := f1_.symm; have f5_ := f3_.symm; clear f1_ f2_ f3_; subst f4_; subst f5_))
                 obtain ⟨Ao179, co179, eo179⟩ := Kd.R_slice HO298.out
                 (first | subst eo179 | (injection eo179 with f1_ f2_ f3_; have f4_ := f1_.symm; have f5_ := f3_.symm; clear f1_ f2_ f3_; subst f4_; subst f5_))
                 refine hK.out _ _ ⟨(blk_cell BK248.out 0).trans rfl, (blk_cell BK249.out 0).trans rfl⟩ (fun hHeld => ?_)
                 clear hK K
                 refine norm_ (a' := ?_) ?_ ?_
                 rotate_left
                 ·
                  show Act.put _ (some 15) _ = _
                  simp only [Act.put, sA_, sB_, sC_, i64_w, i32_w]
                  rfl
                 refine one_ (i := 4) (N := some 99) #[true, true, true, true, true, false, false, false, true, false, false] rfl rfl (one_of HT_.out (by kernel_rfl)) (by decide) (fun K hK => ?_)
                 refine goes_ Try.func30 (by kernel_rfl) rfl #[.agg #[.slice Ao178 t293.length co178], .agg #[.slice Ao179 t296.length co179]] (by rfl) rfl rfl z8_7_ ?_
                 with_reducible refine (impl_ComposeTrees.calls kj106 _ _ t293 _ _ t296 t299 t302 _ ?side1 ?side2 ?side3 ?side4 A163.out).mono ?_
                 (case side1 => have hx_ := (Kd.R_reads' HO295.out).2.2; exact kc_)
                 (case side2 => exact (Kd.R_reads' HO295.out).2.1)
                 (case side3 => have hx_ := (Kd.R_reads' HO298.out).2.2; exact kc_)
                 (case side4 => exact (Kd.R_reads' HO298.out).2.1)
                 rintro e w180 ⟨v300, rfl, ho0, hb⟩
                 refine ⟨_, rfl, ?_⟩
                 have _ := A_ (Kd.R_elder' z8_15_ (Kd.R_base ho0) hb)
                 have _ := A_ (Kd.R_elder' z8_14_ (Kd.R_base ho0) hb)
                 have _ := A_ (Kd.R_elder' z8_13_ (Kd.R_base ho0) hb)
                 have _ := A_ (Kd.R_elder' z8_12_ (Kd.R_base ho0) hb)
                 have _ := A_ (Kd.R_elder' z8_17_ (Kd.R_base ho0) hb)
                 have _ := A_ (Kd.R_elder' z8_24_ (Kd.R_base ho0) hb)
                 have _ := A_ (Kd.R_lower (Kd.R_new' (Kd.R_new' (Kd.R_new' (Kd.R_new' (Kd.R_new' (Kd.R_new' ho0 (Kd.R_lt z8_15_)) (Kd.R_lt z8_14_)) (Kd.R_lt z8_13_)) (Kd.R_lt z8_12_)) (Kd.R_lt z8_17_)) (Kd.R_lt z8_24_)) (below_size z8_4_))
                 have _ := A_ (blk_below (g := gb248) (o := .cells #[.slice A0_0 l0_0.length c0_0] 24 (0, 0)) z8_2_ hb)
                 have _ := A_ (blk_below (g := gb249) (o := .cells #[.slice A1_0 l1_0.length c1_0] 24 (0, 0)) z8_3_ hb)
                 have _ := A_ (blk_below (g := gb262) (o := .cells #[.slice Ao41 t258.length co41] 34 (0, 0)) z8_5_ hb)
                 have _ := A_ (blk_below (g := gb266) (o := .cells #[.slice Ao47 t286.length co47] 34 (0, 0)) z8_6_ hb)
                 have _ := A_ (blk_below (g := gb270) (o := .cells #[.slice Ao56 t288.length co56] 34 (0, 0)) z8_8_ hb)
                 have _ := A_ (blk_below (g := gb275) (o := .cells #[.slice Ao65 t271.length co65] 34 (0, 0)) z8_11_ hb)
                 have _ := A_ (blk_below (g := gb303) (o := .cells #[.slice none 0 0] 34 (0, 0)) z8_22_ hb)
                 have _ := A_ (below_step z8_4_ hb)
                 clear HO_263000 HO_267000 HO_271000 HO_276000 HO295 HO298 BK248 BK249 BK262 BK266 BK270 BK275 BK303 HB
                 rename_i HO_263000 HO_267000 HO_271000 HO_276000 HO295 HO298 HO301 BK248 BK249 BK262 BK266 BK270 BK275 BK303 HB
                 (try clear hb)
                 (try clear hb2)
                 (try clear hk)
                 (try clear hi)
                 (try clear ho0)
                 refine hK.out _ _ ⟨(blk_cell BK248.out 0).trans rfl, (blk_cell BK249.out 0).trans rfl⟩ (fun hHeld => ?_)
                 clear hK K
                 refine norm_ (a' := ?_) ?_ ?_
                 rotate_left
                 ·
                  show Act.put _ (some 99) _ = _
                  simp only [Act.put, sA_, sB_, sC_, i64_w, i32_w]
                  rfl
                 refine pure_ (i := 5) (N := some 94) (v := ?_) (a' := ?_) #[true, true, true, true, true, true, false, false, true, false, false] rfl rfl (any_of HT_.out (by kernel_rfl)) (fun _ _ _ h => h) (Or.inl ⟨by rfl, ?_⟩) ?_ ?_
                 rotate_left
                 ·
                  intro w'
                  go_simp
                  with_reducible rfl
                 rotate_left
                 ·
                  simp only [Act.put, sA_, sB_, sC_, i64_w, i32_w]
                  rfl
                 refine pure_ (i := 6) (N := some 100) (v := ?_) (a' := ?_) #[true, true, true, true, true, true, true, false, true, false, false] rfl rfl (any_of HT_.out (by kernel_rfl)) (fun _ _ _ h => h) (Or.inl ⟨by rfl, ?_⟩) ?_ ?_
                 rotate_left
                 ·
                  intro w'
                  go_simp
                  with_reducible rfl
                 rotate_left
                 ·
                  simp only [Act.put, sA_, sB_, sC_, i64_w, i32_w]
                  rfl
                 refine pure_ (i := 7) (N := some 101) (v := ?_) (a' := ?_) #[true, true, true, true, true, true, true, true, true, false, false] rfl rfl (any_of HT_.out (by kernel_rfl)) (fun _ _ _ h => h) (Or.inl ⟨by rfl, ?_⟩) ?_ ?_
                 rotate_left
                 ·
                  intro w'
                  go_simp
                  with_reducible rfl
                 rotate_left
                 ·
                  simp only [Act.put, sA_, sB_, sC_, i64_w, i32_w]
                  rfl
                 exact norm_ z8_48_ (hCont (.slice Ao178 t293.length co178, .slice Ao179 t296.length co179, v300, gb303) _ ⟨hHeld, z8_35_, z8_34_, z8_33_, z8_32_, z8_31_, z8_30_, z8_29_, z8_2_, z8_3_, z8_5_, z8_6_, z8_8_, z8_11_, z8_22_, GW303.out, GE303.out, NB248_303.out, NB303_248.out, NB249_303.out, NB303_249.out, NB262_303.out, NB303_262.out, NB266_303.out, NB303_266.out, NB270_303.out, NB303_270.out, NB275_303.out, NB303_275.out, z8_4_⟩)
               ·
                skip
                refine box_step ?hg (N := 15) ?hd (cs := #[.slice none 0 0]) (t := 34) ?hr ?_; (case hd => rfl); (case hg => rfl); (case hr => first | (go_simp; done) | (go_simp; rfl))
                intro gb303 hg w176 hbox hb
                have _ := A_ (Kd.R_below z8_15_ hb)
                have _ := A_ (Kd.R_below z8_14_ hb)
                have _ := A_ (Kd.R_below z8_13_ hb)
                have _ := A_ (Kd.R_below z8_12_ hb)
                have _ := A_ (Kd.R_below z8_17_ hb)
                have _ := A_ (blk_below (g := gb248) (o := .cells #[.slice A0_0 l0_0.length c0_0] 24 (0, 0)) z8_2_ hb)
                have _ := A_ (blk_below (g := gb249) (o := .cells #[.slice A1_0 l1_0.length c1_0] 24 (0, 0)) z8_3_ hb)
                have _ := A_ (blk_below (g := gb262) (o := .cells #[.slice Ao41 t258.length co41] 34 (0, 0)) z8_5_ hb)
                have _ := A_ (blk_below (g := gb266) (o := .cells #[.slice Ao47 t286.length co47] 34 (0, 0)) z8_6_ hb)
                have _ := A_ (blk_below (g := gb270) (o := .cells #[.slice Ao56 t288.length co56] 34 (0, 0)) z8_8_ hb)
                have _ := A_ (blk_below (g := gb275) (o := .cells #[.slice Ao65 t271.length co65] 34 (0, 0)) z8_11_ hb)
                have _ := A_ (below_step z8_1_ hb)
                have _ := A_ (hbox)
                have _ := A_ ((by rw [hg]; exact (below_size z8_1_) : w.heap.size ≤ gb303))
                have _ := A_ ((by rw [hg]; exact (below_size z8_1_) : w.heap.size ≤ gb303))
                have _ := A_ ((by rw [hg]; exact Nat.ne_of_lt (blk_lt (g := gb248) (o := .cells #[.slice A0_0 l0_0.length c0_0] 24 (0, 0)) z8_2_) : gb248 ≠ gb303))
                have _ := A_ ((by rw [hg]; exact Nat.ne_of_gt (blk_lt (g := gb248) (o := .cells #[.slice A0_0 l0_0.length c0_0] 24 (0, 0)) z8_2_) : gb303 ≠ gb248))
                have _ := A_ ((by rw [hg]; exact Nat.ne_of_lt (blk_lt (g := gb249) (o := .cells #[.slice A1_0 l1_0.length c1_0] 24 (0, 0)) z8_3_) : gb249 ≠ gb303))
                have _ := A_ ((by rw [hg]; exact Nat.ne_of_gt (blk_lt (g := gb249) (o := .cells #[.slice A1_0 l1_0.length c1_0] 24 (0, 0)) z8_3_) : gb303 ≠ gb249))
                have _ := A_ ((by rw [hg]; exact Nat.ne_of_lt (blk_lt (g := gb262) (o := .cells #[.slice Ao41 t258.length co41] 34 (0, 0)) z8_5_) : gb262 ≠ gb303))
                have _ := A_ ((by rw [hg]; exact Nat.ne_of_gt (blk_lt (g := gb262) (o := .cells #[.slice Ao41 t258.length co41] 34 (0, 0)) z8_5_) : gb303 ≠ gb262))
                have _ := A_ ((by rw [hg]; exact Nat.ne_of_lt (blk_lt (g := gb266) (o := .cells #[.slice Ao47 t286.length co47] 34 (0, 0)) z8_6_) : gb266 ≠ gb303))
                have _ := A_ ((by rw [hg]; exact Nat.ne_of_gt (blk_lt (g := gb266) (o := .cells #[.slice Ao47 t286.length co47] 34 (0, 0)) z8_6_) : gb303 ≠ gb266))
                have _ := A_ ((by rw [hg]; exact Nat.ne_of_lt (blk_lt (g := gb270) (o := .cells #[.slice Ao56 t288.length co56] 34 (0, 0)) z8_8_) : gb270 ≠ gb303))
                have _ := A_ ((by rw [hg]; exact Nat.ne_of_gt (blk_lt (g := gb270) (o := .cells #[.slice Ao56 t288.length co56] 34 (0, 0)) z8_8_) : gb303 ≠ gb270))
                have _ := A_ ((by rw [hg]; exact Nat.ne_of_lt (blk_lt (g := gb275) (o := .cells #[.slice Ao65 t271.length co65] 34 (0, 0)) z8_11_) : gb275 ≠ gb303))
                have _ := A_ ((by rw [hg]; exact Nat.ne_of_gt (blk_lt (g := gb275) (o := .cells #[.slice Ao65 t271.length co65] 34 (0, 0)) z8_11_) : gb303 ≠ gb275))
                clear HO_263000 HO_267000 HO_271000 HO_276000 HO295 BK248 BK249 BK262 BK266 BK270 BK275 HB
                rename_i HO_263000 HO_267000 HO_271000 HO_276000 HO295 BK248 BK249 BK262 BK266 BK270 BK275 HB BK303 GW303 GE303 NB248_303 NB303_248 NB249_303 NB303_249 NB262_303 NB303_262 NB266_303 NB303_266 NB270_303 NB303_270 NB275_303 NB303_275
                clear hb hbox hg
                refine hK.out _ _ ⟨(blk_cell BK248.out 0).trans rfl, (blk_cell BK249.out 0).trans rfl⟩ (fun hHeld => ?_)
                clear hK K
                refine norm_ (a' := ?_) ?_ ?_
                rotate_left
                ·
                 show Act.put _ (some 15) _ = _
                 simp only [Act.put, sA_, sB_, sC_, i64_w, i32_w]
                 rfl
                refine one_ (i := 3) (N := some 98) #[true, true, true, true, false, false, false, false, true, false, false] rfl rfl (one_of HT_.out (by kernel_rfl)) (by decide) (fun K hK => ?_)
                refine goes_ Try.func17 (by kernel_rfl) rfl #[.agg #[.slice A1_0 l1_0.length c1_0]] (by rfl) rfl rfl z8_7_ ?_
                with_reducible refine (laws_toTree.calls kj106 _ _ l1_0 t296 _ ?side1 ?side2 A162.out).mono ?_
                (case side1 => have hx_ := (Kd.C_below HR1_0.out HB.out); exact kc_)
                (case side2 => exact HC1_0.out)
                rintro e w177 ⟨v297, rfl, ho0, hb⟩
                refine ⟨_, rfl, ?_⟩
                have _ := A_ (Kd.R_elder' z8_15_ (Kd.R_base ho0) hb)
                have _ := A_ (Kd.R_elder' z8_14_ (Kd.R_base ho0) hb)
                have _ := A_ (Kd.R_elder' z8_13_ (Kd.R_base ho0) hb)
                have _ := A_ (Kd.R_elder' z8_12_ (Kd.R_base ho0) hb)
                have _ := A_ (Kd.R_elder' z8_17_ (Kd.R_base ho0) hb)
                have _ := A_ (Kd.R_lower (Kd.R_new' (Kd.R_new' (Kd.R_new' (Kd.R_new' (Kd.R_new' ho0 (Kd.R_lt z8_15_)) (Kd.R_lt z8_14_)) (Kd.R_lt z8_13_)) (Kd.R_lt z8_12_)) (Kd.R_lt z8_17_)) (below_size z8_4_))
                have _ := A_ (blk_below (g := gb248) (o := .cells #[.slice A0_0 l0_0.length c0_0] 24 (0, 0)) z8_2_ hb)
                have _ := A_ (blk_below (g := gb249) (o := .cells #[.slice A1_0 l1_0.length c1_0] 24 (0, 0)) z8_3_ hb)
                have _ := A_ (blk_below (g := gb262) (o := .cells #[.slice Ao41 t258.length co41] 34 (0, 0)) z8_5_ hb)
                have _ := A_ (blk_below (g := gb266) (o := .cells #[.slice Ao47 t286.length co47] 34 (0, 0)) z8_6_ hb)
                have _ := A_ (blk_below (g := gb270) (o := .cells #[.slice Ao56 t288.length co56] 34 (0, 0)) z8_8_ hb)
                have _ := A_ (blk_below (g := gb275) (o := .cells #[.slice Ao65 t271.length co65] 34 (0, 0)) z8_11_ hb)
                have _ := A_ (blk_below (g := gb303) (o := .cells #[.slice none 0 0] 34 (0, 0)) z8_22_ hb)
                have _ := A_ (below_step z8_4_ hb)
                clear HO_263000 HO_267000 HO_271000 HO_276000 HO295 BK248 BK249 BK262 BK266 BK270 BK275 BK303 HB
                rename_i HO_263000 HO_267000 HO_271000 HO_276000 HO295 HO298 BK248 BK249 BK262 BK266 BK270 BK275 BK303 HB
                (try clear hb)
                (try clear hb2)
                (try clear hk)
                (try clear hi)
                (try clear ho0)
                obtain ⟨Ao178, co178, eo178⟩ := Kd.R_slice HO295.out
                (first | subst eo178 | (injection eo178 with f1_ f2_ f3_; have f4_ := f1_.symm; have f5_ := f3_.symm; clear f1_ f2_ f3_; subst f4_; subst f5_))
                obtain ⟨Ao179, co179, eo179⟩ := Kd.R_slice HO298.out
                (first | subst eo179 | (injection eo179 with f1_ f2_ f3_; have f4_ := f1_.symm; have f5_ := f3_.symm; clear f1_ f2_ f3_; subst f4_; subst f5_))
                refine hK.out _ _ ⟨(blk_cell BK248.out 0).trans rfl, (blk_cell BK249.out 0).trans rfl⟩ (fun hHeld => ?_)
                clear hK K
                refine norm_ (a' := ?_) ?_ ?_
                rotate_left
                ·
                 show Act.put _ (some 98) _ = _
                 simp only [Act.put, sA_, sB_, sC_, i64_w, i32_w]
                 rfl
                refine one_ (i := 4) (N := some 99) #[true, true, true, true, true, false, false, false, true, false, false] rfl rfl (one_of HT_.out (by kernel_rfl)) (by decide) (fun K hK => ?_)
                refine goes_ Try.func30 (by kernel_rfl) rfl #[.agg #[.slice Ao178 t293.length co178], .agg #[.slice Ao179 t296.length co179]] (by rfl) rfl rfl z8_7_ ?_
                with_reducible refine (impl_ComposeTrees.calls kj106 _ _ t293 _ _ t296 t299 t302 _ ?side1 ?side2 ?side3 ?side4 A163.out).mono ?_
                (case side1 => have hx_ := (Kd.R_reads' HO295.out).2.2; exact kc_)
                (case side2 => exact (Kd.R_reads' HO295.out).2.1)
                (case side3 => have hx_ := (Kd.R_reads' HO298.out).2.2; exact kc_)
                (case side4 => exact (Kd.R_reads' HO298.out).2.1)
                rintro e w180 ⟨v300, rfl, ho0, hb⟩
                refine ⟨_, rfl, ?_⟩
                have _ := A_ (Kd.R_elder' z8_15_ (Kd.R_base ho0) hb)
                have _ := A_ (Kd.R_elder' z8_14_ (Kd.R_base ho0) hb)
                have _ := A_ (Kd.R_elder' z8_13_ (Kd.R_base ho0) hb)
                have _ := A_ (Kd.R_elder' z8_12_ (Kd.R_base ho0) hb)
                have _ := A_ (Kd.R_elder' z8_17_ (Kd.R_base ho0) hb)
                have _ := A_ (Kd.R_elder' z8_24_ (Kd.R_base ho0) hb)
                have _ := A_ (Kd.R_lower (Kd.R_new' (Kd.R_new' (Kd.R_new' (Kd.R_new' (Kd.R_new' (Kd.R_new' ho0 (Kd.R_lt z8_15_)) (Kd.R_lt z8_14_)) (Kd.R_lt z8_13_)) (Kd.R_lt z8_12_)) (Kd.R_lt z8_17_)) (Kd.R_lt z8_24_)) (below_size z8_4_))
                have _ := A_ (blk_below (g := gb248) (o := .cells #[.slice A0_0 l0_0.length c0_0] 24 (0, 0)) z8_2_ hb)
                have _ := A_ (blk_below (g := gb249) (o := .cells #[.slice A1_0 l1_0.length c1_0] 24 (0, 0)) z8_3_ hb)
                have _ := A_ (blk_below (g := gb262) (o := .cells #[.slice Ao41 t258.length co41] 34 (0, 0)) z8_5_ hb)
                have _ := A_ (blk_below (g := gb266) (o := .cells #[.slice Ao47 t286.length co47] 34 (0, 0)) z8_6_ hb)
                have _ := A_ (blk_below (g := gb270) (o := .cells #[.slice Ao56 t288.length co56] 34 (0, 0)) z8_8_ hb)
                have _ := A_ (blk_below (g := gb275) (o := .cells #[.slice Ao65 t271.length co65] 34 (0, 0)) z8_11_ hb)
                have _ := A_ (blk_below (g := gb303) (o := .cells #[.slice none 0 0] 34 (0, 0)) z8_22_ hb)
                have _ := A_ (below_step z8_4_ hb)
                clear HO_263000 HO_267000 HO_271000 HO_276000 HO295 HO298 BK248 BK249 BK262 BK266 BK270 BK275 BK303 HB
                rename_i HO_263000 HO_267000 HO_271000 HO_276000 HO295 HO298 HO301 BK248 BK249 BK262 BK266 BK270 BK275 BK303 HB
                (try clear hb)
                (try clear hb2)
                (try clear hk)
                (try clear hi)
                (try clear ho0)
                refine hK.out _ _ ⟨(blk_cell BK248.out 0).trans rfl, (blk_cell BK249.out 0).trans rfl⟩ (fun hHeld => ?_)
                clear hK K
                refine norm_ (a' := ?_) ?_ ?_
                rotate_left
                ·
                 show Act.put _ (some 99) _ = _
                 simp only [Act.put, sA_, sB_, sC_, i64_w, i32_w]
                 rfl
                refine pure_ (i := 5) (N := some 94) (v := ?_) (a' := ?_) #[true, true, true, true, true, true, false, false, true, false, false] rfl rfl (any_of HT_.out (by kernel_rfl)) (fun _ _ _ h => h) (Or.inl ⟨by rfl, ?_⟩) ?_ ?_
                rotate_left
                ·
                 intro w'
                 go_simp
                 with_reducible rfl
                rotate_left
                ·
                 simp only [Act.put, sA_, sB_, sC_, i64_w, i32_w]
                 rfl
                refine pure_ (i := 6) (N := some 100) (v := ?_) (a' := ?_) #[true, true, true, true, true, true, true, false, true, false, false] rfl rfl (any_of HT_.out (by kernel_rfl)) (fun _ _ _ h => h) (Or.inl ⟨by rfl, ?_⟩) ?_ ?_
                rotate_left
                ·
                 intro w'
                 go_simp
                 with_reducible rfl
                rotate_left
                ·
                 simp only [Act.put, sA_, sB_, sC_, i64_w, i32_w]
                 rfl
                refine pure_ (i := 7) (N := some 101) (v := ?_) (a' := ?_) #[true, true, true, true, true, true, true, true, true, false, false] rfl rfl (any_of HT_.out (by kernel_rfl)) (fun _ _ _ h => h) (Or.inl ⟨by rfl, ?_⟩) ?_ ?_
                rotate_left
                ·
                 intro w'
                 go_simp
                 with_reducible rfl
                rotate_left
                ·
                 simp only [Act.put, sA_, sB_, sC_, i64_w, i32_w]
                 rfl
                exact norm_ z8_48_ (hCont (.slice Ao178 t293.length co178, .slice Ao179 t296.length co179, v300, gb303) _ ⟨hHeld, z8_35_, z8_34_, z8_33_, z8_32_, z8_31_, z8_30_, z8_29_, z8_2_, z8_3_, z8_5_, z8_6_, z8_8_, z8_11_, z8_22_, GW303.out, GE303.out, NB248_303.out, NB303_248.out, NB249_303.out, NB303_249.out, NB262_303.out, NB303_262.out, NB266_303.out, NB303_266.out, NB270_303.out, NB303_270.out, NB275_303.out, NB303_275.out, z8_4_⟩)
              ·
               skip
               refine box_step ?hg (N := 15) ?hd (cs := #[.slice none 0 0]) (t := 34) ?hr ?_; (case hd => rfl); (case hg => rfl); (case hr => first | (go_simp; done) | (go_simp; rfl))
               intro gb303 hg w175 hbox hb
               have _ := A_ (Kd.R_below z8_15_ hb)
               have _ := A_ (Kd.R_below z8_14_ hb)
               have _ := A_ (Kd.R_below z8_13_ hb)
               have _ := A_ (Kd.R_below z8_12_ hb)
               have _ := A_ (blk_below (g := gb248) (o := .cells #[.slice A0_0 l0_0.length c0_0] 24 (0, 0)) z8_2_ hb)
               have _ := A_ (blk_below (g := gb249) (o := .cells #[.slice A1_0 l1_0.length c1_0] 24 (0, 0)) z8_3_ hb)
               have _ := A_ (blk_below (g := gb262) (o := .cells #[.slice Ao41 t258.length co41] 34 (0, 0)) z8_5_ hb)
               have _ := A_ (blk_below (g := gb266) (o := .cells #[.slice Ao47 t286.length co47] 34 (0, 0)) z8_6_ hb)
               have _ := A_ (blk_below (g := gb270) (o := .cells #[.slice Ao56 t288.length co56] 34 (0, 0)) z8_8_ hb)
               have _ := A_ (blk_below (g := gb275) (o := .cells #[.slice Ao65 t271.length co65] 34 (0, 0)) z8_11_ hb)
               have _ := A_ (below_step z8_1_ hb)
               have _ := A_ (hbox)
               have _ := A_ ((by rw [hg]; exact (below_size z8_1_) : w.heap.size ≤ gb303))
               have _ := A_ ((by rw [hg]; exact (below_size z8_1_) : w.heap.size ≤ gb303))
               have _ := A_ ((by rw [hg]; exact Nat.ne_of_lt (blk_lt (g := gb248) (o := .cells #[.slice A0_0 l0_0.length c0_0] 24 (0, 0)) z8_2_) : gb248 ≠ gb303))
               have _ := A_ ((by rw [hg]; exact Nat.ne_of_gt (blk_lt (g := gb248) (o := .cells #[.slice A0_0 l0_0.length c0_0] 24 (0, 0)) z8_2_) : gb303 ≠ gb248))
               have _ := A_ ((by rw [hg]; exact Nat.ne_of_lt (blk_lt (g := gb249) (o := .cells #[.slice A1_0 l1_0.length c1_0] 24 (0, 0)) z8_3_) : gb249 ≠ gb303))
               have _ := A_ ((by rw [hg]; exact Nat.ne_of_gt (blk_lt (g := gb249) (o := .cells #[.slice A1_0 l1_0.length c1_0] 24 (0, 0)) z8_3_) : gb303 ≠ gb249))
               have _ := A_ ((by rw [hg]; exact Nat.ne_of_lt (blk_lt (g := gb262) (o := .cells #[.slice Ao41 t258.length co41] 34 (0, 0)) z8_5_) : gb262 ≠ gb303))
               have _ := A_ ((by rw [hg]; exact Nat.ne_of_gt (blk_lt (g := gb262) (o := .cells #[.slice Ao41 t258.length co41] 34 (0, 0)) z8_5_) : gb303 ≠ gb262))
               have _ := A_ ((by rw [hg]; exact Nat.ne_of_lt (blk_lt (g := gb266) (o := .cells #[.slice Ao47 t286.length co47] 34 (0, 0)) z8_6_) : gb266 ≠ gb303))
               have _ := A_ ((by rw [hg]; exact Nat.ne_of_gt (blk_lt (g := gb266) (o := .cells #[.slice Ao47 t286.length co47] 34 (0, 0)) z8_6_) : gb303 ≠ gb266))
               have _ := A_ ((by rw [hg]; exact Nat.ne_of_lt (blk_lt (g := gb270) (o := .cells #[.slice Ao56 t288.length co56] 34 (0, 0)) z8_8_) : gb270 ≠ gb303))
               have _ := A_ ((by rw [hg]; exact Nat.ne_of_gt (blk_lt (g := gb270) (o := .cells #[.slice Ao56 t288.length co56] 34 (0, 0)) z8_8_) : gb303 ≠ gb270))
               have _ := A_ ((by rw [hg]; exact Nat.ne_of_lt (blk_lt (g := gb275) (o := .cells #[.slice Ao65 t271.length co65] 34 (0, 0)) z8_11_) : gb275 ≠ gb303))
               have _ := A_ ((by rw [hg]; exact Nat.ne_of_gt (blk_lt (g := gb275) (o := .cells #[.slice Ao65 t271.length co65] 34 (0, 0)) z8_11_) : gb303 ≠ gb275))
               clear HO_263000 HO_267000 HO_271000 HO_276000 BK248 BK249 BK262 BK266 BK270 BK275 HB
               rename_i HO_263000 HO_267000 HO_271000 HO_276000 BK248 BK249 BK262 BK266 BK270 BK275 HB BK303 GW303 GE303 NB248_303 NB303_248 NB249_303 NB303_249 NB262_303 NB303_262 NB266_303 NB303_266 NB270_303 NB303_270 NB275_303 NB303_275
               clear hb hbox hg
               refine hK.out _ _ ⟨(blk_cell BK248.out 0).trans rfl, (blk_cell BK249.out 0).trans rfl⟩ (fun hHeld => ?_)
               clear hK K
               refine norm_ (a' := ?_) ?_ ?_
               rotate_left
               ·
                show Act.put _ (some 15) _ = _
                simp only [Act.put, sA_, sB_, sC_, i64_w, i32_w]
                rfl
               refine one_ (i := 1) (N := some 96) #[true, true, true, false, false, false, false, false, true, false, false] rfl rfl (one_of HT_.out (by kernel_rfl)) (by decide) (fun K hK => ?_)
               refine goes_ Try.func17 (by kernel_rfl) rfl #[.agg #[.slice A0_0 l0_0.length c0_0]] (by rfl) rfl rfl z8_7_ ?_
               with_reducible refine (laws_toTree.calls kj106 _ _ l0_0 t293 _ ?side1 ?side2 A161.out).mono ?_
               (case side1 => have hx_ := (Kd.C_below HR0_0.out HB.out); exact kc_)
               (case side2 => exact HC0_0.out)
               rintro e w176 ⟨v294, rfl, ho0, hb⟩
               refine ⟨_, rfl, ?_⟩
               have _ := A_ (Kd.R_elder' z8_15_ (Kd.R_base ho0) hb)
               have _ := A_ (Kd.R_elder' z8_14_ (Kd.R_base ho0) hb)
               have _ := A_ (Kd.R_elder' z8_13_ (Kd.R_base ho0) hb)
               have _ := A_ (Kd.R_elder' z8_12_ (Kd.R_base ho0) hb)
               have _ := A_ (Kd.R_lower (Kd.R_new' (Kd.R_new' (Kd.R_new' (Kd.R_new' ho0 (Kd.R_lt z8_15_)) (Kd.R_lt z8_14_)) (Kd.R_lt z8_13_)) (Kd.R_lt z8_12_)) (below_size z8_4_))
               have _ := A_ (blk_below (g := gb248) (o := .cells #[.slice A0_0 l0_0.length c0_0] 24 (0, 0)) z8_2_ hb)
               have _ := A_ (blk_below (g := gb249) (o := .cells #[.slice A1_0 l1_0.length c1_0] 24 (0, 0)) z8_3_ hb)
               have _ := A_ (blk_below (g := gb262) (o := .cells #[.slice Ao41 t258.length co41] 34 (0, 0)) z8_5_ hb)
               have _ := A_ (blk_below (g := gb266) (o := .cells #[.slice Ao47 t286.length co47] 34 (0, 0)) z8_6_ hb)
               have _ := A_ (blk_below (g := gb270) (o := .cells #[.slice Ao56 t288.length co56] 34 (0, 0)) z8_8_ hb)
               have _ := A_ (blk_below (g := gb275) (o := .cells #[.slice Ao65 t271.length co65] 34 (0, 0)) z8_11_ hb)
               have _ := A_ (blk_below (g := gb303) (o := .cells #[.slice none 0 0] 34 (0, 0)) z8_22_ hb)
               have _ := A_ (below_step z8_4_ hb)
               clear HO_263000 HO_267000 HO_271000 HO_276000 BK248 BK249 BK262 BK266 BK270 BK275 BK303 HB
               rename_i HO_263000 HO_267000 HO_271000 HO_276000 HO295 BK248 BK249 BK262 BK266 BK270 BK275 BK303 HB
               (try clear hb)
               (try clear hb2)
               (try clear hk)
               (try clear hi)
               (try clear ho0)
               refine hK.out _ _ ⟨(blk_cell BK248.out 0).trans rfl, (blk_cell BK249.out 0).trans rfl⟩ (fun hHeld => ?_)
               clear hK K
               refine norm_ (a' := ?_) ?_ ?_
               rotate_left
               ·
                show Act.put _ (some 96) _ = _
                simp only [Act.put, sA_, sB_, sC_, i64_w, i32_w]
                rfl
               refine one_ (i := 3) (N := some 98) #[true, true, true, true, false, false, false, false, true, false, false] rfl rfl (one_of HT_.out (by kernel_rfl)) (by decide) (fun K hK => ?_)
               refine goes_ Try.func17 (by kernel_rfl) rfl #[.agg #[.slice A1_0 l1_0.length c1_0]] (by rfl) rfl rfl z8_7_ ?_
               with_reducible refine (laws_toTree.calls kj106 _ _ l1_0 t296 _ ?side1 ?side2 A162.out).mono ?_
               (case side1 => have hx_ := (Kd.C_below HR1_0.out HB.out); exact kc_)
               (case side2 => exact HC1_0.out)
               rintro e w177 ⟨v297, rfl, ho0, hb⟩
               refine ⟨_, rfl, ?_⟩
               have _ := A_ (Kd.R_elder' z8_15_ (Kd.R_base ho0) hb)
               have _ := A_ (Kd.R_elder' z8_14_ (Kd.R_base ho0) hb)
               have _ := A_ (Kd.R_elder' z8_13_ (Kd.R_base ho0) hb)
               have _ := A_ (Kd.R_elder' z8_12_ (Kd.R_base ho0) hb)
               have _ := A_ (Kd.R_elder' z8_17_ (Kd.R_base ho0) hb)
               have _ := A_ (Kd.R_lower (Kd.R_new' (Kd.R_new' (Kd.R_new' (Kd.R_new' (Kd.R_new' ho0 (Kd.R_lt z8_15_)) (Kd.R_lt z8_14_)) (Kd.R_lt z8_13_)) (Kd.R_lt z8_12_)) (Kd.R_lt z8_17_)) (below_size z8_4_))
               have _ := A_ (blk_below (g := gb248) (o := .cells #[.slice A0_0 l0_0.length c0_0] 24 (0, 0)) z8_2_ hb)
               have _ := A_ (blk_below (g := gb249) (o := .cells #[.slice A1_0 l1_0.length c1_0] 24 (0, 0)) z8_3_ hb)
               have _ := A_ (blk_below (g := gb262) (o := .cells #[.slice Ao41 t258.length co41] 34 (0, 0)) z8_5_ hb)
               have _ := A_ (blk_below (g := gb266) (o := .cells #[.slice Ao47 t286.length co47] 34 (0, 0)) z8_6_ hb)
               have _ := A_ (blk_below (g := gb270) (o := .cells #[.slice Ao56 t288.length co56] 34 (0, 0)) z8_8_ hb)
               have _ := A_ (blk_below (g := gb275) (o := .cells #[.slice Ao65 t271.length co65] 34 (0, 0)) z8_11_ hb)
               have _ := A_ (blk_below (g := gb303) (o := .cells #[.slice none 0 0] 34 (0, 0)) z8_22_ hb)
               have _ := A_ (below_step z8_4_ hb)
               clear HO_263000 HO_267000 HO_271000 HO_276000 HO295 BK248 BK249 BK262 BK266 BK270 BK275 BK303 HB
               rename_i HO_263000 HO_267000 HO_271000 HO_276000 HO295 HO298 BK248 BK249 BK262 BK266 BK270 BK275 BK303 HB
               (try clear hb)
               (try clear hb2)
               (try clear hk)
               (try clear hi)
               (try clear ho0)
               obtain ⟨Ao178, co178, eo178⟩ := Kd.R_slice HO295.out
               (first | subst eo178 | (injection eo178 with f1_ f2_ f3_; have f4_ := f1_.symm; have f5_ := f3_.symm; clear f1_ f2_ f3_; subst f4_; subst f5_))
               obtain ⟨Ao179, co179, eo179⟩ := Kd.R_slice HO298.out
               (first | subst eo179 | (injection eo179 with f1_ f2_ f3_; have f4_ := f1_.symm; have f5_ := f3_.symm; clear f1_ f2_ f3_; subst f4_; subst f5_))
               refine hK.out _ _ ⟨(blk_cell BK248.out 0).trans rfl, (blk_cell BK249.out 0).trans rfl⟩ (fun hHeld => ?_)
               clear hK K
               refine norm_ (a' := ?_) ?_ ?_
               rotate_left
               ·
                show Act.put _ (some 98) _ = _
                simp only [Act.put, sA_, sB_, sC_, i64_w, i32_w]
                rfl
               refine one_ (i := 4) (N := some 99) #[true, true, true, true, true, false, false, false, true, false, false] rfl rfl (one_of HT_.out (by kernel_rfl)) (by decide) (fun K hK => ?_)
               refine goes_ Try.func30 (by kernel_rfl) rfl #[.agg #[.slice Ao178 t293.length co178], .agg #[.slice Ao179 t296.length co179]] (by rfl) rfl rfl z8_7_ ?_
               with_reducible refine (impl_ComposeTrees.calls kj106 _ _ t293 _ _ t296 t299 t302 _ ?side1 ?side2 ?side3 ?side4 A163.out).mono ?_
               (case side1 => have hx_ := (Kd.R_reads' HO295.out).2.2; exact kc_)
               (case side2 => exact (Kd.R_reads' HO295.out).2.1)
               (case side3 => have hx_ := (Kd.R_reads' HO298.out).2.2; exact kc_)
               (case side4 => exact (Kd.R_reads' HO298.out).2.1)
               rintro e w180 ⟨v300, rfl, ho0, hb⟩
               refine ⟨_, rfl, ?_⟩
               have _ := A_ (Kd.R_elder' z8_15_ (Kd.R_base ho0) hb)
               have _ := A_ (Kd.R_elder' z8_14_ (Kd.R_base ho0) hb)
               have _ := A_ (Kd.R_elder' z8_13_ (Kd.R_base ho0) hb)
               have _ := A_ (Kd.R_elder' z8_12_ (Kd.R_base ho0) hb)
               have _ := A_ (Kd.R_elder' z8_17_ (Kd.R_base ho0) hb)
               have _ := A_ (Kd.R_elder' z8_24_ (Kd.R_base ho0) hb)
               have _ := A_ (Kd.R_lower (Kd.R_new' (Kd.R_new' (Kd.R_new' (Kd.R_new' (Kd.R_new' (Kd.R_new' ho0 (Kd.R_lt z8_15_)) (Kd.R_lt z8_14_)) (Kd.R_lt z8_13_)) (Kd.R_lt z8_12_)) (Kd.R_lt z8_17_)) (Kd.R_lt z8_24_)) (below_size z8_4_))
               have _ := A_ (blk_below (g := gb248) (o := .cells #[.slice A0_0 l0_0.length c0_0] 24 (0, 0)) z8_2_ hb)
               have _ := A_ (blk_below (g := gb249) (o := .cells #[.slice A1_0 l1_0.length c1_0] 24 (0, 0)) z8_3_ hb)
               have _ := A_ (blk_below (g := gb262) (o := .cells #[.slice Ao41 t258.length co41] 34 (0, 0)) z8_5_ hb)
               have _ := A_ (blk_below (g := gb266) (o := .cells #[.slice Ao47 t286.length co47] 34 (0, 0)) z8_6_ hb)
               have _ := A_ (blk_below (g := gb270) (o := .cells #[.slice Ao56 t288.length co56] 34 (0, 0)) z8_8_ hb)
               have _ := A_ (blk_below (g := gb275) (o := .cells #[.slice Ao65 t271.length co65] 34 (0, 0)) z8_11_ hb)
               have _ := A_ (blk_below (g := gb303) (o := .cells #[.slice none 0 0] 34 (0, 0)) z8_22_ hb)
               have _ := A_ (below_step z8_4_ hb)
               clear HO_263000 HO_267000 HO_271000 HO_276000 HO295 HO298 BK248 BK249 BK262 BK266 BK270 BK275 BK303 HB
               rename_i HO_263000 HO_267000 HO_271000 HO_276000 HO295 HO298 HO301 BK248 BK249 BK262 BK266 BK270 BK275 BK303 HB
               (try clear hb)
               (try clear hb2)
               (try clear hk)
               (try clear hi)
               (try clear ho0)
               refine hK.out _ _ ⟨(blk_cell BK248.out 0).trans rfl, (blk_cell BK249.out 0).trans rfl⟩ (fun hHeld => ?_)
               clear hK K
               refine norm_ (a' := ?_) ?_ ?_
               rotate_left
               ·
                show Act.put _ (some 99) _ = _
                simp only [Act.put, sA_, sB_, sC_, i64_w, i32_w]
                rfl
               refine pure_ (i := 5) (N := some 94) (v := ?_) (a' := ?_) #[true, true, true, true, true, true, false, false, true, false, false] rfl rfl (any_of HT_.out (by kernel_rfl)) (fun _ _ _ h => h) (Or.inl ⟨by rfl, ?_⟩) ?_ ?_
               rotate_left
               ·
                intro w'
                go_simp
                with_reducible rfl
               rotate_left
               ·
                simp only [Act.put, sA_, sB_, sC_, i64_w, i32_w]
                rfl
               refine pure_ (i := 6) (N := some 100) (v := ?_) (a' := ?_) #[true, true, true, true, true, true, true, false, true, false, false] rfl rfl (any_of HT_.out (by kernel_rfl)) (fun _ _ _ h => h) (Or.inl ⟨by rfl, ?_⟩) ?_ ?_
               rotate_left
               ·
                intro w'
                go_simp
                with_reducible rfl
               rotate_left
               ·
                simp only [Act.put, sA_, sB_, sC_, i64_w, i32_w]
                rfl
               refine pure_ (i := 7) (N := some 101) (v := ?_) (a' := ?_) #[true, true, true, true, true, true, true, true, true, false, false] rfl rfl (any_of HT_.out (by kernel_rfl)) (fun _ _ _ h => h) (Or.inl ⟨by rfl, ?_⟩) ?_ ?_
               rotate_left
               ·
                intro w'
                go_simp
                with_reducible rfl
               rotate_left
               ·
                simp only [Act.put, sA_, sB_, sC_, i64_w, i32_w]
                rfl
               exact norm_ z8_48_ (hCont (.slice Ao178 t293.length co178, .slice Ao179 t296.length co179, v300, gb303) _ ⟨hHeld, z8_35_, z8_34_, z8_33_, z8_32_, z8_31_, z8_30_, z8_29_, z8_2_, z8_3_, z8_5_, z8_6_, z8_8_, z8_11_, z8_22_, GW303.out, GE303.out, NB248_303.out, NB303_248.out, NB249_303.out, NB303_249.out, NB262_303.out, NB303_262.out, NB266_303.out, NB303_266.out, NB270_303.out, NB303_270.out, NB275_303.out, NB303_275.out, z8_4_⟩)
             rintro ⟨v294, v297, v300, gb303⟩ w181 ⟨hS_, h0_, h1_, h2_, h3_, h4_, h5_, h6_, h7_, h8_, h9_, h10_, h11_, h12_, h13_, h14_, h15_, h16_, h17_, h18_, h19_, h20_, h21_, h22_, h23_, h24_, h25_, h26_, h27_, h28_⟩
             have n0_ : Aside0 (Kd.R k89 89 w181 w.heap.size (fun k_ => some k_ ≠ (v297 : Value).ownBlock ∧ some k_ ≠ (v300 : Value).ownBlock ∧ some k_ ≠ (.slice Ao41 t258.length co41 : Value).ownBlock ∧ some k_ ≠ (.slice Ao47 t286.length co47 : Value).ownBlock ∧ some k_ ≠ (.slice Ao56 t288.length co56 : Value).ownBlock ∧ some k_ ≠ (.slice Ao65 t271.length co65 : Value).ownBlock) v294 t293) := ⟨h0_⟩
             have n1_ : Aside0 (Kd.R k89 89 w181 w.heap.size (fun k_ => some k_ ≠ (v294 : Value).ownBlock ∧ some k_ ≠ (v300 : Value).ownBlock ∧ some k_ ≠ (.slice Ao41 t258.length co41 : Value).ownBlock ∧ some k_ ≠ (.slice Ao47 t286.length co47 : Value).ownBlock ∧ some k_ ≠ (.slice Ao56 t288.length co56 : Value).ownBlock ∧ some k_ ≠ (.slice Ao65 t271.length co65 : Value).ownBlock) v297 t296) := ⟨h1_⟩
             have n2_ : Aside0 (Kd.R k89 89 w181 w.heap.size (fun k_ => some k_ ≠ (v294 : Value).ownBlock ∧ some k_ ≠ (v297 : Value).ownBlock ∧ some k_ ≠ (.slice Ao41 t258.length co41 : Value).ownBlock ∧ some k_ ≠ (.slice Ao47 t286.length co47 : Value).ownBlock ∧ some k_ ≠ (.slice Ao56 t288.length co56 : Value).ownBlock ∧ some k_ ≠ (.slice Ao65 t271.length co65 : Value).ownBlock) v300 t299) := ⟨h2_⟩
             have n3_ : Aside0 (Kd.R k89 89 w181 w.heap.size (fun k_ => some k_ ≠ (v294 : Value).ownBlock ∧ some k_ ≠ (v297 : Value).ownBlock ∧ some k_ ≠ (v300 : Value).ownBlock ∧ some k_ ≠ (.slice Ao47 t286.length co47 : Value).ownBlock ∧ some k_ ≠ (.slice Ao56 t288.length co56 : Value).ownBlock ∧ some k_ ≠ (.slice Ao65 t271.length co65 : Value).ownBlock) (.slice Ao41 t258.length co41) t258) := ⟨h3_⟩
             have n4_ : Aside0 (Kd.R k89 89 w181 w.heap.size (fun k_ => some k_ ≠ (v294 : Value).ownBlock ∧ some k_ ≠ (v297 : Value).ownBlock ∧ some k_ ≠ (v300 : Value).ownBlock ∧ some k_ ≠ (.slice Ao41 t258.length co41 : Value).ownBlock ∧ some k_ ≠ (.slice Ao56 t288.length co56 : Value).ownBlock ∧ some k_ ≠ (.slice Ao65 t271.length co65 : Value).ownBlock) (.slice Ao47 t286.length co47) t286) := ⟨h4_⟩
             have n5_ : Aside0 (Kd.R k89 89 w181 w.heap.size (fun k_ => some k_ ≠ (v294 : Value).ownBlock ∧ some k_ ≠ (v297 : Value).ownBlock ∧ some k_ ≠ (v300 : Value).ownBlock ∧ some k_ ≠ (.slice Ao41 t258.length co41 : Value).ownBlock ∧ some k_ ≠ (.slice Ao47 t286.length co47 : Value).ownBlock ∧ some k_ ≠ (.slice Ao65 t271.length co65 : Value).ownBlock) (.slice Ao56 t288.length co56) t288) := ⟨h5_⟩
             have n6_ : Aside0 (Kd.R k89 89 w181 w.heap.size (fun k_ => some k_ ≠ (v294 : Value).ownBlock ∧ some k_ ≠ (v297 : Value).ownBlock ∧ some k_ ≠ (v300 : Value).ownBlock ∧ some k_ ≠ (.slice Ao41 t258.length co41 : Value).ownBlock ∧ some k_ ≠ (.slice Ao47 t286.length co47 : Value).ownBlock ∧ some k_ ≠ (.slice Ao56 t288.length co56 : Value).ownBlock) (.slice Ao65 t271.length co65) t291) := ⟨h6_⟩
             have n7_ : Aside0 (w181.heap[gb248]? = some (.cells #[.slice A0_0 l0_0.length c0_0] 24 (0, 0))) := ⟨h7_⟩
             have n8_ : Aside0 (w181.heap[gb249]? = some (.cells #[.slice A1_0 l1_0.length c1_0] 24 (0, 0))) := ⟨h8_⟩
             have n9_ : Aside0 (w181.heap[gb262]? = some (.cells #[.slice Ao41 t258.length co41] 34 (0, 0))) := ⟨h9_⟩
             have n10_ : Aside0 (w181.heap[gb266]? = some (.cells #[.slice Ao47 t286.length co47] 34 (0, 0))) := ⟨h10_⟩
             have n11_ : Aside0 (w181.heap[gb270]? = some (.cells #[.slice Ao56 t288.length co56] 34 (0, 0))) := ⟨h11_⟩
             have n12_ : Aside0 (w181.heap[gb275]? = some (.cells #[.slice Ao65 t271.length co65] 34 (0, 0))) := ⟨h12_⟩
             have n13_ : Aside0 (w181.heap[gb303]? = some (.cells #[.slice none 0 0] 34 (0, 0))) := ⟨h13_⟩
             have n14_ : Aside0 (w.heap.size ≤ gb303) := ⟨h14_⟩
             have n15_ : Aside0 (w.heap.size ≤ gb303) := ⟨h15_⟩
             have n16_ : Aside0 (gb248 ≠ gb303) := ⟨h16_⟩
             have n17_ : Aside0 (gb303 ≠ gb248) := ⟨h17_⟩
             have n18_ : Aside0 (gb249 ≠ gb303) := ⟨h18_⟩
             have n19_ : Aside0 (gb303 ≠ gb249) := ⟨h19_⟩
             have n20_ : Aside0 (gb262 ≠ gb303) := ⟨h20_⟩
             have n21_ : Aside0 (gb303 ≠ gb262) := ⟨h21_⟩
             have n22_ : Aside0 (gb266 ≠ gb303) := ⟨h22_⟩
             have n23_ : Aside0 (gb303 ≠ gb266) := ⟨h23_⟩
             have n24_ : Aside0 (gb270 ≠ gb303) := ⟨h24_⟩
             have n25_ : Aside0 (gb303 ≠ gb270) := ⟨h25_⟩
             have n26_ : Aside0 (gb275 ≠ gb303) := ⟨h26_⟩
             have n27_ : Aside0 (gb303 ≠ gb275) := ⟨h27_⟩
             have n28_ : Aside0 (Below w.heap.size w w181) := ⟨h28_⟩
             clear HO_263000
             clear HO_267000
             clear HO_271000
             clear HO_276000
             clear BK248
             clear BK249
             clear BK262
             clear BK266
             clear BK270
             clear BK275
             clear HB
             clear h0_ h1_ h2_ h3_ h4_ h5_ h6_ h7_ h8_ h9_ h10_ h11_ h12_ h13_ h14_ h15_ h16_ h17_ h18_ h19_ h20_ h21_ h22_ h23_ h24_ h25_ h26_ h27_ h28_
             have HO295 := n0_
             have HO298 := n1_
             have HO301 := n2_
             have HO_263000 := n3_
             have HO_267000 := n4_
             have HO_271000 := n5_
             have HO_276000 := n6_
             have BK248 := n7_
             have BK249 := n8_
             have BK262 := n9_
             have BK266 := n10_
             have BK270 := n11_
             have BK275 := n12_
             have BK303 := n13_
             have GW303 := n14_
             have GE303 := n15_
             have NB248_303 := n16_
             have NB303_248 := n17_
             have NB249_303 := n18_
             have NB303_249 := n19_
             have NB262_303 := n20_
             have NB303_262 := n21_
             have NB266_303 := n22_
             have NB303_266 := n23_
             have NB270_303 := n24_
             have NB303_270 := n25_
             have NB275_303 := n26_
             have NB303_275 := n27_
             have HB := n28_
             clear n0_ n1_ n2_ n3_ n4_ n5_ n6_ n7_ n8_ n9_ n10_ n11_ n12_ n13_ n14_ n15_ n16_ n17_ n18_ n19_ n20_ n21_ n22_ n23_ n24_ n25_ n26_ n27_ n28_
             have hHeld : w181.cell? ⟨gb248, 0, none⟩ = some (.slice A0_0 l0_0.length c0_0) ∧ w181.cell? ⟨gb249, 0, none⟩ = some (.slice A1_0 l1_0.length c1_0) := hS_
             obtain ⟨Ao182, co182, eo182⟩ := Kd.R_slice HO301.out
             (first | subst eo182 | (injection eo182 with f1_ f2_ f3_; have f4_ := f1_.symm; have f5_ := f3_.symm; clear f1_ f2_ f3_; subst f4_; subst f5_))
             refine norm_ (a' := ?_) ?_ ?_
             rotate_left
             ·
              simp only [putAll, Act.put, sA_, sB_, sC_]
              rfl
             refine one_ (i := 9) (N := none) #[true, true, true, true, true, true, true, true, true, true, false] rfl rfl (one_of HT_.out (by kernel_rfl)) (by decide) (fun K hK => ?_)
             have hs183 : w181.cell? ⟨gb303, 0, none⟩ = some (.slice none 0 0) := (blk_cell BK303.out 0).trans rfl
             have hfs183 := blk_frozen BK303.out 0
             have hns183_0 := NB248_303.out
             have hns183_1 := NB249_303.out
             have hns183_2 := NB262_303.out
             have hns183_3 := NB266_303.out
             have hns183_4 := NB270_303.out
             have hns183_5 := NB275_303.out
             have hms183_0 := NB303_248.out
             have hms183_1 := NB303_249.out
             have hms183_2 := NB303_262.out
             have hms183_3 := NB303_266.out
             have hms183_4 := NB303_270.out
             have hms183_5 := NB303_275.out
             refine skip_ (w1 := ?_) (by rfl) rfl ?_ ?_
             rotate_left
             ·
              go_simp
              rfl
             refine hK.out _ _ ⟨((cell_far (p := ⟨gb303, _, none⟩) NB248_303.out _).trans (hHeld.1)), ((cell_far (p := ⟨gb303, _, none⟩) NB249_303.out _).trans (hHeld.2))⟩ (fun hHeld => ?_)
             clear hK K
             refine pure_ (i := 10) (N := some 16) (v := ?_) (a' := ?_) #[true, true, true, true, true, true, true, true, true, true, true] rfl rfl (any_of HT_.out (by kernel_rfl)) (fun _ _ _ h => h) (Or.inl ⟨by rfl, ?_⟩) ?_ ?_
             rotate_left
             ·
              intro w'
              go_simp
              with_reducible rfl
             rotate_left
             ·
              simp only [Act.put, sA_, sB_, sC_, i64_w, i32_w]
              rfl
             refine done_ (done_of HT_.out (by kernel_rfl)) ?_
             go_upto_region 32 with (fail)
             go_cut [110] (fun v110 wc => ∃ (kq : Nat) (x110_163 : Bool), v110 = .bool x110_163 ∧ Aside0 (laws_FnExactComposeTrees.j2 kq t290 x110_163 t291 = some true) ∧ Aside0 (kq ≤ kj106) ∧ Aside0 (Kd.R k89 89 wc w.heap.size (fun k_ => some k_ ≠ ((.slice Ao47 t286.length co47) : Value).ownBlock ∧ some k_ ≠ ((.slice Ao56 t288.length co56) : Value).ownBlock ∧ some k_ ≠ ((.slice Ao65 t271.length co65) : Value).ownBlock ∧ some k_ ≠ ((.slice Ao182 t299.length co182) : Value).ownBlock) (.slice Ao41 t258.length co41) t258) ∧ Aside0 (Kd.R k89 89 wc w.heap.size (fun k_ => some k_ ≠ ((.slice Ao41 t258.length co41) : Value).ownBlock ∧ some k_ ≠ ((.slice Ao56 t288.length co56) : Value).ownBlock ∧ some k_ ≠ ((.slice Ao65 t271.length co65) : Value).ownBlock ∧ some k_ ≠ ((.slice Ao182 t299.length co182) : Value).ownBlock) (.slice Ao47 t286.length co47) t286) ∧ Aside0 (Kd.R k89 89 wc w.heap.size (fun k_ => some k_ ≠ ((.slice Ao41 t258.length co41) : Value).ownBlock ∧ some k_ ≠ ((.slice Ao47 t286.length co47) : Value).ownBlock ∧ some k_ ≠ ((.slice Ao65 t271.length co65) : Value).ownBlock ∧ some k_ ≠ ((.slice Ao182 t299.length co182) : Value).ownBlock) (.slice Ao56 t288.length co56) t288) ∧ Aside0 (Kd.R k89 89 wc w.heap.size (fun k_ => some k_ ≠ ((.slice Ao41 t258.length co41) : Value).ownBlock ∧ some k_ ≠ ((.slice Ao47 t286.length co47) : Value).ownBlock ∧ some k_ ≠ ((.slice Ao56 t288.length co56) : Value).ownBlock ∧ some k_ ≠ ((.slice Ao182 t299.length co182) : Value).ownBlock) (.slice Ao65 t271.length co65) t291) ∧ Aside0 (Kd.R k89 89 wc w.heap.size (fun k_ => some k_ ≠ ((.slice Ao41 t258.length co41) : Value).ownBlock ∧ some k_ ≠ ((.slice Ao47 t286.length co47) : Value).ownBlock ∧ some k_ ≠ ((.slice Ao56 t288.length co56) : Value).ownBlock ∧ some k_ ≠ ((.slice Ao65 t271.length co65) : Value).ownBlock) (.slice Ao182 t299.length co182) t299) ∧ Aside0 (wc.heap[gb248]? = some (.cells #[(.slice A0_0 l0_0.length c0_0)] 24 (0, 0))) ∧ Aside0 (wc.heap[gb249]? = some (.cells #[(.slice A1_0 l1_0.length c1_0)] 24 (0, 0))) ∧ Aside0 (wc.heap[gb262]? = some (.cells #[(.slice Ao41 t258.length co41)] 34 (0, 0))) ∧ Aside0 (wc.heap[gb266]? = some (.cells #[(.slice Ao47 t286.length co47)] 34 (0, 0))) ∧ Aside0 (wc.heap[gb270]? = some (.cells #[(.slice Ao56 t288.length co56)] 34 (0, 0))) ∧ Aside0 (wc.heap[gb275]? = some (.cells #[(.slice Ao65 t271.length co65)] 34 (0, 0))) ∧ Aside0 (wc.heap[gb303]? = some (.cells #[(.slice Ao182 t299.length co182)] 34 (0, 0))) ∧ Aside0 (Below w.heap.size w wc))
             case first =>
              have H := HC164.out
              clear HC164
              replace H := Option.bind_eq_some_iff.mp H
              obtain ⟨t304, A1840, H⟩ := H
              try dsimp only at H
              have A184 := A_ A1840
              clear A1840
              by_cases c185 : t304 = true
              ·
               subst c185
               have H1 : (laws_FnExactComposeTrees.j2 kj106 t290 (t302 != t261) t291) = some true := by first | (rw [if_pos rfl] at H; exact H) | rfl
               clear H
               have H := H1
               clear H1
               have H' := A_ H
               clear H
               have hnb186 := NB303_248.out
               have hnc186 := NB248_303.out
               have hnb187 := NB303_249.out
               have hnc187 := NB249_303.out
               have hnb188 := NB303_262.out
               have hnc188 := NB262_303.out
               have hnb189 := NB303_266.out
               have hnc189 := NB266_303.out
               have hnb190 := NB303_270.out
               have hnc190 := NB270_303.out
               have hnb191 := NB303_275.out
               have hnc191 := NB275_303.out
               have hcz192_0 : w181.cell? ⟨gb303, 0, none⟩ = some (.slice none 0 0) := (blk_cell BK303.out 0).trans rfl
               have hfz192_0 := blk_frozen BK303.out 0
               have hnb193 := NB262_248.out
               have hnc193 := NB248_262.out
               have hnb194 := NB262_249.out
               have hnc194 := NB249_262.out
               have hnb195 := NB262_266.out
               have hnc195 := NB266_262.out
               have hnb196 := NB262_270.out
               have hnc196 := NB270_262.out
               have hnb197 := NB262_275.out
               have hnc197 := NB275_262.out
               have hcz198_0 : w181.cell? ⟨gb262, 0, none⟩ = some (.slice Ao41 t258.length co41) := (blk_cell BK262.out 0).trans rfl
               have hfz198_0 := blk_frozen BK262.out 0
               go_wp2_with (first | ((with_reducible refine gate_callee (f := 21) rfl ?_); refine goesL_ (some 104) rfl rfl Try.func21 (by kernel_rfl) rfl #[.agg #[.slice Ao182 t299.length co182], .agg #[.slice Ao41 t258.length co41]] rfl z8_7_ ?_; (with_reducible refine (laws_eqTree.calls kj106 _ _ t299 _ _ t258 true _ ?side1 ?side2 ?side3 ?side4 A184.out).mono ?_); (case side1 => refine (Kd.R_reads' (e := 89) (base := w.heap.size) (ok := fun k_ => (some k_ ≠ (v294 : Value).ownBlock ∧ (some k_ ≠ (v297 : Value).ownBlock ∧ (some k_ ≠ (.slice Ao41 t258.length co41 : Value).ownBlock ∧ (some k_ ≠ (.slice Ao47 t286.length co47 : Value).ownBlock ∧ (some k_ ≠ (.slice Ao56 t288.length co56 : Value).ownBlock ∧ some k_ ≠ (.slice Ao65 t271.length co65 : Value).ownBlock)))))) (n := t299.length) (c := co182) ?_).2.2; exact z8_26_); (case side2 => exact (Kd.R_reads' HO301.out).2.1); (case side3 => refine (Kd.R_reads' (e := 89) (base := w.heap.size) (ok := fun k_ => (some k_ ≠ (v294 : Value).ownBlock ∧ (some k_ ≠ (v297 : Value).ownBlock ∧ (some k_ ≠ (.slice Ao182 t299.length co182 : Value).ownBlock ∧ (some k_ ≠ (.slice Ao47 t286.length co47 : Value).ownBlock ∧ (some k_ ≠ (.slice Ao56 t288.length co56 : Value).ownBlock ∧ some k_ ≠ (.slice Ao65 t271.length co65 : Value).ownBlock)))))) (n := t258.length) (c := co41) ?_).2.2; exact z8_25_); (case side4 => exact (Kd.R_reads' HO_263000.out).2.1); rintro e w199 ⟨rfl, hb⟩; refine ⟨_, rfl, ?_⟩; have _ := A_ (Kd.R_below z8_25_ hb); have _ := A_ (Kd.R_below z8_53_ hb); have _ := A_ (Kd.R_below z8_52_ hb); have _ := A_ (Kd.R_below z8_51_ hb); have _ := A_ (Kd.R_below z8_55_ hb); have _ := A_ (Kd.R_below z8_54_ hb); have _ := A_ (Kd.R_below z8_26_ hb); have _ := A_ (blk_below (g := gb248) (o := .cells #[.slice A0_0 l0_0.length c0_0] 24 (0, 0)) z8_79_ hb); have _ := A_ (blk_below (g := gb249) (o := .cells #[.slice A1_0 l1_0.length c1_0] 24 (0, 0)) z8_77_ hb); have _ := A_ (blk_below (g := gb262) (o := .cells #[.slice Ao41 t258.length co41] 34 (0, 0)) z8_75_ hb); have _ := A_ (blk_below (g := gb266) (o := .cells #[.slice Ao47 t286.length co47] 34 (0, 0)) z8_73_ hb); have _ := A_ (blk_below (g := gb270) (o := .cells #[.slice Ao56 t288.length co56] 34 (0, 0)) z8_71_ hb); have _ := A_ (blk_below (g := gb275) (o := .cells #[.slice Ao65 t271.length co65] 34 (0, 0)) z8_70_ hb); have _ := A_ (blk_below (g := gb303) (o := .cells #[.slice Ao182 t299.length co182] 34 (0, 0)) z8_49_ hb); have _ := A_ (below_step z8_4_ hb); clear HO_263000 HO_267000 HO_271000 HO_276000 HO295 HO298 HO301 BK248 BK249 BK262 BK266 BK270 BK275 BK303 HB; rename_i HO_263000 HO_267000 HO_271000 HO_276000 HO295 HO298 HO301 BK248 BK249 BK262 BK266 BK270 BK275 BK303 HB; (try clear hb)))
               go_meet
               case rel => exact ⟨_, ((t302 != t261)), z8_42_, H', ⟨(by have := HJ24.out; have := HJ106.out; first | omega | exact Nat.le_refl _)⟩, ⟨z8_84_⟩, ⟨z8_83_⟩, ⟨z8_82_⟩, ⟨z8_81_⟩, ⟨z8_85_⟩, ⟨z8_95_⟩, ⟨z8_94_⟩, ⟨z8_93_⟩, ⟨z8_92_⟩, ⟨z8_91_⟩, ⟨z8_90_⟩, ⟨z8_89_⟩, ⟨z8_4_⟩⟩
              ·
               replace c185 := Bool.eq_false_iff.mpr c185
               subst c185
               have H1 : (laws_FnExactComposeTrees.j2 kj106 t290 true t291) = some true := by first | (rw [if_neg (show ¬ (false = true) by decide)] at H; exact H) | rfl
               clear H
               have H := H1
               clear H1
               have H' := A_ H
               clear H
               have hnb200 := NB303_248.out
               have hnc200 := NB248_303.out
               have hnb201 := NB303_249.out
               have hnc201 := NB249_303.out
               have hnb202 := NB303_262.out
               have hnc202 := NB262_303.out
               have hnb203 := NB303_266.out
               have hnc203 := NB266_303.out
               have hnb204 := NB303_270.out
               have hnc204 := NB270_303.out
               have hnb205 := NB303_275.out
               have hnc205 := NB275_303.out
               have hcz206_0 : w181.cell? ⟨gb303, 0, none⟩ = some (.slice none 0 0) := (blk_cell BK303.out 0).trans rfl
               have hfz206_0 := blk_frozen BK303.out 0
               have hnb207 := NB262_248.out
               have hnc207 := NB248_262.out
               have hnb208 := NB262_249.out
               have hnc208 := NB249_262.out
               have hnb209 := NB262_266.out
               have hnc209 := NB266_262.out
               have hnb210 := NB262_270.out
               have hnc210 := NB270_262.out
               have hnb211 := NB262_275.out
               have hnc211 := NB275_262.out
               have hcz212_0 : w181.cell? ⟨gb262, 0, none⟩ = some (.slice Ao41 t258.length co41) := (blk_cell BK262.out 0).trans rfl
               have hfz212_0 := blk_frozen BK262.out 0
               go_wp2_with (first | ((with_reducible refine gate_callee (f := 21) rfl ?_); refine goesL_ (some 104) rfl rfl Try.func21 (by kernel_rfl) rfl #[.agg #[.slice Ao182 t299.length co182], .agg #[.slice Ao41 t258.length co41]] rfl z8_7_ ?_; (with_reducible refine (laws_eqTree.calls kj106 _ _ t299 _ _ t258 false _ ?side1 ?side2 ?side3 ?side4 A184.out).mono ?_); (case side1 => refine (Kd.R_reads' (e := 89) (base := w.heap.size) (ok := fun k_ => (some k_ ≠ (v294 : Value).ownBlock ∧ (some k_ ≠ (v297 : Value).ownBlock ∧ (some k_ ≠ (.slice Ao41 t258.length co41 : Value).ownBlock ∧ (some k_ ≠ (.slice Ao47 t286.length co47 : Value).ownBlock ∧ (some k_ ≠ (.slice Ao56 t288.length co56 : Value).ownBlock ∧ some k_ ≠ (.slice Ao65 t271.length co65 : Value).ownBlock)))))) (n := t299.length) (c := co182) ?_).2.2; exact z8_26_); (case side2 => exact (Kd.R_reads' HO301.out).2.1); (case side3 => refine (Kd.R_reads' (e := 89) (base := w.heap.size) (ok := fun k_ => (some k_ ≠ (v294 : Value).ownBlock ∧ (some k_ ≠ (v297 : Value).ownBlock ∧ (some k_ ≠ (.slice Ao182 t299.length co182 : Value).ownBlock ∧ (some k_ ≠ (.slice Ao47 t286.length co47 : Value).ownBlock ∧ (some k_ ≠ (.slice Ao56 t288.length co56 : Value).ownBlock ∧ some k_ ≠ (.slice Ao65 t271.length co65 : Value).ownBlock)))))) (n := t258.length) (c := co41) ?_).2.2; exact z8_25_); (case side4 => exact (Kd.R_reads' HO_263000.out).2.1); rintro e w213 ⟨rfl, hb⟩; refine ⟨_, rfl, ?_⟩; have _ := A_ (Kd.R_below z8_25_ hb); have _ := A_ (Kd.R_below z8_53_ hb); have _ := A_ (Kd.R_below z8_52_ hb); have _ := A_ (Kd.R_below z8_51_ hb); have _ := A_ (Kd.R_below z8_55_ hb); have _ := A_ (Kd.R_below z8_54_ hb); have _ := A_ (Kd.R_below z8_26_ hb); have _ := A_ (blk_below (g := gb248) (o := .cells #[.slice A0_0 l0_0.length c0_0] 24 (0, 0)) z8_79_ hb); have _ := A_ (blk_below (g := gb249) (o := .cells #[.slice A1_0 l1_0.length c1_0] 24 (0, 0)) z8_77_ hb); have _ := A_ (blk_below (g := gb262) (o := .cells #[.slice Ao41 t258.length co41] 34 (0, 0)) z8_75_ hb); have _ := A_ (blk_below (g := gb266) (o := .cells #[.slice Ao47 t286.length co47] 34 (0, 0)) z8_73_ hb); have _ := A_ (blk_below (g := gb270) (o := .cells #[.slice Ao56 t288.length co56] 34 (0, 0)) z8_71_ hb); have _ := A_ (blk_below (g := gb275) (o := .cells #[.slice Ao65 t271.length co65] 34 (0, 0)) z8_70_ hb); have _ := A_ (blk_below (g := gb303) (o := .cells #[.slice Ao182 t299.length co182] 34 (0, 0)) z8_49_ hb); have _ := A_ (below_step z8_4_ hb); clear HO_263000 HO_267000 HO_271000 HO_276000 HO295 HO298 HO301 BK248 BK249 BK262 BK266 BK270 BK275 BK303 HB; rename_i HO_263000 HO_267000 HO_271000 HO_276000 HO295 HO298 HO301 BK248 BK249 BK262 BK266 BK270 BK275 BK303 HB; (try clear hb)))
               go_meet
               case rel => exact ⟨_, (true), z8_42_, H', ⟨(by have := HJ24.out; have := HJ106.out; first | omega | exact Nat.le_refl _)⟩, ⟨z8_84_⟩, ⟨z8_83_⟩, ⟨z8_82_⟩, ⟨z8_81_⟩, ⟨z8_85_⟩, ⟨z8_95_⟩, ⟨z8_94_⟩, ⟨z8_93_⟩, ⟨z8_92_⟩, ⟨z8_91_⟩, ⟨z8_90_⟩, ⟨z8_89_⟩, ⟨z8_4_⟩⟩
             case rest =>
              clear HC164
              try clear c1
              try clear c2
              try clear p2
              try clear c3
              try clear c17
              try clear c18
              try clear c19
              try clear c20
              try clear c21
              try clear c30
              try clear c185
              try clear c186
              try clear c187
              try clear c188
              try clear c189
              try clear c190
              try clear c191
              try clear c193
              try clear c194
              try clear c195
              try clear c196
              try clear c197
              try clear c200
              try clear c201
              try clear c202
              try clear c203
              try clear c204
              try clear c205
              try clear c207
              try clear c208
              try clear c209
              try clear c210
              try clear c211
              try clear hcz192_0
              try clear hcz198_0
              try clear hcz206_0
              try clear hcz212_0
              try clear hfz192_0
              try clear hfz198_0
              try clear hfz206_0
              try clear hfz212_0
              obtain ⟨kq, x110_163, rfl, HA, HJ163, HO_263000, HO_267000, HO_271000, HO_276000, HO_304000, BK248, BK249, BK262, BK266, BK270, BK275, BK303, HB⟩ := hcut
              have hl276000_163 := (Kd.R_reads' HO_276000.out).1
              rw [hl276000_163] at HO_276000
              (try simp only [hl276000_163])
              (try simp only [hl276000_163] at BK248)
              (try simp only [hl276000_163] at BK249)
              (try simp only [hl276000_163] at BK262)
              (try simp only [hl276000_163] at BK266)
              (try simp only [hl276000_163] at BK270)
              (try simp only [hl276000_163] at BK275)
              (try simp only [hl276000_163] at BK303)
              (try simp only [hl276000_163] at HO_263000)
              (try simp only [hl276000_163] at HO_267000)
              (try simp only [hl276000_163] at HO_271000)
              (try simp only [hl276000_163] at HO_304000)
              cases kq with
              | zero => exact absurd HA.out (by simp [laws_FnExactComposeTrees.j2])
              | succ kj163 =>
               have H := HA.out
               clear HA
               simp only [laws_FnExactComposeTrees.j2] at H
               by_cases c214 : x110_163 = true
               ·
                subst c214
                have H1 : (some false) = some true := by first | (rw [if_pos rfl] at H; exact H) | rfl
                clear H
                have H := H1
                clear H1
                exact absurd H (by decide)
               ·
                replace c214 := Bool.eq_false_iff.mpr c214
                subst c214
                have H1 : ((laws_heldTree.f kj163 t291 1).bind fun t305 => (if t305 < 0 then (some false) else (if t305 = t290 then (some true) else (some false)))) = some true := by first | (rw [if_neg (show ¬ (false = true) by decide)] at H; exact H) | rfl
                clear H
                have H := H1
                clear H1
                replace H := Option.bind_eq_some_iff.mp H
                obtain ⟨t305, A2150, H⟩ := H
                try dsimp only at H
                have A215 := A_ A2150
                clear A2150
                by_cases c216 : t305 < 0
                ·
                 rw [if_pos c216] at H
                 have c216b0 := decide_eq_true c216
                 clear c216
                 exact absurd H (by decide)
                ·
                 rw [if_neg c216] at H
                 have c216b0 := decide_eq_false c216
                 clear c216
                 by_cases c217 : t305 = t290
                 ·
                  rw [if_pos c217] at H
                  have c217b0 := beq_iff_eq.mpr c217
                  have c217b1 := bne_eq_false_iff_eq.mpr c217
                  clear c217
                  clear H
                  have hnb218 := NB275_248.out
                  have hnc218 := NB248_275.out
                  have hnb219 := NB275_249.out
                  have hnc219 := NB249_275.out
                  have hnb220 := NB275_262.out
                  have hnc220 := NB262_275.out
                  have hnb221 := NB275_266.out
                  have hnc221 := NB266_275.out
                  have hnb222 := NB275_270.out
                  have hnc222 := NB270_275.out
                  have hnb223 := NB275_303.out
                  have hnc223 := NB303_275.out
                  have hcz224_0 : wc.cell? ⟨gb275, 0, none⟩ = some (.slice Ao65 t291.length co65) := (blk_cell BK275.out 0).trans rfl
                  have hfz224_0 := blk_frozen BK275.out 0
                  go_wp2_with (first | ((with_reducible refine gate_callee (f := 31) rfl ?_); refine goesL_ (some 113) rfl rfl Try.func31 (by kernel_rfl) rfl #[.agg #[.slice Ao65 t291.length co65], .int .i64 1] rfl z8_7_ ?_; (with_reducible refine (laws_heldTree.calls kj163 _ _ t291 1 t305 _ ?side1 ?side2 A215.out).mono ?_); (case side1 => have hx_ := (Kd.R_reads' HO_276000.out).2.2; exact kc_); (case side2 => exact (Kd.R_reads' HO_276000.out).2.1); rintro e w225 ⟨rfl, hb⟩; refine ⟨_, rfl, ?_⟩; have _ := A_ (Kd.R_below z8_15_ hb); have _ := A_ (Kd.R_below z8_14_ hb); have _ := A_ (Kd.R_below z8_13_ hb); have _ := A_ (Kd.R_below z8_12_ hb); have _ := A_ (Kd.R_below (by (with_reducible repeat (first | apply Kd.R_alloc | apply Kd.R_drewN | apply Kd.R_drew)); exact HO_304000.out) hb); have _ := A_ (blk_below (g := gb248) (o := .cells #[.slice A0_0 l0_0.length c0_0] 24 (0, 0)) z8_2_ hb); have _ := A_ (blk_below (g := gb249) (o := .cells #[.slice A1_0 l1_0.length c1_0] 24 (0, 0)) z8_3_ hb); have _ := A_ (blk_below (g := gb262) (o := .cells #[.slice Ao41 t258.length co41] 34 (0, 0)) z8_5_ hb); have _ := A_ (blk_below (g := gb266) (o := .cells #[.slice Ao47 t286.length co47] 34 (0, 0)) z8_6_ hb); have _ := A_ (blk_below (g := gb270) (o := .cells #[.slice Ao56 t288.length co56] 34 (0, 0)) z8_8_ hb); have _ := A_ (blk_below (g := gb275) (o := .cells #[.slice Ao65 t291.length co65] 34 (0, 0)) z8_11_ hb); have _ := A_ (blk_below (g := gb303) (o := .cells #[.slice Ao182 t299.length co182] 34 (0, 0)) z8_22_ hb); have _ := A_ (below_step z8_4_ hb); clear HO_263000 HO_267000 HO_271000 HO_276000 HO_304000 BK248 BK249 BK262 BK266 BK270 BK275 BK303 HB; rename_i HO_263000 HO_267000 HO_271000 HO_276000 HO_304000 BK248 BK249 BK262 BK266 BK270 BK275 BK303 HB; (try clear hb)))
                  go_ret
                  exact ⟨z8_88_, z8_4_⟩
                 ·
                  rw [if_neg c217] at H
                  have c217b0 : (t305 == t290) = false := beq_eq_false_iff_ne.mpr c217
                  have c217b1 : (t305 != t290) = true := bne_iff_ne.mpr c217
                  exact absurd H (by decide)
            ·
             rw [if_neg c160] at H
             have c160b0 : (t292 == t290) = false := beq_eq_false_iff_ne.mpr c160
             have c160b1 : (t292 != t290) = true := bne_iff_ne.mpr c160
             exact absurd H (by decide)
       ·
        replace c104 := Bool.eq_false_iff.mpr c104
        subst c104
        have H1 : (some false) = some true := by first | (rw [if_neg (show ¬ (false = true) by decide)] at H; exact H) | rfl
        clear H
        have H := H1
        clear H1
        exact absurd H (by decide)
      ·
       replace c101 := Bool.eq_false_iff.mpr c101
       subst c101
       have H1 : (some false) = some true := by first | (rw [if_neg (show ¬ (false = true) by decide)] at H; exact H) | rfl
       clear H
       have H := H1
       clear H1
       exact absurd H (by decide)
end Go.Proofs.Ytpfnohdnaocpdaa.PT

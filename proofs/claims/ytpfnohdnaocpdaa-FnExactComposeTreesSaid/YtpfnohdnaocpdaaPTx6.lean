import Derived.Test.YtpfnohdnaocpdaaPTx0
import Derived.Test.YtpfnohdnaocpdaaPTx2
import Derived.Test.YtpfnohdnaocpdaaPTx4
import Derived.Test.YtpfnohdnaocpdaaPTx5
namespace Go.Proofs.Ytpfnohdnaocpdaa.PT
open Go.RowKit Go.Proofs.YtpfnohdnaocpdaaW.PrintWords Go.Proofs.YtpfnohdnaocpdaaW.PrintLast Go.Proofs.YtpfnohdnaocpdaaW.PrintMore Go.Proofs.YtpfnohdnaocpdaaRP
attribute [local go_sem] max2_int min2_int max_two min_two max_three min_three max_four min_four Go.Proofs.YtpfnohdnaocpdaaRP.max_eight Go.Proofs.YtpfnohdnaocpdaaRP.tmod_len   -- for this text's walks alone
set_option linter.unusedVariables false
set_option linter.unusedSimpArgs false
theorem z6_1_ {P : Prop} (h : P := by (with_reducible repeat (first | refine blk_drewN ?_ _ | refine blk_drew ?_ | refine blk_alloc ?_ _)); exact BK183.out) : P := h
theorem z6_2_ {P : Prop} (h : P := by (with_reducible repeat (first | refine blk_drewN ?_ _ | refine blk_drew ?_ | refine blk_alloc ?_ _)); exact BK184.out) : P := h
theorem z6_3_ {P : Prop} (h : P := by repeat (first | (with_reducible first | exact HB.out | apply below_alloc | apply pw_below_drewN | apply below_drew1 | refine below_set ?_ GE183.out | refine below_set ?_ GE184.out | refine below_set ?_ GE185.out | refine below_set ?_ GE200.out | refine below_set ?_ GE202.out | refine below_set ?_ GE206.out) | exact HB.out)) : P := h
theorem z6_4_ {P : Prop} (h : P := by repeat (first | (with_reducible first | exact HB.out | apply below_alloc | apply pw_below_drewN | apply below_drew1 | refine below_set ?_ GE183.out | refine below_set ?_ GE184.out | refine below_set ?_ GE185.out | refine below_set ?_ GE200.out | refine below_set ?_ GE202.out | refine below_set ?_ GE206.out | refine below_set ?_ GE209.out) | exact HB.out)) : P := h
theorem z6_5_ {P : Prop} (h : P := by (with_reducible repeat (first | refine blk_drewN ?_ _ | refine blk_drew ?_ | refine blk_alloc ?_ _)); exact BK185.out) : P := h
theorem z6_6_ {P : Prop} (h : P := by first | exact Nat.ne_of_lt (Nat.lt_of_lt_of_le (by have := World.block_lt_of_cell? _ _ hw205_4; first | rwa [add_block] at this | exact this) GW206.out) | (rw [add_block]; exact Nat.ne_of_lt (Nat.lt_of_lt_of_le (by have := World.block_lt_of_cell? _ _ hw205_4; first | rwa [add_block] at this | exact this) GW206.out)) | (show (Addr.add _ _).block ≠ _; rw [add_block]; exact Nat.ne_of_lt (Nat.lt_of_lt_of_le (by have := World.block_lt_of_cell? _ _ hw205_4; first | rwa [add_block] at this | exact this) GW206.out)) | (dsimp only; exact Nat.ne_of_lt (Nat.lt_of_lt_of_le (by have := World.block_lt_of_cell? _ _ hw205_4; first | rwa [add_block] at this | exact this) GW206.out))) : P := h
theorem z6_7_ {P : Prop} (h : P := by first | exact Nat.ne_of_lt (Nat.lt_of_lt_of_le (by have := World.block_lt_of_cell? _ _ hw205_3; first | rwa [add_block] at this | exact this) GW206.out) | (rw [add_block]; exact Nat.ne_of_lt (Nat.lt_of_lt_of_le (by have := World.block_lt_of_cell? _ _ hw205_3; first | rwa [add_block] at this | exact this) GW206.out)) | (show (Addr.add _ _).block ≠ _; rw [add_block]; exact Nat.ne_of_lt (Nat.lt_of_lt_of_le (by have := World.block_lt_of_cell? _ _ hw205_3; first | rwa [add_block] at this | exact this) GW206.out)) | (dsimp only; exact Nat.ne_of_lt (Nat.lt_of_lt_of_le (by have := World.block_lt_of_cell? _ _ hw205_3; first | rwa [add_block] at this | exact this) GW206.out))) : P := h
theorem z6_8_ {P : Prop} (h : P := by first | exact Nat.ne_of_lt (Nat.lt_of_lt_of_le (by have := World.block_lt_of_cell? _ _ hw205_2; first | rwa [add_block] at this | exact this) GW206.out) | (rw [add_block]; exact Nat.ne_of_lt (Nat.lt_of_lt_of_le (by have := World.block_lt_of_cell? _ _ hw205_2; first | rwa [add_block] at this | exact this) GW206.out)) | (show (Addr.add _ _).block ≠ _; rw [add_block]; exact Nat.ne_of_lt (Nat.lt_of_lt_of_le (by have := World.block_lt_of_cell? _ _ hw205_2; first | rwa [add_block] at this | exact this) GW206.out)) | (dsimp only; exact Nat.ne_of_lt (Nat.lt_of_lt_of_le (by have := World.block_lt_of_cell? _ _ hw205_2; first | rwa [add_block] at this | exact this) GW206.out))) : P := h
theorem z6_9_ {P : Prop} (h : P := by first | exact Nat.ne_of_lt (Nat.lt_of_lt_of_le (by have := World.block_lt_of_cell? _ _ hw205_1; first | rwa [add_block] at this | exact this) GW206.out) | (rw [add_block]; exact Nat.ne_of_lt (Nat.lt_of_lt_of_le (by have := World.block_lt_of_cell? _ _ hw205_1; first | rwa [add_block] at this | exact this) GW206.out)) | (show (Addr.add _ _).block ≠ _; rw [add_block]; exact Nat.ne_of_lt (Nat.lt_of_lt_of_le (by have := World.block_lt_of_cell? _ _ hw205_1; first | rwa [add_block] at this | exact this) GW206.out)) | (dsimp only; exact Nat.ne_of_lt (Nat.lt_of_lt_of_le (by have := World.block_lt_of_cell? _ _ hw205_1; first | rwa [add_block] at this | exact this) GW206.out))) : P := h
theorem z6_10_ {P : Prop} (h : P := by first | exact Nat.ne_of_lt (Nat.lt_of_lt_of_le (by have := World.block_lt_of_cell? _ _ hw205_0; first | rwa [add_block] at this | exact this) GW206.out) | (rw [add_block]; exact Nat.ne_of_lt (Nat.lt_of_lt_of_le (by have := World.block_lt_of_cell? _ _ hw205_0; first | rwa [add_block] at this | exact this) GW206.out)) | (show (Addr.add _ _).block ≠ _; rw [add_block]; exact Nat.ne_of_lt (Nat.lt_of_lt_of_le (by have := World.block_lt_of_cell? _ _ hw205_0; first | rwa [add_block] at this | exact this) GW206.out)) | (dsimp only; exact Nat.ne_of_lt (Nat.lt_of_lt_of_le (by have := World.block_lt_of_cell? _ _ hw205_0; first | rwa [add_block] at this | exact this) GW206.out))) : P := h
theorem z6_11_ {P : Prop} (h : P := by (with_reducible repeat (first | refine blk_drewN ?_ _ | refine blk_drew ?_ | refine blk_alloc ?_ _)); exact BK200.out) : P := h
theorem z6_12_ {P : Prop} (h : P := by repeat (first | (with_reducible first | exact HB.out | apply below_alloc | apply pw_below_drewN | apply below_drew1 | refine below_set ?_ GE183.out | refine below_set ?_ GE184.out | refine below_set ?_ GE185.out) | exact HB.out)) : P := h
theorem z6_13_ {P : Prop} (h : P := by repeat (first | (with_reducible first | exact HB.out | apply below_alloc | apply pw_below_drewN | apply below_drew1 | refine below_set ?_ GE183.out | refine below_set ?_ GE184.out | refine below_set ?_ GE185.out | refine below_set ?_ GE200.out) | exact HB.out)) : P := h
theorem z6_14_ {P : Prop} (h : P := by first | exact Nat.ne_of_lt (Nat.lt_of_lt_of_le (by have := World.block_lt_of_cell? _ _ hw208_4; first | rwa [add_block] at this | exact this) GW209.out) | (rw [add_block]; exact Nat.ne_of_lt (Nat.lt_of_lt_of_le (by have := World.block_lt_of_cell? _ _ hw208_4; first | rwa [add_block] at this | exact this) GW209.out)) | (show (Addr.add _ _).block ≠ _; rw [add_block]; exact Nat.ne_of_lt (Nat.lt_of_lt_of_le (by have := World.block_lt_of_cell? _ _ hw208_4; first | rwa [add_block] at this | exact this) GW209.out)) | (dsimp only; exact Nat.ne_of_lt (Nat.lt_of_lt_of_le (by have := World.block_lt_of_cell? _ _ hw208_4; first | rwa [add_block] at this | exact this) GW209.out))) : P := h
theorem z6_15_ {P : Prop} (h : P := by first | exact Nat.ne_of_lt (Nat.lt_of_lt_of_le (by have := World.block_lt_of_cell? _ _ hw208_3; first | rwa [add_block] at this | exact this) GW209.out) | (rw [add_block]; exact Nat.ne_of_lt (Nat.lt_of_lt_of_le (by have := World.block_lt_of_cell? _ _ hw208_3; first | rwa [add_block] at this | exact this) GW209.out)) | (show (Addr.add _ _).block ≠ _; rw [add_block]; exact Nat.ne_of_lt (Nat.lt_of_lt_of_le (by have := World.block_lt_of_cell? _ _ hw208_3; first | rwa [add_block] at this | exact this) GW209.out)) | (dsimp only; exact Nat.ne_of_lt (Nat.lt_of_lt_of_le (by have := World.block_lt_of_cell? _ _ hw208_3; first | rwa [add_block] at this | exact this) GW209.out))) : P := h
theorem z6_16_ {P : Prop} (h : P := by first | exact Nat.ne_of_lt (Nat.lt_of_lt_of_le (by have := World.block_lt_of_cell? _ _ hw208_2; first | rwa [add_block] at this | exact this) GW209.out) | (rw [add_block]; exact Nat.ne_of_lt (Nat.lt_of_lt_of_le (by have := World.block_lt_of_cell? _ _ hw208_2; first | rwa [add_block] at this | exact this) GW209.out)) | (show (Addr.add _ _).block ≠ _; rw [add_block]; exact Nat.ne_of_lt (Nat.lt_of_lt_of_le (by have := World.block_lt_of_cell? _ _ hw208_2; first | rwa [add_block] at this | exact this) GW209.out)) | (dsimp only; exact Nat.ne_of_lt (Nat.lt_of_lt_of_le (by have := World.block_lt_of_cell? _ _ hw208_2; first | rwa [add_block] at this | exact this) GW209.out))) : P := h
theorem z6_17_ {P : Prop} (h : P := by first | exact Nat.ne_of_lt (Nat.lt_of_lt_of_le (by have := World.block_lt_of_cell? _ _ hw208_1; first | rwa [add_block] at this | exact this) GW209.out) | (rw [add_block]; exact Nat.ne_of_lt (Nat.lt_of_lt_of_le (by have := World.block_lt_of_cell? _ _ hw208_1; first | rwa [add_block] at this | exact this) GW209.out)) | (show (Addr.add _ _).block ≠ _; rw [add_block]; exact Nat.ne_of_lt (Nat.lt_of_lt_of_le (by have := World.block_lt_of_cell? _ _ hw208_1; first | rwa [add_block] at this | exact this) GW209.out)) | (dsimp only; exact Nat.ne_of_lt (Nat.lt_of_lt_of_le (by have := World.block_lt_of_cell? _ _ hw208_1; first | rwa [add_block] at this | exact this) GW209.out))) : P := h
theorem z6_18_ {P : Prop} (h : P := by first | exact Nat.ne_of_lt (Nat.lt_of_lt_of_le (by have := World.block_lt_of_cell? _ _ hw208_0; first | rwa [add_block] at this | exact this) GW209.out) | (rw [add_block]; exact Nat.ne_of_lt (Nat.lt_of_lt_of_le (by have := World.block_lt_of_cell? _ _ hw208_0; first | rwa [add_block] at this | exact this) GW209.out)) | (show (Addr.add _ _).block ≠ _; rw [add_block]; exact Nat.ne_of_lt (Nat.lt_of_lt_of_le (by have := World.block_lt_of_cell? _ _ hw208_0; first | rwa [add_block] at this | exact this) GW209.out)) | (dsimp only; exact Nat.ne_of_lt (Nat.lt_of_lt_of_le (by have := World.block_lt_of_cell? _ _ hw208_0; first | rwa [add_block] at this | exact this) GW209.out))) : P := h
theorem z6_19_ {P : Prop} (h : P := by (with_reducible repeat (first | refine blk_drewN ?_ _ | refine blk_drew ?_ | refine blk_alloc ?_ _)); exact BK202.out) : P := h
theorem z6_20_ {P : Prop} (h : P := by (with_reducible repeat (first | refine blk_drewN ?_ _ | refine blk_drew ?_ | refine blk_alloc ?_ _)); exact BK206.out) : P := h
theorem z6_21_ {P : Prop} (h : P := by (with_reducible repeat (first | apply Kd.R_alloc | apply Kd.R_drewN | apply Kd.R_drew)); exact HO_201000.out) : P := h
theorem z6_22_ {P : Prop} (h : P := by first | rfl | (simp; done) | (simp [*]; done) | (simp [isE_]; done)) : P := h
theorem z6_23_ {P : Prop} (h : P := by repeat (first | (with_reducible first | exact HB.out | apply below_alloc | apply pw_below_drewN | apply below_drew1 | refine below_set ?_ GE183.out | refine below_set ?_ GE184.out | refine below_set ?_ GE185.out | refine below_set ?_ GE200.out | refine below_set ?_ GE202.out) | exact HB.out)) : P := h
theorem z6_24_ {P : Prop} (h : P := by (try simp only [List.map_toArray, List.map_cons, List.map_nil]); first | done | rfl | (simp only [List.length_drop, List.length_take]; rfl)) : P := h
theorem z6_25_ {P : Prop} (h : P := by (with_reducible repeat (first | refine blk_drewN ?_ _ | refine blk_drew ?_ | refine blk_alloc ?_ _)); refine blk_put (cs := #[.slice none 0 0]) ?_ 0 _ rfl; (with_reducible repeat (first | refine blk_drewN ?_ _ | refine blk_drew ?_ | refine blk_alloc ?_ _)); exact BK185.out) : P := h
theorem z6_26_ {P : Prop} (h : P := by (with_reducible repeat (first | apply Kd.R_alloc | apply Kd.R_drewN | apply Kd.R_drew)); exact HO_6.out) : P := h
theorem z6_27_ {P : Prop} (h : P := by (with_reducible repeat (first | refine blk_drewN ?_ _ | refine blk_drew ?_ | refine blk_alloc ?_ _)); refine blk_far ?_ NB206_209.out _; (with_reducible repeat (first | refine blk_drewN ?_ _ | refine blk_drew ?_ | refine blk_alloc ?_ _)); refine blk_far ?_ NB206_209.out _; (with_reducible repeat (first | refine blk_drewN ?_ _ | refine blk_drew ?_ | refine blk_alloc ?_ _)); exact BK206.out) : P := h
theorem z6_28_ {P : Prop} (h : P := by (with_reducible repeat (first | refine blk_drewN ?_ _ | refine blk_drew ?_ | refine blk_alloc ?_ _)); refine blk_far ?_ NB202_209.out _; (with_reducible repeat (first | refine blk_drewN ?_ _ | refine blk_drew ?_ | refine blk_alloc ?_ _)); refine blk_far ?_ NB202_209.out _; (with_reducible repeat (first | refine blk_drewN ?_ _ | refine blk_drew ?_ | refine blk_alloc ?_ _)); exact BK202.out) : P := h
theorem z6_29_ {P : Prop} (h : P := by (with_reducible repeat (first | refine blk_drewN ?_ _ | refine blk_drew ?_ | refine blk_alloc ?_ _)); refine blk_far ?_ NB200_209.out _; (with_reducible repeat (first | refine blk_drewN ?_ _ | refine blk_drew ?_ | refine blk_alloc ?_ _)); refine blk_far ?_ NB200_209.out _; (with_reducible repeat (first | refine blk_drewN ?_ _ | refine blk_drew ?_ | refine blk_alloc ?_ _)); exact BK200.out) : P := h
theorem z6_30_ {P : Prop} (h : P := by (with_reducible repeat (first | refine blk_drewN ?_ _ | refine blk_drew ?_ | refine blk_alloc ?_ _)); refine blk_far ?_ NB185_209.out _; (with_reducible repeat (first | refine blk_drewN ?_ _ | refine blk_drew ?_ | refine blk_alloc ?_ _)); refine blk_far ?_ NB185_209.out _; (with_reducible repeat (first | refine blk_drewN ?_ _ | refine blk_drew ?_ | refine blk_alloc ?_ _)); exact BK185.out) : P := h
theorem z6_31_ {P : Prop} (h : P := by (with_reducible repeat (first | refine blk_drewN ?_ _ | refine blk_drew ?_ | refine blk_alloc ?_ _)); refine blk_far ?_ NB184_209.out _; (with_reducible repeat (first | refine blk_drewN ?_ _ | refine blk_drew ?_ | refine blk_alloc ?_ _)); refine blk_far ?_ NB184_209.out _; (with_reducible repeat (first | refine blk_drewN ?_ _ | refine blk_drew ?_ | refine blk_alloc ?_ _)); exact BK184.out) : P := h
theorem z6_32_ {P : Prop} (h : P := by (with_reducible repeat (first | refine blk_drewN ?_ _ | refine blk_drew ?_ | refine blk_alloc ?_ _)); refine blk_far ?_ NB183_209.out _; (with_reducible repeat (first | refine blk_drewN ?_ _ | refine blk_drew ?_ | refine blk_alloc ?_ _)); refine blk_far ?_ NB183_209.out _; (with_reducible repeat (first | refine blk_drewN ?_ _ | refine blk_drew ?_ | refine blk_alloc ?_ _)); exact BK183.out) : P := h
theorem z6_33_ {P : Prop} (h : P := by first | exact Nat.ne_of_lt (Nat.lt_of_lt_of_le (by have := World.block_lt_of_cell? _ _ hw211_4; first | rwa [add_block] at this | exact this) GW209.out) | (rw [add_block]; exact Nat.ne_of_lt (Nat.lt_of_lt_of_le (by have := World.block_lt_of_cell? _ _ hw211_4; first | rwa [add_block] at this | exact this) GW209.out)) | (show (Addr.add _ _).block ≠ _; rw [add_block]; exact Nat.ne_of_lt (Nat.lt_of_lt_of_le (by have := World.block_lt_of_cell? _ _ hw211_4; first | rwa [add_block] at this | exact this) GW209.out)) | (dsimp only; exact Nat.ne_of_lt (Nat.lt_of_lt_of_le (by have := World.block_lt_of_cell? _ _ hw211_4; first | rwa [add_block] at this | exact this) GW209.out))) : P := h
theorem z6_34_ {P : Prop} (h : P := by first | exact Nat.ne_of_lt (Nat.lt_of_lt_of_le (by have := World.block_lt_of_cell? _ _ hw211_3; first | rwa [add_block] at this | exact this) GW209.out) | (rw [add_block]; exact Nat.ne_of_lt (Nat.lt_of_lt_of_le (by have := World.block_lt_of_cell? _ _ hw211_3; first | rwa [add_block] at this | exact this) GW209.out)) | (show (Addr.add _ _).block ≠ _; rw [add_block]; exact Nat.ne_of_lt (Nat.lt_of_lt_of_le (by have := World.block_lt_of_cell? _ _ hw211_3; first | rwa [add_block] at this | exact this) GW209.out)) | (dsimp only; exact Nat.ne_of_lt (Nat.lt_of_lt_of_le (by have := World.block_lt_of_cell? _ _ hw211_3; first | rwa [add_block] at this | exact this) GW209.out))) : P := h
theorem z6_35_ {P : Prop} (h : P := by first | exact Nat.ne_of_lt (Nat.lt_of_lt_of_le (by have := World.block_lt_of_cell? _ _ hw211_2; first | rwa [add_block] at this | exact this) GW209.out) | (rw [add_block]; exact Nat.ne_of_lt (Nat.lt_of_lt_of_le (by have := World.block_lt_of_cell? _ _ hw211_2; first | rwa [add_block] at this | exact this) GW209.out)) | (show (Addr.add _ _).block ≠ _; rw [add_block]; exact Nat.ne_of_lt (Nat.lt_of_lt_of_le (by have := World.block_lt_of_cell? _ _ hw211_2; first | rwa [add_block] at this | exact this) GW209.out)) | (dsimp only; exact Nat.ne_of_lt (Nat.lt_of_lt_of_le (by have := World.block_lt_of_cell? _ _ hw211_2; first | rwa [add_block] at this | exact this) GW209.out))) : P := h
theorem z6_36_ {P : Prop} (h : P := by first | exact Nat.ne_of_lt (Nat.lt_of_lt_of_le (by have := World.block_lt_of_cell? _ _ hw211_1; first | rwa [add_block] at this | exact this) GW209.out) | (rw [add_block]; exact Nat.ne_of_lt (Nat.lt_of_lt_of_le (by have := World.block_lt_of_cell? _ _ hw211_1; first | rwa [add_block] at this | exact this) GW209.out)) | (show (Addr.add _ _).block ≠ _; rw [add_block]; exact Nat.ne_of_lt (Nat.lt_of_lt_of_le (by have := World.block_lt_of_cell? _ _ hw211_1; first | rwa [add_block] at this | exact this) GW209.out)) | (dsimp only; exact Nat.ne_of_lt (Nat.lt_of_lt_of_le (by have := World.block_lt_of_cell? _ _ hw211_1; first | rwa [add_block] at this | exact this) GW209.out))) : P := h
theorem z6_37_ {P : Prop} (h : P := by first | exact Nat.ne_of_lt (Nat.lt_of_lt_of_le (by have := World.block_lt_of_cell? _ _ hw211_0; first | rwa [add_block] at this | exact this) GW209.out) | (rw [add_block]; exact Nat.ne_of_lt (Nat.lt_of_lt_of_le (by have := World.block_lt_of_cell? _ _ hw211_0; first | rwa [add_block] at this | exact this) GW209.out)) | (show (Addr.add _ _).block ≠ _; rw [add_block]; exact Nat.ne_of_lt (Nat.lt_of_lt_of_le (by have := World.block_lt_of_cell? _ _ hw211_0; first | rwa [add_block] at this | exact this) GW209.out)) | (dsimp only; exact Nat.ne_of_lt (Nat.lt_of_lt_of_le (by have := World.block_lt_of_cell? _ _ hw211_0; first | rwa [add_block] at this | exact this) GW209.out))) : P := h
theorem z6_38_ {P : Prop} (h : P := by first | (rw [add_block]; exact hn210_1) | (show (Addr.add _ _).block ≠ _; rw [add_block]; exact hn210_1) | exact hn210_1) : P := h
theorem z6_39_ {P : Prop} (h : P := by first | (rw [add_block]; exact hn210_0) | (show (Addr.add _ _).block ≠ _; rw [add_block]; exact hn210_0) | exact hn210_0) : P := h
theorem z6_40_ {P : Prop} (h : P := by first | (rw [add_block]; exact hn203_1) | (show (Addr.add _ _).block ≠ _; rw [add_block]; exact hn203_1) | exact hn203_1) : P := h
theorem z6_41_ {P : Prop} (h : P := by first | (rw [add_block]; exact hn203_0) | (show (Addr.add _ _).block ≠ _; rw [add_block]; exact hn203_0) | exact hn203_0) : P := h
theorem z6_42_ {P : Prop} (h : P := by first | exact Kd.R_nil _ _ _ _ _ | exact Kd.N_nil _ _ _ _ _ | exact Kd.V_nil _ _ _ _ _ | exact Kd.Q_nil _ _ _ _ _ | exact Kd.S_nil _ _ _ _ _) : P := h
theorem z6_43_ {P : Prop} (h : P := by (with_reducible repeat (first | apply Kd.R_alloc | apply Kd.R_drewN | apply Kd.R_drew)); exact Kd.R_mono (Kd.R_far (p := ⟨gb209, 1, none⟩) (Kd.R_far (p := ⟨gb209, 0, none⟩) (Kd.R_mono HO_6.out (fun k_ hk => (⟨hk, hk.2⟩ : _ ∧ k_ ≠ gb209))) (fun _ hk => hk.2) (.int .i16 ((rd_T89 l0_0 ((rd_T98 x6_2 x10_2).f0)).f2.f0))) (fun _ hk => hk.2) (.int .i16 ((rd_T98 x6_2 x10_2).f1))) (fun _ hk => ⟨hk.1.1, hk.1.2⟩)) : P := h
theorem z6_44_ {P : Prop} (h : P := by repeat (first | (with_reducible first | exact HB.out | apply below_alloc | apply pw_below_drewN | apply below_drew1 | refine below_set ?_ GE183.out | refine below_set ?_ GE184.out) | exact HB.out)) : P := h
theorem z6_45_ {P : Prop} (h : P := by (with_reducible repeat (first | apply Kd.R_alloc | apply Kd.R_drewN | apply Kd.R_drew)); exact Kd.R_mono (Kd.R_far (p := ⟨gb209, 1, none⟩) (Kd.R_far (p := ⟨gb209, 0, none⟩) (Kd.R_types HO_201000.out BK209.out (by decide)) (fun _ hk => hk.2) (.int .i16 ((rd_T89 l0_0 ((rd_T98 x6_2 x10_2).f0)).f2.f0))) (fun _ hk => hk.2) (.int .i16 ((rd_T98 x6_2 x10_2).f1))) (fun _ hk => hk.1)) : P := h
theorem z6_46_ {P : Prop} (h : P := by (with_reducible repeat (first | refine blk_drewN ?_ _ | refine blk_drew ?_ | refine blk_alloc ?_ _)); exact BK209.out) : P := h
theorem z6_47_ {P : Prop} (h : P := by repeat (first | (with_reducible first | exact HB.out | apply below_alloc | apply pw_below_drewN | apply below_drew1 | refine below_set ?_ GE183.out) | exact HB.out)) : P := h
theorem z6_48_ {P : Prop} (h : P := by first | rfl | (simp [errW_none, errW_some] <;> rfl) | (simp [*, errW_none, errW_some] <;> rfl)) : P := h
theorem z6_49_ {P : Prop} (h : P := by rw [hw]; exact (by (with_reducible repeat (first | refine blk_drewN ?_ _ | refine blk_drew ?_ | refine blk_alloc ?_ _)); refine blk_far ?_ NB209_206.out _; (with_reducible repeat (first | refine blk_drewN ?_ _ | refine blk_drew ?_ | refine blk_alloc ?_ _)); exact BK209.out)) : P := h
theorem z6_50_ {P : Prop} (h : P := by rw [hw]; exact (by (with_reducible repeat (first | refine blk_drewN ?_ _ | refine blk_drew ?_ | refine blk_alloc ?_ _)); refine blk_far ?_ NB202_206.out _; (with_reducible repeat (first | refine blk_drewN ?_ _ | refine blk_drew ?_ | refine blk_alloc ?_ _)); exact BK202.out)) : P := h
theorem z6_51_ {P : Prop} (h : P := by rw [hw]; exact (by (with_reducible repeat (first | refine blk_drewN ?_ _ | refine blk_drew ?_ | refine blk_alloc ?_ _)); refine blk_far ?_ NB200_206.out _; (with_reducible repeat (first | refine blk_drewN ?_ _ | refine blk_drew ?_ | refine blk_alloc ?_ _)); exact BK200.out)) : P := h
theorem z6_52_ {P : Prop} (h : P := by rw [hw]; exact (by (with_reducible repeat (first | refine blk_drewN ?_ _ | refine blk_drew ?_ | refine blk_alloc ?_ _)); refine blk_far ?_ NB185_206.out _; (with_reducible repeat (first | refine blk_drewN ?_ _ | refine blk_drew ?_ | refine blk_alloc ?_ _)); exact BK185.out)) : P := h
theorem z6_53_ {P : Prop} (h : P := by rw [hw]; exact (by (with_reducible repeat (first | refine blk_drewN ?_ _ | refine blk_drew ?_ | refine blk_alloc ?_ _)); refine blk_far ?_ NB184_206.out _; (with_reducible repeat (first | refine blk_drewN ?_ _ | refine blk_drew ?_ | refine blk_alloc ?_ _)); exact BK184.out)) : P := h
theorem z6_54_ {P : Prop} (h : P := by rw [hw]; exact (by (with_reducible repeat (first | refine blk_drewN ?_ _ | refine blk_drew ?_ | refine blk_alloc ?_ _)); refine blk_far ?_ NB183_206.out _; (with_reducible repeat (first | refine blk_drewN ?_ _ | refine blk_drew ?_ | refine blk_alloc ?_ _)); exact BK183.out)) : P := h
theorem z6_55_ {P : Prop} (h : P := by repeat (first | (with_reducible first | exact HB.out | apply below_alloc | apply pw_below_drewN | apply below_drew1) | exact HB.out)) : P := h
theorem z6_56_ {P : Prop} (h : P := by (with_reducible repeat (first | refine blk_drewN ?_ _ | refine blk_drew ?_ | refine blk_alloc ?_ _)); refine blk_far ?_ NB185_200.out _; (with_reducible repeat (first | refine blk_drewN ?_ _ | refine blk_drew ?_ | refine blk_alloc ?_ _)); exact BK185.out) : P := h
theorem z6_57_ {P : Prop} (h : P := by (with_reducible repeat (first | refine blk_drewN ?_ _ | refine blk_drew ?_ | refine blk_alloc ?_ _)); refine blk_far ?_ NB184_200.out _; (with_reducible repeat (first | refine blk_drewN ?_ _ | refine blk_drew ?_ | refine blk_alloc ?_ _)); exact BK184.out) : P := h
theorem z6_58_ {P : Prop} (h : P := by (with_reducible repeat (first | refine blk_drewN ?_ _ | refine blk_drew ?_ | refine blk_alloc ?_ _)); refine blk_far ?_ NB183_200.out _; (with_reducible repeat (first | refine blk_drewN ?_ _ | refine blk_drew ?_ | refine blk_alloc ?_ _)); exact BK183.out) : P := h
theorem z6_59_ {P : Prop} (h : P := by have := HJ2.out; have := HK2.out; have := HJ23.out; have := HK4.out; have := HJ52.out; omega) : P := h
theorem z6_60_ {P : Prop} (h : P := by repeat (first | exact (Kd.C_below HR0_0.out HB.out) | (with_reducible refine Kd.C_alloc ?_ _) | (with_reducible refine Kd.C_drewN ?_ _) | (with_reducible refine Kd.C_drew ?_))) : P := h
theorem z6_61_ {P : Prop} (h : P := by have := HJ2.out; have := HK2.out; have := HJ23.out; have := HK4.out; first | omega | exact Nat.le_refl _) : P := h
/-! ### spec_ComposeTrees: function 29 -/
mutual
def spec_ComposeTrees.j0 : Nat → Bool → List (S89) → List (S89) → Option ((List (S89)) × Int)
 | 0, _, _, _ => none
 | k + 1, x24, x184000, x185000 => if x24 = true then (some (([] : List (S89)), 1)) else ((spec_l06Join.f k [(⟨x184000⟩ : S34)] [(⟨x185000⟩ : S34)] (([] : List (S98))) 0 0).bind fun bt195 => (spec_ComposeTrees.l0 k bt195.1 bt195.2.2 0 x184000 x185000 ([] : List (S89))))
def spec_ComposeTrees.l0 : Nat → List (S98) → Int → Int → List (S89) → List (S89) → List (S89) → Option ((List (S89)) × Int)
 | 0, _, _, _, _, _, _ => none
 | k + 1, x6, x8, x10, x184000, x185000, x201000 => if x10 < (x6.length : Int) then (spec_ComposeTrees.j2 k x6 x8 x10 (x8 == 0) x184000 x185000 x201000) else (spec_ComposeTrees.j2 k x6 x8 x10 false x184000 x185000 x201000)
def spec_ComposeTrees.j2 : Nat → List (S98) → Int → Int → Bool → List (S89) → List (S89) → List (S89) → Option ((List (S89)) × Int)
 | 0, _, _, _, _, _, _, _ => none
 | k + 1, x6, x8, x10, x41, x184000, x185000, x201000 => if x41 = true then (if 0 ≤ x10 then (if x10 < (x6.length : Int) then (if 0 ≤ ((rd_T98 x6 x10).f0) then (if ((rd_T98 x6 x10).f0) < (x184000.length : Int) then (if 0 < ([rd_T89 x184000 ((rd_T98 x6 x10).f0)].length : Int) then (spec_ComposeTrees.l1 k x6 x8 x10 [rd_T89 x184000 ((rd_T98 x6 x10).f0)] 0 x184000 x185000 x201000 ((rd_T98 x6 x10).f0) ((rd_T98 x6 x10).f1) ((rd_T89 x184000 ((rd_T98 x6 x10).f0)).f0) ((rd_T89 x184000 ((rd_T98 x6 x10).f0)).f1) 0 0 0) else (none)) else (none)) else (none)) else (none)) else (none)) else (if x8 = 0 then (if (x201000.length : Int) > 60 then (some (([] : List (S89)), 3)) else (some (x201000, 0))) else (some (([] : List (S89)), x8)))
def spec_ComposeTrees.l1 : Nat → List (S98) → Int → Int → List (S89) → Int → List (S89) → List (S89) → List (S89) → Int → Int → Int → Int → Int → Int → Int → Option ((List (S89)) × Int)
 | 0, _, _, _, _, _, _, _, _, _, _, _, _, _, _, _ => none
 | k + 1, x6, x8, x10, x12, x14, x184000, x185000, x201000, x203000, x203001, x207000, x207001, x207002, x207003, x207004 => (spec_l06Ways.f x12).bind fun t207 => (if x14 < t207 then (spec_ComposeTrees.j4 k x6 x8 x10 x12 x14 (x8 == 0) x184000 x185000 x201000 x203000 x203001 x207000 x207001 x207002 x207003 x207004) else (spec_ComposeTrees.j4 k x6 x8 x10 x12 x14 false x184000 x185000 x201000 x203000 x203001 x207000 x207001 x207002 x207003 x207004))
def spec_ComposeTrees.j4 : Nat → List (S98) → Int → Int → List (S89) → Int → Bool → List (S89) → List (S89) → List (S89) → Int → Int → Int → Int → Int → Int → Int → Option ((List (S89)) × Int)
 | 0, _, _, _, _, _, _, _, _, _, _, _, _, _, _, _, _ => none
 | k + 1, x6, x8, x10, x12, x14, x69, x184000, x185000, x201000, x203000, x203001, x207000, x207001, x207002, x207003, x207004 => if x69 = true then (if 0 < (x12.length : Int) then (if ((rd_T89 x12 0).f0) = 1 then (if 0 ≤ x203001 then (if x203001 < (x185000.length : Int) then (if 0 ≤ x14 then (if x14 < 3 then ((spec_l06Join.f k [(⟨x184000⟩ : S34)] [(⟨x185000⟩ : S34)] x6 x203000 (rd [(rd_T89 x185000 x203001).f2.f0, (rd_T89 x185000 x203001).f2.f1, (rd_T89 x185000 x203001).f2.f2] x14)).bind fun bt215 => (spec_ComposeTrees.l1 k bt215.1 bt215.2.2 x10 x12 (wrap64 (x14 + 1)) x184000 x185000 x201000 x203000 x203001 x207000 x207001 (up 0 x14 bt215.2.1 x207002) (up 1 x14 bt215.2.1 x207003) (up 2 x14 bt215.2.1 x207004))) else (none)) else (none)) else (none)) else (none)) else ((spec_l06Join.f k [(⟨x184000⟩ : S34)] [(⟨x185000⟩ : S34)] x6 ((rd_T89 x12 0).f2.f0) x203001).bind fun bt223 => (if 0 ≤ x14 then (if x14 < 3 then (spec_ComposeTrees.l1 k bt223.1 bt223.2.2 x10 x12 (wrap64 (x14 + 1)) x184000 x185000 x201000 x203000 x203001 x207000 x207001 (up 0 x14 bt223.2.1 x207002) (up 1 x14 bt223.2.1 x207003) (up 2 x14 bt223.2.1 x207004)) else (none)) else (none)))) else (none)) else (if x201000.length < 17592186044416 then (spec_ComposeTrees.l0 k x6 x8 (wrap64 (x10 + 1)) x184000 x185000 (x201000 ++ [(⟨x207000, x207001, (⟨x207002, x207003, x207004⟩ : S87)⟩ : S89)])) else (none))
end
def spec_ComposeTrees.f (k : Nat) (l0_0 : List (S89)) (l1_0 : List (S89)) : Option ((List (S89)) × Int) := (spec_l06Ok.f k [(⟨l0_0⟩ : S34)]).bind fun t187 => (if t187 = true then ((spec_l06Ok.f k [(⟨l1_0⟩ : S34)]).bind fun t189 => (spec_ComposeTrees.j0 k (!t189) l0_0 l1_0)) else (spec_ComposeTrees.j0 k true l0_0 l1_0))
theorem spec_ComposeTrees.mono_l : ∀ k, (∀ y0 y1 y2, LeO (spec_ComposeTrees.j0 k y0 y1 y2) (spec_ComposeTrees.j0 (k + 1) y0 y1 y2)) ∧ (∀ y0 y1 y2 y3 y4 y5, LeO (spec_ComposeTrees.l0 k y0 y1 y2 y3 y4 y5) (spec_ComposeTrees.l0 (k + 1) y0 y1 y2 y3 y4 y5)) ∧ (∀ y0 y1 y2 y3 y4 y5 y6, LeO (spec_ComposeTrees.j2 k y0 y1 y2 y3 y4 y5 y6) (spec_ComposeTrees.j2 (k + 1) y0 y1 y2 y3 y4 y5 y6)) ∧ (∀ y0 y1 y2 y3 y4 y5 y6 y7 y8 y9 y10 y11 y12 y13 y14, LeO (spec_ComposeTrees.l1 k y0 y1 y2 y3 y4 y5 y6 y7 y8 y9 y10 y11 y12 y13 y14) (spec_ComposeTrees.l1 (k + 1) y0 y1 y2 y3 y4 y5 y6 y7 y8 y9 y10 y11 y12 y13 y14)) ∧ (∀ y0 y1 y2 y3 y4 y5 y6 y7 y8 y9 y10 y11 y12 y13 y14 y15, LeO (spec_ComposeTrees.j4 k y0 y1 y2 y3 y4 y5 y6 y7 y8 y9 y10 y11 y12 y13 y14 y15) (spec_ComposeTrees.j4 (k + 1) y0 y1 y2 y3 y4 y5 y6 y7 y8 y9 y10 y11 y12 y13 y14 y15))
 | 0 => ⟨fun _ _ _ r h => by simp [spec_ComposeTrees.j0] at h, fun _ _ _ _ _ _ r h => by simp [spec_ComposeTrees.l0] at h, fun _ _ _ _ _ _ _ r h => by simp [spec_ComposeTrees.j2] at h, fun _ _ _ _ _ _ _ _ _ _ _ _ _ _ _ r h => by simp [spec_ComposeTrees.l1] at h, fun _ _ _ _ _ _ _ _ _ _ _ _ _ _ _ _ r h => by simp [spec_ComposeTrees.j4] at h⟩
 | k + 1 => by
  obtain ⟨ih0, ih1, ih2, ih3, ih4⟩ := spec_ComposeTrees.mono_l k
  refine ⟨?_, ?_, ?_, ?_, ?_⟩
  ·
   intro y0 y1 y2
   unfold spec_ComposeTrees.j0
   repeat' first
   | (with_reducible exact ih0 _ _ _)
   | (with_reducible exact ih1 _ _ _ _ _ _)
   | (with_reducible exact ih2 _ _ _ _ _ _ _)
   | (with_reducible exact ih3 _ _ _ _ _ _ _ _ _ _ _ _ _ _ _)
   | (with_reducible exact ih4 _ _ _ _ _ _ _ _ _ _ _ _ _ _ _ _)
   | (with_reducible exact spec_l06Join.mono _ _ _ _ _ _)
   | (with_reducible exact spec_l06Ok.mono _ _)
   | (with_reducible exact LeO.refl _)
   | (with_reducible exact LeO.none _)
   | (with_reducible refine LeO.ite ?_ ?_)
   | (with_reducible refine LeO.bind ?_ (fun _ => ?_))
   | exact ih0 _ _ _
   | exact ih1 _ _ _ _ _ _
   | exact ih2 _ _ _ _ _ _ _
   | exact ih3 _ _ _ _ _ _ _ _ _ _ _ _ _ _ _
   | exact ih4 _ _ _ _ _ _ _ _ _ _ _ _ _ _ _ _
   | exact LeO.none _
   | refine LeO.ite ?_ ?_
   | refine LeO.bind ?_ (fun _ => ?_)
  ·
   intro y0 y1 y2 y3 y4 y5
   unfold spec_ComposeTrees.l0
   repeat' first
   | (with_reducible exact ih0 _ _ _)
   | (with_reducible exact ih1 _ _ _ _ _ _)
   | (with_reducible exact ih2 _ _ _ _ _ _ _)
   | (with_reducible exact ih3 _ _ _ _ _ _ _ _ _ _ _ _ _ _ _)
   | (with_reducible exact ih4 _ _ _ _ _ _ _ _ _ _ _ _ _ _ _ _)
   | (with_reducible exact spec_l06Join.mono _ _ _ _ _ _)
   | (with_reducible exact spec_l06Ok.mono _ _)
   | (with_reducible exact LeO.refl _)
   | (with_reducible exact LeO.none _)
   | (with_reducible refine LeO.ite ?_ ?_)
   | (with_reducible refine LeO.bind ?_ (fun _ => ?_))
   | exact ih0 _ _ _
   | exact ih1 _ _ _ _ _ _
   | exact ih2 _ _ _ _ _ _ _
   | exact ih3 _ _ _ _ _ _ _ _ _ _ _ _ _ _ _
   | exact ih4 _ _ _ _ _ _ _ _ _ _ _ _ _ _ _ _
   | exact LeO.none _
   | refine LeO.ite ?_ ?_
   | refine LeO.bind ?_ (fun _ => ?_)
  ·
   intro y0 y1 y2 y3 y4 y5 y6
   unfold spec_ComposeTrees.j2
   repeat' first
   | (with_reducible exact ih0 _ _ _)
   | (with_reducible exact ih1 _ _ _ _ _ _)
   | (with_reducible exact ih2 _ _ _ _ _ _ _)
   | (with_reducible exact ih3 _ _ _ _ _ _ _ _ _ _ _ _ _ _ _)
   | (with_reducible exact ih4 _ _ _ _ _ _ _ _ _ _ _ _ _ _ _ _)
   | (with_reducible exact spec_l06Join.mono _ _ _ _ _ _)
   | (with_reducible exact spec_l06Ok.mono _ _)
   | (with_reducible exact LeO.refl _)
   | (with_reducible exact LeO.none _)
   | (with_reducible refine LeO.ite ?_ ?_)
   | (with_reducible refine LeO.bind ?_ (fun _ => ?_))
   | exact ih0 _ _ _
   | exact ih1 _ _ _ _ _ _
   | exact ih2 _ _ _ _ _ _ _
   | exact ih3 _ _ _ _ _ _ _ _ _ _ _ _ _ _ _
   | exact ih4 _ _ _ _ _ _ _ _ _ _ _ _ _ _ _ _
   | exact LeO.none _
   | refine LeO.ite ?_ ?_
   | refine LeO.bind ?_ (fun _ => ?_)
  ·
   intro y0 y1 y2 y3 y4 y5 y6 y7 y8 y9 y10 y11 y12 y13 y14
   unfold spec_ComposeTrees.l1
   repeat' first
   | (with_reducible exact ih0 _ _ _)
   | (with_reducible exact ih1 _ _ _ _ _ _)
   | (with_reducible exact ih2 _ _ _ _ _ _ _)
   | (with_reducible exact ih3 _ _ _ _ _ _ _ _ _ _ _ _ _ _ _)
   | (with_reducible exact ih4 _ _ _ _ _ _ _ _ _ _ _ _ _ _ _ _)
   | (with_reducible exact spec_l06Join.mono _ _ _ _ _ _)
   | (with_reducible exact spec_l06Ok.mono _ _)
   | (with_reducible exact LeO.refl _)
   | (with_reducible exact LeO.none _)
   | (with_reducible refine LeO.ite ?_ ?_)
   | (with_reducible refine LeO.bind ?_ (fun _ => ?_))
   | exact ih0 _ _ _
   | exact ih1 _ _ _ _ _ _
   | exact ih2 _ _ _ _ _ _ _
   | exact ih3 _ _ _ _ _ _ _ _ _ _ _ _ _ _ _
   | exact ih4 _ _ _ _ _ _ _ _ _ _ _ _ _ _ _ _
   | exact LeO.none _
   | refine LeO.ite ?_ ?_
   | refine LeO.bind ?_ (fun _ => ?_)
  ·
   intro y0 y1 y2 y3 y4 y5 y6 y7 y8 y9 y10 y11 y12 y13 y14 y15
   unfold spec_ComposeTrees.j4
   repeat' first
   | (with_reducible exact ih0 _ _ _)
   | (with_reducible exact ih1 _ _ _ _ _ _)
   | (with_reducible exact ih2 _ _ _ _ _ _ _)
   | (with_reducible exact ih3 _ _ _ _ _ _ _ _ _ _ _ _ _ _ _)
   | (with_reducible exact ih4 _ _ _ _ _ _ _ _ _ _ _ _ _ _ _ _)
   | (with_reducible exact spec_l06Join.mono _ _ _ _ _ _)
   | (with_reducible exact spec_l06Ok.mono _ _)
   | (with_reducible exact LeO.refl _)
   | (with_reducible exact LeO.none _)
   | (with_reducible refine LeO.ite ?_ ?_)
   | (with_reducible refine LeO.bind ?_ (fun _ => ?_))
   | exact ih0 _ _ _
   | exact ih1 _ _ _ _ _ _
   | exact ih2 _ _ _ _ _ _ _
   | exact ih3 _ _ _ _ _ _ _ _ _ _ _ _ _ _ _
   | exact ih4 _ _ _ _ _ _ _ _ _ _ _ _ _ _ _ _
   | exact LeO.none _
   | refine LeO.ite ?_ ?_
   | refine LeO.bind ?_ (fun _ => ?_)
theorem spec_ComposeTrees.mono : ∀ a0 a1 k, LeO (spec_ComposeTrees.f k a0 a1) (spec_ComposeTrees.f (k + 1) a0 a1) := by
 intro a0 a1 k
 obtain ⟨ih0, ih1, ih2, ih3, ih4⟩ := spec_ComposeTrees.mono_l k
 unfold spec_ComposeTrees.f
 repeat' first
   | (with_reducible exact ih0 _ _ _)
   | (with_reducible exact ih1 _ _ _ _ _ _)
   | (with_reducible exact ih2 _ _ _ _ _ _ _)
   | (with_reducible exact ih3 _ _ _ _ _ _ _ _ _ _ _ _ _ _ _)
   | (with_reducible exact ih4 _ _ _ _ _ _ _ _ _ _ _ _ _ _ _ _)
   | (with_reducible exact spec_l06Join.mono _ _ _ _ _ _)
   | (with_reducible exact spec_l06Ok.mono _ _)
   | (with_reducible exact LeO.refl _)
   | (with_reducible exact LeO.none _)
   | (with_reducible refine LeO.ite ?_ ?_)
   | (with_reducible refine LeO.bind ?_ (fun _ => ?_))
   | exact ih0 _ _ _
   | exact ih1 _ _ _ _ _ _
   | exact ih2 _ _ _ _ _ _ _
   | exact ih3 _ _ _ _ _ _ _ _ _ _ _ _ _ _ _
   | exact ih4 _ _ _ _ _ _ _ _ _ _ _ _ _ _ _ _
   | exact LeO.none _
   | refine LeO.ite ?_ ?_
   | refine LeO.bind ?_ (fun _ => ?_)
def spec_ComposeTrees.T10 : Bool × List (List Nat × List Nat) := (true, [([], []), ([0], [0]), ([1], [1]), ([2], [2]), ([], []), ([4], [4]), ([5], [5]), ([6], [6]), ([3, 7], [3, 7]), ([], []), ([9, 8, 0, 1, 2, 3, 4, 5, 6, 7, 8, 9], [8, 9])])
def spec_ComposeTrees.B10 : List Nat := [0, 1, 3, 7, 0, 16, 48, 112, 255, 0, 1023]
theorem spec_ComposeTrees.tab10 : rtab .any (opsOf Try.f29 10) = spec_ComposeTrees.T10 := by kernel_rfl
theorem spec_ComposeTrees.bits10 : waitsOk spec_ComposeTrees.T10.2 spec_ComposeTrees.B10 = true := by kernel_rfl
def spec_ComposeTrees.T14 : Bool × List (List Nat × List Nat) := (true, [([], []), ([0], [0]), ([1], [1]), ([2], [2]), ([3], [3]), ([], []), ([5], [5]), ([4, 6], [4, 6]), ([], []), ([8, 7, 0, 1, 2, 3, 4, 5, 6, 7, 8], [7, 8])])
def spec_ComposeTrees.B14 : List Nat := [0, 1, 3, 7, 15, 0, 32, 127, 0, 511]
theorem spec_ComposeTrees.tab14 : rtab .any (opsOf Try.f29 14) = spec_ComposeTrees.T14 := by kernel_rfl
theorem spec_ComposeTrees.bits14 : waitsOk spec_ComposeTrees.T14.2 spec_ComposeTrees.B14 = true := by kernel_rfl
def spec_ComposeTrees.T16 : Bool × List (List Nat × List Nat) := (true, [([], []), ([0], [0]), ([], []), ([2], [2]), ([], []), ([4], [4]), ([], []), ([3, 5], [3, 5]), ([7], [7]), ([8, 6], [6, 8]), ([9], [9]), ([1, 10], [1, 10]), ([11, 0, 1, 2, 3, 4, 5, 6, 7, 8, 9, 10, 11], [11])])
def spec_ComposeTrees.B16 : List Nat := [0, 1, 0, 4, 0, 16, 0, 60, 188, 508, 1020, 2047, 4095]
theorem spec_ComposeTrees.tab16 : rtab .any (opsOf Try.f29 16) = spec_ComposeTrees.T16 := by kernel_rfl
theorem spec_ComposeTrees.bits16 : waitsOk spec_ComposeTrees.T16.2 spec_ComposeTrees.B16 = true := by kernel_rfl
set_option maxHeartbeats 8000000 in
set_option maxRecDepth 100000 in
theorem spec_ComposeTrees.calls (k : Nat) (A0_0 : Option Addr) (c0_0 : Nat) (l0_0 : List (S89)) (A1_0 : Option Addr) (c1_0 : Nat) (l1_0 : List (S89)) (r1 : List (S89)) (r2 : Int) (w : World) (hr0_0 : Kd.C k89 w A0_0 l0_0.length l0_0) (hc0_0 : l0_0.length ≤ c0_0) (hr1_0 : Kd.C k89 w A1_0 l1_0.length l1_0) (hc1_0 : l1_0.length ≤ c1_0) (h : spec_ComposeTrees.f k l0_0 l1_0 = some (r1, r2)) :
  Calls Try.prog 29 #[.agg #[.slice A0_0 l0_0.length c0_0], .agg #[.slice A1_0 l1_0.length c1_0]] w fun e w' => ∃ v0_ : Value, e = .returned (.tuple #[.agg #[v0_], .int .i64 r2]) ∧ Kd.R k89 89 w' w.heap.size (fun _ => True) v0_ r1 ∧ Below w.heap.size w w' := by
 have hu34 := Try.underlying34
 have hu98 := Try.underlying98
 have hu89 := Try.underlying89
 have HR0_0 := A_ hr0_0
 have HC0_0 := A_ hc0_0
 clear hr0_0 hc0_0
 have HR1_0 := A_ hr1_0
 have HC1_0 := A_ hc1_0
 clear hr1_0 hc1_0
 have HB := A_ (Below.refl w.heap.size w)
 have H : ((spec_l06Ok.f k [(⟨l0_0⟩ : S34)]).bind fun t187 => (if t187 = true then ((spec_l06Ok.f k [(⟨l1_0⟩ : S34)]).bind fun t189 => (spec_ComposeTrees.j0 k (!t189) l0_0 l1_0)) else (spec_ComposeTrees.j0 k true l0_0 l1_0))) = some (r1, r2) := h
 clear h
 have HC3 := A_ H
 clear H
 go_enter Try.func29, Try.ntmps29
 go_upto_region 1 with (first | ((with_reducible refine gate_dst (N := 2) rfl ?_); refine box_event ?hg (N := 2) ?hd (cs := #[.slice A0_0 l0_0.length c0_0]) (t := 34) ?hr ?_; (case hd => rfl); (case hg => rfl); (case hr => first | (go_simp; done) | (go_simp; rfl)); intro gb183 hg w4 hbox hb; have _ := A_ (below_step z6_55_ hb); have _ := A_ (hbox); have _ := A_ ((by rw [hg]; exact (below_size z6_55_) : w.heap.size ≤ gb183)); have _ := A_ ((by rw [hg]; exact (below_size z6_55_) : w.heap.size ≤ gb183)); clear HB; rename_i HB BK183 GW183 GE183; clear hb hbox hg) | ((with_reducible refine gate_dst (N := 3) rfl ?_); refine box_event ?hg (N := 3) ?hd (cs := #[.slice A1_0 l1_0.length c1_0]) (t := 34) ?hr ?_; (case hd => rfl); (case hg => rfl); (case hr => first | (go_simp; done) | (go_simp; rfl)); intro gb184 hg w5 hbox hb; have _ := A_ (blk_below (g := gb183) (o := .cells #[.slice A0_0 l0_0.length c0_0] 34 (0, 0)) z6_1_ hb); have _ := A_ (below_step z6_47_ hb); have _ := A_ (hbox); have _ := A_ ((by rw [hg]; exact (below_size z6_47_) : w.heap.size ≤ gb184)); have _ := A_ ((by rw [hg]; exact (below_size z6_47_) : w.heap.size ≤ gb184)); have _ := A_ ((by rw [hg]; exact Nat.ne_of_lt (blk_lt (g := gb183) (o := .cells #[.slice A0_0 l0_0.length c0_0] 34 (0, 0)) z6_1_) : gb183 ≠ gb184)); have _ := A_ ((by rw [hg]; exact Nat.ne_of_gt (blk_lt (g := gb183) (o := .cells #[.slice A0_0 l0_0.length c0_0] 34 (0, 0)) z6_1_) : gb184 ≠ gb183)); clear BK183 HB; rename_i BK183 HB BK184 GW184 GE184 NB183_184 NB184_183; clear hb hbox hg) | ((with_reducible refine gate_dst (N := 4) rfl ?_); refine box_event ?hg (N := 4) ?hd (cs := #[.slice none 0 0]) (t := 34) ?hr ?_; (case hd => rfl); (case hg => rfl); (case hr => first | (go_simp; done) | (go_simp; rfl)); intro gb185 hg w6 hbox hb; have _ := A_ (blk_below (g := gb183) (o := .cells #[.slice A0_0 l0_0.length c0_0] 34 (0, 0)) z6_1_ hb); have _ := A_ (blk_below (g := gb184) (o := .cells #[.slice A1_0 l1_0.length c1_0] 34 (0, 0)) z6_2_ hb); have _ := A_ (below_step z6_44_ hb); have _ := A_ (hbox); have _ := A_ ((by rw [hg]; exact (below_size z6_44_) : w.heap.size ≤ gb185)); have _ := A_ ((by rw [hg]; exact (below_size z6_44_) : w.heap.size ≤ gb185)); have _ := A_ ((by rw [hg]; exact Nat.ne_of_lt (blk_lt (g := gb183) (o := .cells #[.slice A0_0 l0_0.length c0_0] 34 (0, 0)) z6_1_) : gb183 ≠ gb185)); have _ := A_ ((by rw [hg]; exact Nat.ne_of_gt (blk_lt (g := gb183) (o := .cells #[.slice A0_0 l0_0.length c0_0] 34 (0, 0)) z6_1_) : gb185 ≠ gb183)); have _ := A_ ((by rw [hg]; exact Nat.ne_of_lt (blk_lt (g := gb184) (o := .cells #[.slice A1_0 l1_0.length c1_0] 34 (0, 0)) z6_2_) : gb184 ≠ gb185)); have _ := A_ ((by rw [hg]; exact Nat.ne_of_gt (blk_lt (g := gb184) (o := .cells #[.slice A1_0 l1_0.length c1_0] 34 (0, 0)) z6_2_) : gb185 ≠ gb184)); clear BK183 BK184 HB; rename_i BK183 BK184 HB BK185 GW185 GE185 NB183_185 NB185_183 NB184_185 NB185_184; clear hb hbox hg))
 (try simp only [Act.put, sA_, sB_, sC_])
 go_cut [24] (fun v24 wc => ∃ (kq : Nat) (x24_2 : Bool), v24 = .bool x24_2 ∧ Aside0 (spec_ComposeTrees.j0 kq x24_2 l0_0 l1_0 = some (r1, r2)) ∧ Aside0 (kq ≤ k) ∧ Aside0 (wc.heap[gb183]? = some (.cells #[(.slice A0_0 l0_0.length c0_0)] 34 (0, 0))) ∧ Aside0 (wc.heap[gb184]? = some (.cells #[(.slice A1_0 l1_0.length c1_0)] 34 (0, 0))) ∧ Aside0 (wc.heap[gb185]? = some (.cells #[(.slice none 0 0)] 34 (0, 0))) ∧ Aside0 (Below w.heap.size w wc))
 case first =>
  have H := HC3.out
  clear HC3
  replace H := Option.bind_eq_some_iff.mp H
  obtain ⟨t187, A70, H⟩ := H
  try dsimp only at H
  have A7 := A_ A70
  clear A70
  by_cases c8 : t187 = true
  ·
   subst c8
   have H1 := H; rw [if_pos rfl] at H1
   clear H
   have H := H1
   clear H1
   replace H := Option.bind_eq_some_iff.mp H
   obtain ⟨t189, A90, H⟩ := H
   try dsimp only at H
   have A9 := A_ A90
   clear A90
   have H' := A_ H
   clear H
   go_wp2_with (first | ((with_reducible refine gate_callee (f := 66) rfl ?_); refine goesL_ (some 19) rfl rfl Try.func66 (by kernel_rfl) rfl #[.pointer (some ⟨gb183, 0, none⟩)] rfl z6_24_ ?_; (with_reducible refine (spec_l06Ok.calls k _ ([(⟨l0_0⟩ : S34)]).length [(⟨l0_0⟩ : S34)] true _ ?side1 ?side2 A7.out).mono ?_); (case side1 => refine Kd.C_block k34 (g := gb183) (cs := #[.slice A0_0 l0_0.length c0_0]) (T := 34) z6_1_ (show Kd.K k34 _ (⟨l0_0⟩ : S34) [.slice A0_0 l0_0.length c0_0] from k34_mk _ _ (by exact HC0_0.out) z6_60_) (by decide)); (case side2 => exact Nat.le_refl _); rintro e w' ⟨rfl, ⟨nd, rfl⟩⟩; refine ⟨_, rfl, ?_⟩) | (go_at_call 66; (with_reducible refine (spec_l06Ok.calls k _ ([(⟨l1_0⟩ : S34)]).length [(⟨l1_0⟩ : S34)] t189 _ ?side1 ?side2 A9.out).mono ?_); (case side1 => refine Kd.C_block k34 (g := gb184) (cs := #[.slice A1_0 l1_0.length c1_0]) (T := 34) z6_2_ (show Kd.K k34 _ (⟨l1_0⟩ : S34) [.slice A1_0 l1_0.length c1_0] from k34_mk _ _ (by exact HC1_0.out) (by repeat (first | exact (Kd.C_below HR1_0.out z6_12_) | (with_reducible refine Kd.C_alloc ?_ _) | (with_reducible refine Kd.C_drewN ?_ _) | (with_reducible refine Kd.C_drew ?_)))) (by decide)); (case side2 => exact Nat.le_refl _); rintro e w' ⟨rfl, ⟨nd, rfl⟩⟩))
   go_meet
   case rel => exact ⟨_, (!t189), z6_22_, H', ⟨(by first | omega | exact Nat.le_refl _)⟩, ⟨z6_1_⟩, ⟨z6_2_⟩, ⟨z6_5_⟩, ⟨z6_12_⟩⟩
  ·
   replace c8 := Bool.eq_false_iff.mpr c8
   subst c8
   have H1 := H; rw [if_neg (show ¬ (false = true) by decide)] at H1
   clear H
   have H := H1
   clear H1
   have H' := A_ H
   clear H
   go_wp2_with (first | ((with_reducible refine gate_callee (f := 66) rfl ?_); refine goesL_ (some 19) rfl rfl Try.func66 (by kernel_rfl) rfl #[.pointer (some ⟨gb183, 0, none⟩)] rfl z6_24_ ?_; (with_reducible refine (spec_l06Ok.calls k _ ([(⟨l0_0⟩ : S34)]).length [(⟨l0_0⟩ : S34)] false _ ?side1 ?side2 A7.out).mono ?_); (case side1 => refine Kd.C_block k34 (g := gb183) (cs := #[.slice A0_0 l0_0.length c0_0]) (T := 34) z6_1_ (show Kd.K k34 _ (⟨l0_0⟩ : S34) [.slice A0_0 l0_0.length c0_0] from k34_mk _ _ (by exact HC0_0.out) z6_60_) (by decide)); (case side2 => exact Nat.le_refl _); rintro e w' ⟨rfl, ⟨nd, rfl⟩⟩; refine ⟨_, rfl, ?_⟩))
   go_meet
   case rel => exact ⟨_, (true), z6_22_, H', ⟨(by first | omega | exact Nat.le_refl _)⟩, ⟨z6_1_⟩, ⟨z6_2_⟩, ⟨z6_5_⟩, ⟨z6_12_⟩⟩
 case rest =>
  clear HC3
  try clear c1
  try clear c2
  try clear p2
  try clear c6
  try clear c8
  obtain ⟨kq, x24_2, rfl, HA, HJ2, BK183, BK184, BK185, HB⟩ := hcut
  cases kq with
  | zero => exact absurd HA.out (by simp [spec_ComposeTrees.j0])
  | succ kj2 =>
   have H := HA.out
   clear HA
   simp only [spec_ComposeTrees.j0] at H
   (repeat (first | rw [rd1_T89] at H))
   by_cases c10 : x24_2 = true
   ·
    subst c10
    have H1 := H; rw [if_pos rfl] at H1
    clear H
    have H := H1
    clear H1
    simp only [Option.some.injEq, Prod.mk.injEq] at H
    obtain ⟨rfl, rfl⟩ := H
    have hnb11 := NB185_183.out
    have hnc11 := NB183_185.out
    have hnb12 := NB185_184.out
    have hnc12 := NB184_185.out
    have hcz13_0 : wc.cell? ⟨gb185, 0, none⟩ = some (.slice none 0 0) := (blk_cell BK185.out 0).trans rfl
    have hfz13_0 := blk_frozen BK185.out 0
    go_wp2
    refine bodyPost_ret (results_ct rfl _ _ gb185 34 #[.slice none 0 0] (0, 0) _ rfl z6_25_ Try.underlying34 rfl (by kernel_rfl)) rfl ?_
    exact ⟨_, z6_48_, z6_42_, z6_12_⟩
   ·
    replace c10 := Bool.eq_false_iff.mpr c10
    subst c10
    have H1 := H; rw [if_neg (show ¬ (false = true) by decide)] at H1
    clear H
    have H := H1
    clear H1
    obtain ⟨y190, hy190⟩ : ∃ y_ : List (S98), y_ = (([] : List (S98))) := ⟨_, rfl⟩
    replace H : ((spec_l06Join.f kj2 [(⟨l0_0⟩ : S34)] [(⟨l1_0⟩ : S34)] y190 0 0).bind fun bt195 => (spec_ComposeTrees.l0 kj2 bt195.1 bt195.2.2 0 l0_0 l1_0 ([] : List (S89)))) = some (r1, r2) := by first | (rw [hy190]; with_reducible exact H) | (have H2_ := (Option.bind_some _ _).symm.trans H; rw [hy190]; with_reducible exact H2_) | (have H2_ := (Option.bind_some _ _).symm.trans H; with_reducible exact H2_) | with_reducible exact H | (rw [hy190]; exact H) | exact H
    have Ny190 := A_ hy190
    clear hy190
    replace H := Option.bind_eq_some_iff.mp H
    obtain ⟨⟨t195, t198, t199⟩, A140, H⟩ := H
    try dsimp only at H
    have A14 := A_ A140
    clear A140
    have H' := A_ H
    clear H
    go_wp2_with (first | ((with_reducible refine gate_dst (N := 27) rfl ?_); refine Kd.R_lit k98 _ 98 ?hg (N := 27) ?hd (xs := ([] : List (S98))) (inner := []) (ok := fun _ => True) (okp := fun _ => True) ?hr ?hp (fun _ hk => hk) trivial (Below.refl _ _) (Nat.le_refl _) (by simp) ?_; (case hd => rfl); (case hg => rfl); (case hr => first | (go_simp; done) | (go_simp; rfl)); (case hp => exact (Reps.none _ _)); intro v191 w15 ho16 hb hg_ hnew_; clear hg_ hnew_; (first | rw [← Ny190.out] at ho16 | (simp only [Int.reduceToNat] at ho16; rw [← Ny190.out] at ho16)); have _ := A_ (Kd.R_lower ho16 (below_size z6_12_)); have _ := A_ (blk_below (g := gb183) (o := .cells #[.slice A0_0 l0_0.length c0_0] 34 (0, 0)) z6_1_ hb); have _ := A_ (blk_below (g := gb184) (o := .cells #[.slice A1_0 l1_0.length c1_0] 34 (0, 0)) z6_2_ hb); have _ := A_ (blk_below (g := gb185) (o := .cells #[.slice none 0 0] 34 (0, 0)) z6_5_ hb); have _ := A_ (below_step z6_12_ hb); clear BK183 BK184 BK185 HB; rename_i HO192 BK183 BK184 BK185 HB; clear hb ho16; obtain ⟨Ao17, co17, eo17⟩ := Kd.R_slice HO192.out; subst eo17) | ((with_reducible refine gate_callee (f := 67) rfl ?_); refine goesL_ (some 29) rfl rfl Try.func67 (by kernel_rfl) rfl #[.pointer (some ⟨gb183, 0, none⟩), .pointer (some ⟨gb184, 0, none⟩), .slice Ao17 y190.length co17, .agg #[.int .i16 0, .int .i16 0]] rfl z6_24_ ?_; (with_reducible refine (spec_l06Join.calls kj2 _ ([(⟨l0_0⟩ : S34)]).length [(⟨l0_0⟩ : S34)] _ ([(⟨l1_0⟩ : S34)]).length [(⟨l1_0⟩ : S34)] (fun k_ => some k_ = (.slice Ao17 y190.length co17 : Value).ownBlock) (.slice Ao17 y190.length co17) y190 0 0 t195 t198 t199 w _ ?side1 ?side2 ?side3 ?side4 ?side5 ?side6 A14.out).mono ?_); (case side1 => repeat (first | (with_reducible first | exact HB.out | apply below_alloc | apply pw_below_drewN | apply below_drew1 | refine below_set ?_ GE183.out | refine below_set ?_ GE184.out | refine below_set ?_ GE185.out) | exact HB.out)); (case side2 => exact fun W_ hk_ => Kd.C_block k34 (g := gb183) (cs := #[.slice A0_0 l0_0.length c0_0]) (T := 34) (blk_kept z6_1_ hk_ (fun hs_ => (fun e_ => (Kd.R_ne HO192.out BK183.out (by decide)) e_) hs_)) (show Kd.K k34 _ (⟨l0_0⟩ : S34) [.slice A0_0 l0_0.length c0_0] from k34_mk _ _ (by exact HC0_0.out) ((Kd.C_kept_came k89_heap HR0_0.out z6_12_ (fun k_ hs_ => (fun e_ => Kd.R_base HO192.out k_ e_.symm) hs_)) W_ hk_)) (by decide)); (case side3 => exact Nat.le_refl _); (case side4 => exact fun W_ hk_ => Kd.C_block k34 (g := gb184) (cs := #[.slice A1_0 l1_0.length c1_0]) (T := 34) (blk_kept z6_2_ hk_ (fun hs_ => (fun e_ => (Kd.R_ne HO192.out BK184.out (by decide)) e_) hs_)) (show Kd.K k34 _ (⟨l1_0⟩ : S34) [.slice A1_0 l1_0.length c1_0] from k34_mk _ _ (by exact HC1_0.out) ((Kd.C_kept_came k89_heap HR1_0.out z6_12_ (fun k_ hs_ => (fun e_ => Kd.R_base HO192.out k_ e_.symm) hs_)) W_ hk_)) (by decide)); (case side5 => exact Nat.le_refl _); (case side6 => exact Kd.R_tight rfl HO192.out); rintro e w18 ⟨v196, rfl, ho0, hb, hkp⟩; refine ⟨_, rfl, ?_⟩; have _ := A_ (blk_kept z6_1_ hkp (fun hs_ => (fun e_ => (Kd.R_ne HO192.out BK183.out (by decide)) e_) hs_)); have _ := A_ (blk_kept z6_2_ hkp (fun hs_ => (fun e_ => (Kd.R_ne HO192.out BK184.out (by decide)) e_) hs_)); have _ := A_ (blk_kept z6_5_ hkp (fun hs_ => (fun e_ => (Kd.R_ne HO192.out BK185.out (by decide)) e_) hs_)); have _ := A_ (Kd.R_mono (ok' := fun k_ => True) ho0 (fun k_ hk_ => trivial)); have _ := A_ (hb); clear BK183 BK184 BK185 HB HO192; rename_i BK183 BK184 BK185 HO197 HB; (try clear hb); (try clear hkp); (try clear ho0)) | ((with_reducible refine gate_dst (N := 9) rfl ?_); refine box_event ?hg (N := 9) ?hd (cs := #[.slice none 0 0]) (t := 34) ?hr ?_; (case hd => rfl); (case hg => rfl); (case hr => first | (go_simp; done) | (go_simp; rfl)); intro gb200 hg w19 hbox hb; have _ := A_ (Kd.R_below (by (with_reducible repeat (first | apply Kd.R_alloc | apply Kd.R_drewN | apply Kd.R_drew)); exact HO197.out) hb); have _ := A_ (blk_below (g := gb183) (o := .cells #[.slice A0_0 l0_0.length c0_0] 34 (0, 0)) z6_1_ hb); have _ := A_ (blk_below (g := gb184) (o := .cells #[.slice A1_0 l1_0.length c1_0] 34 (0, 0)) z6_2_ hb); have _ := A_ (blk_below (g := gb185) (o := .cells #[.slice none 0 0] 34 (0, 0)) z6_5_ hb); have _ := A_ (below_step z6_12_ hb); have _ := A_ (hbox); have _ := A_ ((by rw [hg]; exact (below_size z6_12_) : w.heap.size ≤ gb200)); have _ := A_ ((by rw [hg]; exact (below_size z6_12_) : w.heap.size ≤ gb200)); have _ := A_ ((by rw [hg]; exact Nat.ne_of_lt (blk_lt (g := gb183) (o := .cells #[.slice A0_0 l0_0.length c0_0] 34 (0, 0)) z6_1_) : gb183 ≠ gb200)); have _ := A_ ((by rw [hg]; exact Nat.ne_of_gt (blk_lt (g := gb183) (o := .cells #[.slice A0_0 l0_0.length c0_0] 34 (0, 0)) z6_1_) : gb200 ≠ gb183)); have _ := A_ ((by rw [hg]; exact Nat.ne_of_lt (blk_lt (g := gb184) (o := .cells #[.slice A1_0 l1_0.length c1_0] 34 (0, 0)) z6_2_) : gb184 ≠ gb200)); have _ := A_ ((by rw [hg]; exact Nat.ne_of_gt (blk_lt (g := gb184) (o := .cells #[.slice A1_0 l1_0.length c1_0] 34 (0, 0)) z6_2_) : gb200 ≠ gb184)); have _ := A_ ((by rw [hg]; exact Nat.ne_of_lt (blk_lt (g := gb185) (o := .cells #[.slice none 0 0] 34 (0, 0)) z6_5_) : gb185 ≠ gb200)); have _ := A_ ((by rw [hg]; exact Nat.ne_of_gt (blk_lt (g := gb185) (o := .cells #[.slice none 0 0] 34 (0, 0)) z6_5_) : gb200 ≠ gb185)); clear HO197 BK183 BK184 BK185 HB; rename_i HO197 BK183 BK184 BK185 HB BK200 GW200 GE200 NB183_200 NB200_183 NB184_200 NB200_184 NB185_200 NB200_185; clear hb hbox hg; have hnb20 := NB200_183.out; have hnc20 := NB183_200.out; have hnb21 := NB200_184.out; have hnc21 := NB184_200.out; have hnb22 := NB200_185.out; have hnc22 := NB185_200.out; have hcz23_0 : w19.cell? ⟨gb200, 0, none⟩ = some (.slice none 0 0) := (blk_cell BK200.out 0).trans rfl; have hfz23_0 := blk_frozen BK200.out 0))
    go_loopg [6, 8, 10] kj2 (fun kq v6 v8 v10 w' => ∃ (x6_2 : List (S98)) (x8_2 : Int) (x10_2 : Int) (x201000_2 : List (S89)) (u201000 : Value), v8 = .int .i64 x8_2 ∧ v10 = .int .i64 x10_2 ∧ Aside0 (spec_ComposeTrees.l0 kq x6_2 x8_2 x10_2 l0_0 l1_0 x201000_2 = some (r1, r2)) ∧ Aside0 (kq ≤ kj2) ∧ Aside0 (Kd.R k98 98 w' w.heap.size (fun _ => True) v6 x6_2) ∧ Aside0 (Kd.R k89 89 w' w.heap.size (fun _ => True) u201000 x201000_2) ∧ Aside0 (w'.heap[gb183]? = some (.cells #[(.slice A0_0 l0_0.length c0_0)] 34 (0, 0))) ∧ Aside0 (w'.heap[gb184]? = some (.cells #[(.slice A1_0 l1_0.length c1_0)] 34 (0, 0))) ∧ Aside0 (w'.heap[gb185]? = some (.cells #[(.slice none 0 0)] 34 (0, 0))) ∧ Aside0 (w'.heap[gb200]? = some (.cells #[u201000] 34 (0, 0))) ∧ Aside0 (Below w.heap.size w w'))
    case atStart => exact ⟨(t195), (t199), (0), (([] : List (S89))), (.slice none 0 0), z6_22_, z6_22_, H', ⟨Nat.le_refl _⟩, ⟨(by (with_reducible repeat (first | apply Kd.R_alloc | apply Kd.R_drewN | apply Kd.R_drew)); exact Kd.R_mono (Kd.R_far (p := ⟨gb200, 0, none⟩) (Kd.R_types HO197.out BK200.out (by decide)) (fun _ hk => hk.2) (.slice none 0 0)) (fun _ hk => trivial))⟩, ⟨z6_42_⟩, ⟨z6_58_⟩, ⟨z6_57_⟩, ⟨z6_56_⟩, ⟨(by (with_reducible repeat (first | refine blk_drewN ?_ _ | refine blk_drew ?_ | refine blk_alloc ?_ _)); refine blk_put (cs := #[.slice none 0 0]) ?_ 0 _ rfl; (with_reducible repeat (first | refine blk_drewN ?_ _ | refine blk_drew ?_ | refine blk_alloc ?_ _)); exact BK200.out)⟩, ⟨z6_13_⟩⟩
    case round =>
     clear H'
     try clear c1
     try clear c2
     try clear p2
     try clear c6
     try clear c8
     try clear c10
     try clear c11
     try clear c12
     try clear c20
     try clear c21
     try clear c22
     try clear hcz13_0
     try clear hcz23_0
     try clear hfz13_0
     try clear hfz23_0
     try clear p2
     obtain ⟨x6_2, x8_2, x10_2, x201000_2, u201000, rfl, rfl, HA, HK2, HO_6, HO_201000, BK183, BK184, BK185, BK200, HB⟩ := hrel
     cases gk with
     | zero => exact absurd HA.out (by simp [spec_ComposeTrees.l0])
     | succ k2 =>
      have H := HA.out
      clear HA
      simp only [spec_ComposeTrees.l0] at H
      (repeat (first | rw [rd1_T89] at H))
      have HC24 := A_ H
      clear H
      go_upto_region 6 with (fail)
      go_cut [41] (fun v41 wc => ∃ (kq : Nat) (x41_23 : Bool), v41 = .bool x41_23 ∧ Aside0 (spec_ComposeTrees.j2 kq x6_2 x8_2 x10_2 x41_23 l0_0 l1_0 x201000_2 = some (r1, r2)) ∧ Aside0 (kq ≤ k2) ∧ Aside0 (Kd.R k98 98 wc w.heap.size (fun _ => True) u6 x6_2) ∧ Aside0 (Kd.R k89 89 wc w.heap.size (fun _ => True) u201000 x201000_2) ∧ Aside0 (wc.heap[gb183]? = some (.cells #[(.slice A0_0 l0_0.length c0_0)] 34 (0, 0))) ∧ Aside0 (wc.heap[gb184]? = some (.cells #[(.slice A1_0 l1_0.length c1_0)] 34 (0, 0))) ∧ Aside0 (wc.heap[gb185]? = some (.cells #[(.slice none 0 0)] 34 (0, 0))) ∧ Aside0 (wc.heap[gb200]? = some (.cells #[u201000] 34 (0, 0))) ∧ Aside0 (Below w.heap.size w wc))
      case first =>
       have H := HC24.out
       clear HC24
       by_cases c25 : x10_2 < (x6_2.length : Int)
       ·
        rw [if_pos c25] at H
        have c25b0 := decide_eq_true c25
        clear c25
        (first | rw [c25b0] | (simp only [i64_w, i32_w]; rw [c25b0]) | skip)
        have H' := A_ H
        clear H
        obtain ⟨Ao26, co26, eo26⟩ := Kd.R_slice HO_6.out
        subst eo26
        go_wp2
        go_meet
        case rel => exact ⟨_, ((x8_2 == 0)), z6_22_, H', ⟨(by have := HJ2.out; have := HK2.out; first | omega | exact Nat.le_refl _)⟩, ⟨z6_26_⟩, ⟨z6_21_⟩, ⟨z6_1_⟩, ⟨z6_2_⟩, ⟨z6_5_⟩, ⟨z6_11_⟩, ⟨z6_13_⟩⟩
       ·
        rw [if_neg c25] at H
        have c25b0 := decide_eq_false c25
        clear c25
        (first | rw [c25b0] | (simp only [i64_w, i32_w]; rw [c25b0]) | skip)
        have H' := A_ H
        clear H
        obtain ⟨Ao27, co27, eo27⟩ := Kd.R_slice HO_6.out
        subst eo27
        go_wp2
        go_meet
        case rel => exact ⟨_, (false), z6_22_, H', ⟨(by have := HJ2.out; have := HK2.out; first | omega | exact Nat.le_refl _)⟩, ⟨z6_26_⟩, ⟨z6_21_⟩, ⟨z6_1_⟩, ⟨z6_2_⟩, ⟨z6_5_⟩, ⟨z6_11_⟩, ⟨z6_13_⟩⟩
      case rest =>
       clear HC24
       try clear c1
       try clear c2
       try clear p2
       try clear c6
       try clear c8
       try clear c10
       try clear c11
       try clear c12
       try clear c20
       try clear c21
       try clear c22
       try clear c25
       try clear c25b0
       try clear hcz13_0
       try clear hcz23_0
       try clear hfz13_0
       try clear hfz23_0
       try clear p2
       obtain ⟨kq, x41_23, rfl, HA, HJ23, HO_6, HO_201000, BK183, BK184, BK185, BK200, HB⟩ := hcut
       cases kq with
       | zero => exact absurd HA.out (by simp [spec_ComposeTrees.j2])
       | succ kj23 =>
        have H := HA.out
        clear HA
        simp only [spec_ComposeTrees.j2] at H
        (repeat (first | rw [rd1_T89] at H))
        by_cases c28 : x41_23 = true
        ·
         subst c28
         have H1 := H; rw [if_pos rfl] at H1
         clear H
         have H := H1
         clear H1
         by_cases c29 : 0 ≤ x10_2
         ·
          rw [if_pos c29] at H
          have c29b0 := decide_eq_true c29
          clear c29
          by_cases c30 : x10_2 < (x6_2.length : Int)
          ·
           rw [if_pos c30] at H
           have c30b0 := decide_eq_true c30
           clear c30
           by_cases c31 : 0 ≤ ((rd_T98 x6_2 x10_2).f0)
           ·
            rw [if_pos c31] at H
            have c31b0 := decide_eq_true c31
            clear c31
            by_cases c32 : ((rd_T98 x6_2 x10_2).f0) < (l0_0.length : Int)
            ·
             rw [if_pos c32] at H
             have c32b0 := decide_eq_true c32
             clear c32
             by_cases c33 : 0 < ([rd_T89 l0_0 ((rd_T98 x6_2 x10_2).f0)].length : Int)
             ·
              rw [if_pos c33] at H
              have c33b0 := decide_eq_true c33
              have c33b1 : decide (0 < [rd_T89 l0_0 ((rd_T98 x6_2 x10_2).f0)].length) = true := decide_eq_true (by omega)
              clear c33
              have H' := A_ H
              clear H
              obtain ⟨Ao34, co34, eo34⟩ := Kd.R_slice HO_6.out
              subst eo34
              have p201 : 0 ≤ (x10_2 : Int) := of_decide_eq_true (by assumption)
              have q201 : x10_2 < (x6_2.length : Int) := of_decide_eq_true (by assumption)
              obtain ⟨ad201, e201, hx201_0, hx201_1⟩ := at_T98 (Kd.R_reads' HO_6.out).2.2 x10_2 p201 q201
              cases e201
              replace p201 := eq_true p201
              replace q201 := eq_true q201
              try go_wp2_with (first | ((with_reducible refine gate_dst (N := 11) rfl ?_); refine box_event ?hg (N := 11) ?hd (cs := #[.int .i16 0, .int .i16 0]) (t := 98) ?hr ?_; (case hd => rfl); (case hg => rfl); (case hr => first | (go_simp; done) | (go_simp; rfl)); intro gb202 hg w35 hbox hb; have _ := A_ (Kd.R_below (Kd.R_elderB z6_26_ gb202 (Nat.le_of_eq hg.symm)) hb); have _ := A_ (Kd.R_below z6_21_ hb); have _ := A_ (blk_below (g := gb183) (o := .cells #[.slice A0_0 l0_0.length c0_0] 34 (0, 0)) z6_1_ hb); have _ := A_ (blk_below (g := gb184) (o := .cells #[.slice A1_0 l1_0.length c1_0] 34 (0, 0)) z6_2_ hb); have _ := A_ (blk_below (g := gb185) (o := .cells #[.slice none 0 0] 34 (0, 0)) z6_5_ hb); have _ := A_ (blk_below (g := gb200) (o := .cells #[u201000] 34 (0, 0)) z6_11_ hb); have _ := A_ (below_step z6_13_ hb); have _ := A_ (hbox); have _ := A_ ((by rw [hg]; exact (below_size z6_13_) : w.heap.size ≤ gb202)); have _ := A_ ((by rw [hg]; exact (below_size z6_13_) : w.heap.size ≤ gb202)); have _ := A_ ((by rw [hg]; exact Nat.ne_of_lt (blk_lt (g := gb183) (o := .cells #[.slice A0_0 l0_0.length c0_0] 34 (0, 0)) z6_1_) : gb183 ≠ gb202)); have _ := A_ ((by rw [hg]; exact Nat.ne_of_gt (blk_lt (g := gb183) (o := .cells #[.slice A0_0 l0_0.length c0_0] 34 (0, 0)) z6_1_) : gb202 ≠ gb183)); have _ := A_ ((by rw [hg]; exact Nat.ne_of_lt (blk_lt (g := gb184) (o := .cells #[.slice A1_0 l1_0.length c1_0] 34 (0, 0)) z6_2_) : gb184 ≠ gb202)); have _ := A_ ((by rw [hg]; exact Nat.ne_of_gt (blk_lt (g := gb184) (o := .cells #[.slice A1_0 l1_0.length c1_0] 34 (0, 0)) z6_2_) : gb202 ≠ gb184)); have _ := A_ ((by rw [hg]; exact Nat.ne_of_lt (blk_lt (g := gb185) (o := .cells #[.slice none 0 0] 34 (0, 0)) z6_5_) : gb185 ≠ gb202)); have _ := A_ ((by rw [hg]; exact Nat.ne_of_gt (blk_lt (g := gb185) (o := .cells #[.slice none 0 0] 34 (0, 0)) z6_5_) : gb202 ≠ gb185)); have _ := A_ ((by rw [hg]; exact Nat.ne_of_lt (blk_lt (g := gb200) (o := .cells #[u201000] 34 (0, 0)) z6_11_) : gb200 ≠ gb202)); have _ := A_ ((by rw [hg]; exact Nat.ne_of_gt (blk_lt (g := gb200) (o := .cells #[u201000] 34 (0, 0)) z6_11_) : gb202 ≠ gb200)); clear HO_6 HO_201000 BK183 BK184 BK185 BK200 HB; rename_i HO_6 HO_201000 BK183 BK184 BK185 BK200 HB BK202 GW202 GE202 NB183_202 NB202_183 NB184_202 NB202_184 NB185_202 NB202_185 NB200_202 NB202_200; clear hb hbox hg; have hnb36 := NB202_183.out; have hnc36 := NB183_202.out; have hnb37 := NB202_184.out; have hnc37 := NB184_202.out; have hnb38 := NB202_185.out; have hnc38 := NB185_202.out; have hnb39 := NB202_200.out; have hnc39 := NB200_202.out; obtain ⟨hcz40_0, hcz40_1⟩ := bc2 BK202.out; obtain ⟨hfz40_0, hfz40_1⟩ := bf2 BK202.out; have hnb41 := NB183_184.out; have hnc41 := NB184_183.out; have hnb42 := NB183_185.out; have hnc42 := NB185_183.out; have hnb43 := NB183_200.out; have hnc43 := NB200_183.out; have hcz44_0 : w35.cell? ⟨gb183, 0, none⟩ = some (.slice A0_0 l0_0.length c0_0) := (blk_cell BK183.out 0).trans rfl; have hfz44_0 := blk_frozen BK183.out 0; have p203 : 0 ≤ (((rd_T98 x6_2 x10_2).f0) : Int) := of_decide_eq_true (by assumption); have q203 : ((rd_T98 x6_2 x10_2).f0) < (l0_0.length : Int) := of_decide_eq_true (by assumption); obtain ⟨ad203, e203, hx203_0, hx203_1, hx203_2, hx203_3, hx203_4⟩ := at_T89 HR0_0.out ((rd_T98 x6_2 x10_2).f0) p203 q203; cases e203; have hn203_0 : ad203.block ≠ gb202 := Nat.ne_of_lt (Nat.lt_of_lt_of_le (by have := World.block_lt_of_cell? _ _ hx203_0; first | rwa [add_block] at this | exact this) GW202.out); have hn203_1 : ad203.block ≠ gb202 := Nat.ne_of_lt (Nat.lt_of_lt_of_le (by have := World.block_lt_of_cell? _ _ hx203_0; first | rwa [add_block] at this | exact this) GW202.out); replace hx203_0 := cel HB.out hx203_0; replace hx203_1 := cel HB.out hx203_1; replace hx203_2 := cel HB.out hx203_2; replace hx203_3 := cel HB.out hx203_3; replace hx203_4 := cel HB.out hx203_4; replace hx203_0 := (cell_far (p := ⟨gb202, 0, none⟩) z6_41_ (.int .i16 ((rd_T98 x6_2 x10_2).f0))).trans hx203_0; replace hx203_1 := (cell_far (p := ⟨gb202, 0, none⟩) z6_41_ (.int .i16 ((rd_T98 x6_2 x10_2).f0))).trans hx203_1; replace hx203_2 := (cell_far (p := ⟨gb202, 0, none⟩) z6_41_ (.int .i16 ((rd_T98 x6_2 x10_2).f0))).trans hx203_2; replace hx203_3 := (cell_far (p := ⟨gb202, 0, none⟩) z6_41_ (.int .i16 ((rd_T98 x6_2 x10_2).f0))).trans hx203_3; replace hx203_4 := (cell_far (p := ⟨gb202, 0, none⟩) z6_41_ (.int .i16 ((rd_T98 x6_2 x10_2).f0))).trans hx203_4; replace hx203_0 := (cell_far (p := ⟨gb202, 1, none⟩) z6_40_ (.int .i16 ((rd_T98 x6_2 x10_2).f1))).trans hx203_0; replace hx203_1 := (cell_far (p := ⟨gb202, 1, none⟩) z6_40_ (.int .i16 ((rd_T98 x6_2 x10_2).f1))).trans hx203_1; replace hx203_2 := (cell_far (p := ⟨gb202, 1, none⟩) z6_40_ (.int .i16 ((rd_T98 x6_2 x10_2).f1))).trans hx203_2; replace hx203_3 := (cell_far (p := ⟨gb202, 1, none⟩) z6_40_ (.int .i16 ((rd_T98 x6_2 x10_2).f1))).trans hx203_3; replace hx203_4 := (cell_far (p := ⟨gb202, 1, none⟩) z6_40_ (.int .i16 ((rd_T98 x6_2 x10_2).f1))).trans hx203_4; clear hn203_0; clear hn203_1; replace p203 := eq_true p203; replace q203 := eq_true q203; have HR204 := A_ (show Kd.C k89 w (some (Addr.add ad203 (((rd_T98 x6_2 x10_2).f0).toNat * 5))) [rd_T89 l0_0 ((rd_T98 x6_2 x10_2).f0)].length [rd_T89 l0_0 ((rd_T98 x6_2 x10_2).f0)] from Kd.C_el k89 z89 HR0_0.out (((rd_T98 x6_2 x10_2).f0) : Int) (of_eq_true p203) (of_eq_true q203))))
              have n0_ : Aside0 (Kd.R k98 98 ((w35.setCell ⟨gb202, 0, none⟩ (.int .i16 ((rd_T98 x6_2 x10_2).f0))).setCell ⟨gb202, 1, none⟩ (.int .i16 ((rd_T98 x6_2 x10_2).f1))) w.heap.size (fun k_ => k_ ≠ gb202) (.slice (some ad201) x6_2.length co34) x6_2) := ⟨(by (with_reducible repeat (first | apply Kd.R_alloc | apply Kd.R_drewN | apply Kd.R_drew)); exact Kd.R_mono (Kd.R_far (p := ⟨gb202, 1, none⟩) (Kd.R_far (p := ⟨gb202, 0, none⟩) (Kd.R_mono HO_6.out (fun k_ hk => (⟨hk, hk.2⟩ : _ ∧ k_ ≠ gb202))) (fun _ hk => hk.2) (.int .i16 ((rd_T98 x6_2 x10_2).f0))) (fun _ hk => hk.2) (.int .i16 ((rd_T98 x6_2 x10_2).f1))) (fun _ hk => hk.1.2))⟩
              have n1_ : Aside0 (Kd.R k89 89 ((w35.setCell ⟨gb202, 0, none⟩ (.int .i16 ((rd_T98 x6_2 x10_2).f0))).setCell ⟨gb202, 1, none⟩ (.int .i16 ((rd_T98 x6_2 x10_2).f1))) w.heap.size (fun _ => True) u201000 x201000_2) := ⟨(by (with_reducible repeat (first | apply Kd.R_alloc | apply Kd.R_drewN | apply Kd.R_drew)); exact Kd.R_mono (Kd.R_far (p := ⟨gb202, 1, none⟩) (Kd.R_far (p := ⟨gb202, 0, none⟩) (Kd.R_types HO_201000.out BK202.out (by decide)) (fun _ hk => hk.2) (.int .i16 ((rd_T98 x6_2 x10_2).f0))) (fun _ hk => hk.2) (.int .i16 ((rd_T98 x6_2 x10_2).f1))) (fun _ hk => trivial))⟩
              have n2_ : Aside0 (((w35.setCell ⟨gb202, 0, none⟩ (.int .i16 ((rd_T98 x6_2 x10_2).f0))).setCell ⟨gb202, 1, none⟩ (.int .i16 ((rd_T98 x6_2 x10_2).f1))).heap[gb183]? = some (.cells #[.slice (some ad203) l0_0.length c0_0] 34 (0, 0))) := ⟨(by (with_reducible repeat (first | refine blk_drewN ?_ _ | refine blk_drew ?_ | refine blk_alloc ?_ _)); refine blk_far ?_ NB183_202.out _; (with_reducible repeat (first | refine blk_drewN ?_ _ | refine blk_drew ?_ | refine blk_alloc ?_ _)); refine blk_far ?_ NB183_202.out _; (with_reducible repeat (first | refine blk_drewN ?_ _ | refine blk_drew ?_ | refine blk_alloc ?_ _)); exact BK183.out)⟩
              have n3_ : Aside0 (((w35.setCell ⟨gb202, 0, none⟩ (.int .i16 ((rd_T98 x6_2 x10_2).f0))).setCell ⟨gb202, 1, none⟩ (.int .i16 ((rd_T98 x6_2 x10_2).f1))).heap[gb184]? = some (.cells #[.slice A1_0 l1_0.length c1_0] 34 (0, 0))) := ⟨(by (with_reducible repeat (first | refine blk_drewN ?_ _ | refine blk_drew ?_ | refine blk_alloc ?_ _)); refine blk_far ?_ NB184_202.out _; (with_reducible repeat (first | refine blk_drewN ?_ _ | refine blk_drew ?_ | refine blk_alloc ?_ _)); refine blk_far ?_ NB184_202.out _; (with_reducible repeat (first | refine blk_drewN ?_ _ | refine blk_drew ?_ | refine blk_alloc ?_ _)); exact BK184.out)⟩
              have n4_ : Aside0 (((w35.setCell ⟨gb202, 0, none⟩ (.int .i16 ((rd_T98 x6_2 x10_2).f0))).setCell ⟨gb202, 1, none⟩ (.int .i16 ((rd_T98 x6_2 x10_2).f1))).heap[gb185]? = some (.cells #[.slice none 0 0] 34 (0, 0))) := ⟨(by (with_reducible repeat (first | refine blk_drewN ?_ _ | refine blk_drew ?_ | refine blk_alloc ?_ _)); refine blk_far ?_ NB185_202.out _; (with_reducible repeat (first | refine blk_drewN ?_ _ | refine blk_drew ?_ | refine blk_alloc ?_ _)); refine blk_far ?_ NB185_202.out _; (with_reducible repeat (first | refine blk_drewN ?_ _ | refine blk_drew ?_ | refine blk_alloc ?_ _)); exact BK185.out)⟩
              have n5_ : Aside0 (((w35.setCell ⟨gb202, 0, none⟩ (.int .i16 ((rd_T98 x6_2 x10_2).f0))).setCell ⟨gb202, 1, none⟩ (.int .i16 ((rd_T98 x6_2 x10_2).f1))).heap[gb200]? = some (.cells #[u201000] 34 (0, 0))) := ⟨(by (with_reducible repeat (first | refine blk_drewN ?_ _ | refine blk_drew ?_ | refine blk_alloc ?_ _)); refine blk_far ?_ NB200_202.out _; (with_reducible repeat (first | refine blk_drewN ?_ _ | refine blk_drew ?_ | refine blk_alloc ?_ _)); refine blk_far ?_ NB200_202.out _; (with_reducible repeat (first | refine blk_drewN ?_ _ | refine blk_drew ?_ | refine blk_alloc ?_ _)); exact BK200.out)⟩
              have n6_ : Aside0 (((w35.setCell ⟨gb202, 0, none⟩ (.int .i16 ((rd_T98 x6_2 x10_2).f0))).setCell ⟨gb202, 1, none⟩ (.int .i16 ((rd_T98 x6_2 x10_2).f1))).heap[gb202]? = some (.cells #[.int .i16 ((rd_T98 x6_2 x10_2).f0), .int .i16 ((rd_T98 x6_2 x10_2).f1)] 98 (0, 0))) := ⟨(by (with_reducible repeat (first | refine blk_drewN ?_ _ | refine blk_drew ?_ | refine blk_alloc ?_ _)); refine blk_put (cs := #[.int .i16 ((rd_T98 x6_2 x10_2).f0), .int .i16 0]) ?_ 1 _ rfl; (with_reducible repeat (first | refine blk_drewN ?_ _ | refine blk_drew ?_ | refine blk_alloc ?_ _)); refine blk_put (cs := #[.int .i16 0, .int .i16 0]) ?_ 0 _ rfl; (with_reducible repeat (first | refine blk_drewN ?_ _ | refine blk_drew ?_ | refine blk_alloc ?_ _)); exact BK202.out)⟩
              have n7_ : Aside0 (Below w.heap.size w ((w35.setCell ⟨gb202, 0, none⟩ (.int .i16 ((rd_T98 x6_2 x10_2).f0))).setCell ⟨gb202, 1, none⟩ (.int .i16 ((rd_T98 x6_2 x10_2).f1)))) := ⟨z6_23_⟩
              (try clear HO_6)
              (try clear HO_201000)
              (try clear BK183)
              (try clear BK184)
              (try clear BK185)
              (try clear BK200)
              (try clear BK202)
              (try clear HB)
              generalize ((w35.setCell ⟨gb202, 0, none⟩ (.int .i16 ((rd_T98 x6_2 x10_2).f0))).setCell ⟨gb202, 1, none⟩ (.int .i16 ((rd_T98 x6_2 x10_2).f1))) = w45 at n0_ n1_ n2_ n3_ n4_ n5_ n6_ n7_ ⊢
              have HO_6 := n0_
              have HO_201000 := n1_
              have BK183 := n2_
              have BK184 := n3_
              have BK185 := n4_
              have BK200 := n5_
              have BK202 := n6_
              have HB := n7_
              clear n0_ n1_ n2_ n3_ n4_ n5_ n6_ n7_
              have _ := A_ (Kd.R_drew HO_6.out)
              have _ := A_ (Kd.R_drew HO_201000.out)
              have _ := A_ (blk_drew BK183.out)
              have _ := A_ (blk_drew BK184.out)
              have _ := A_ (blk_drew BK185.out)
              have _ := A_ (blk_drew BK200.out)
              have _ := A_ (blk_drew BK202.out)
              have _ := A_ (below_drew1 HB.out)
              clear HO_6 HO_201000 BK183 BK184 BK185 BK200 BK202 HB
              rename_i HO_6 HO_201000 BK183 BK184 BK185 BK200 BK202 HB
              have q205 : 0 < ([rd_T89 l0_0 ((rd_T98 x6_2 x10_2).f0)].length : Int) := of_decide_eq_true (by assumption)
              obtain ⟨ad205, e205, hx205_0, hx205_1, hx205_2, hx205_3, hx205_4⟩ := rp_T89 HR204.out q205
              have hw205_4 := hx205_4
              have hw205_3 := hx205_3
              have hw205_2 := hx205_2
              have hw205_1 := hx205_1
              have hw205_0 := hx205_0
              (try simp only [rd1_T89] at hx205_0 hx205_1 hx205_2 hx205_3 hx205_4)
              obtain rfl : (Addr.add ad203 (((rd_T98 x6_2 x10_2).f0).toNat * 5)) = ad205 := (by injection e205)
              replace hx205_0 := cel HB.out hx205_0
              replace hx205_1 := cel HB.out hx205_1
              replace hx205_2 := cel HB.out hx205_2
              replace hx205_3 := cel HB.out hx205_3
              replace hx205_4 := cel HB.out hx205_4
              refine start_ (n := 11) (S := fun w' => w'.cell? (Addr.add ad203 (((rd_T98 x6_2 x10_2).f0).toNat * 5)) = some (.int .i8 ((rd_T89 l0_0 ((rd_T98 x6_2 x10_2).f0)).f0)) ∧ w'.cell? ⟨(Addr.add ad203 (((rd_T98 x6_2 x10_2).f0).toNat * 5)).block, (Addr.add ad203 (((rd_T98 x6_2 x10_2).f0).toNat * 5)).off + 1, none⟩ = some (.int .i8 ((rd_T89 l0_0 ((rd_T98 x6_2 x10_2).f0)).f1)) ∧ w'.cell? ⟨(Addr.add ad203 (((rd_T98 x6_2 x10_2).f0).toNat * 5)).block, (Addr.add ad203 (((rd_T98 x6_2 x10_2).f0).toNat * 5)).off + 2, none⟩ = some (.int .i16 ((rd_T89 l0_0 ((rd_T98 x6_2 x10_2).f0)).f2.f0)) ∧ w'.cell? ⟨(Addr.add ad203 (((rd_T98 x6_2 x10_2).f0).toNat * 5)).block, (Addr.add ad203 (((rd_T98 x6_2 x10_2).f0).toNat * 5)).off + 3, none⟩ = some (.int .i16 ((rd_T89 l0_0 ((rd_T98 x6_2 x10_2).f0)).f2.f1)) ∧ w'.cell? ⟨(Addr.add ad203 (((rd_T98 x6_2 x10_2).f0).toNat * 5)).block, (Addr.add ad203 (((rd_T98 x6_2 x10_2).f0).toNat * 5)).off + 4, none⟩ = some (.int .i16 ((rd_T89 l0_0 ((rd_T98 x6_2 x10_2).f0)).f2.f2))) (ds := []) #[false, false, false, false, false, false, false, false, false, false, false] (by kernel_rfl) rfl rfl ⟨(cel HB.out hw205_0), (cel HB.out hw205_1), (cel HB.out hw205_2), (cel HB.out hw205_3), (cel HB.out hw205_4)⟩ (fun hHeld => ?_); refine with_tabW spec_ComposeTrees.tab10 spec_ComposeTrees.bits10 (fun HT_ HW_ => ?_)
              generalize w45.drew = w46 at HO_6 HO_201000 BK183 BK184 BK185 BK200 BK202 HB hx205_0 hx205_1 hx205_2 hx205_3 hx205_4 hHeld ⊢
              refine pure_ (i := 0) (N := some 53) (v := ?_) (a' := ?_) #[true, false, false, false, false, false, false, false, false, false, false] rfl rfl (any_of HT_.out (by kernel_rfl)) (fun _ _ _ h => h) (Or.inl ⟨by rfl, ?_⟩) ?_ ?_
              rotate_left
              ·
               intro w'
               go_simp
               with_reducible rfl
              rotate_left
              ·
               simp only [Act.put, sA_, sB_, sC_, i64_w, i32_w]
               rfl
              refine pure_ (i := 1) (N := some 54) (v := ?_) (a' := ?_) #[true, true, false, false, false, false, false, false, false, false, false] rfl rfl (any_of HT_.out (by kernel_rfl)) (fun _ _ _ h => h) (Or.inl ⟨by rfl, ?_⟩) ?_ ?_
              rotate_left
              ·
               intro w'
               go_simp
               with_reducible rfl
              rotate_left
              ·
               simp only [Act.put, sA_, sB_, sC_, i64_w, i32_w]
               rfl
              refine pure_ (i := 2) (N := some 55) (v := ?_) (a' := ?_) #[true, true, true, false, false, false, false, false, false, false, false] rfl rfl (any_of HT_.out (by kernel_rfl)) (fun _ _ _ h => h) (Or.inl ⟨by rfl, ?_⟩) ?_ ?_
              rotate_left
              ·
               intro w'
               go_simp
               with_reducible rfl
              rotate_left
              ·
               simp only [Act.put, sA_, sB_, sC_, i64_w, i32_w]
               rfl
              refine pure_ (i := 4) (N := some 57) (v := ?_) (a' := ?_) #[true, true, true, false, true, false, false, false, false, false, false] rfl rfl (any_of HT_.out (by kernel_rfl)) (fun _ _ _ h => h) (Or.inl ⟨by rfl, ?_⟩) ?_ ?_
              rotate_left
              ·
               intro w'
               go_simp
               with_reducible rfl
              rotate_left
              ·
               simp only [Act.put, sA_, sB_, sC_, i64_w, i32_w]
               rfl
              refine pure_ (i := 5) (N := some 58) (v := ?_) (a' := ?_) #[true, true, true, false, true, true, false, false, false, false, false] rfl rfl (any_of HT_.out (by kernel_rfl)) (fun _ _ _ h => h) (Or.inl ⟨by rfl, ?_⟩) ?_ ?_
              rotate_left
              ·
               intro w'
               go_simp
               with_reducible rfl
              rotate_left
              ·
               simp only [Act.put, sA_, sB_, sC_, i64_w, i32_w]
               rfl
              refine pure_ (i := 6) (N := some 59) (v := ?_) (a' := ?_) #[true, true, true, false, true, true, true, false, false, false, false] rfl rfl (any_of HT_.out (by kernel_rfl)) (fun _ _ _ h => h) (Or.inl ⟨by rfl, ?_⟩) ?_ ?_
              rotate_left
              ·
               intro w'
               go_simp
               with_reducible rfl
              rotate_left
              ·
               simp only [Act.put, sA_, sB_, sC_, i64_w, i32_w]
               rfl
              refine take_ (i := 3) (N := some 56) (v := ?_) (a' := ?_) #[true, true, true, true, true, true, true, false, false, false, false] rfl rfl (take_ofW HT_.out HW_.out (by kernel_rfl)) (fun _ _ _ h => h) (Or.inl ⟨by rfl, ?_⟩) hHeld ?_ ?_
              rotate_left
              ·
               rintro w' ⟨s0, s1, s2, s3, s4⟩
               go_simp
               with_reducible rfl
              rotate_left
              ·
               simp only [Act.put, sA_, sB_, sC_, i64_w, i32_w]
               rfl
              refine take_ (i := 7) (N := some 60) (v := ?_) (a' := ?_) #[true, true, true, true, true, true, true, true, false, false, false] rfl rfl (take_ofW HT_.out HW_.out (by kernel_rfl)) (fun _ _ _ h => h) (Or.inl ⟨by rfl, ?_⟩) hHeld ?_ ?_
              rotate_left
              ·
               rintro w' ⟨s0, s1, s2, s3, s4⟩
               go_simp
               with_reducible rfl
              rotate_left
              ·
               simp only [Act.put, sA_, sB_, sC_, i64_w, i32_w]
               rfl
              refine pure_ (i := 8) (N := some 61) (v := ?_) (a' := ?_) #[true, true, true, true, true, true, true, true, true, false, false] rfl rfl (any_of HT_.out (by kernel_rfl)) (fun _ _ _ h => h) (Or.inl ⟨by rfl, ?_⟩) ?_ ?_
              rotate_left
              ·
               intro w'
               go_simp
               with_reducible rfl
              rotate_left
              ·
               simp only [Act.put, sA_, sB_, sC_, i64_w, i32_w]
               rfl
              refine one_ (i := 9) (N := some 13) #[true, true, true, true, true, true, true, true, true, true, false] rfl rfl (one_of HT_.out (by kernel_rfl)) (by decide) (fun K hK => ?_)
              refine box_step ?hg (N := 13) ?hd (cs := #[.int .i8 0, .int .i8 0, .int .i16 0, .int .i16 0, .int .i16 0]) (t := 89) ?hr ?_; (case hd => rfl); (case hg => rfl); (case hr => first | (go_simp; done) | (go_simp; rfl))
              intro gb206 hg w47 hbox hb
              have _ := A_ (Kd.R_below z6_26_ hb)
              have _ := A_ (Kd.R_below (Kd.R_elderB z6_21_ gb206 (Nat.le_of_eq hg.symm)) hb)
              have _ := A_ (blk_below (g := gb183) (o := .cells #[.slice (some ad203) l0_0.length c0_0] 34 (0, 0)) z6_1_ hb)
              have _ := A_ (blk_below (g := gb184) (o := .cells #[.slice A1_0 l1_0.length c1_0] 34 (0, 0)) z6_2_ hb)
              have _ := A_ (blk_below (g := gb185) (o := .cells #[.slice none 0 0] 34 (0, 0)) z6_5_ hb)
              have _ := A_ (blk_below (g := gb200) (o := .cells #[u201000] 34 (0, 0)) z6_11_ hb)
              have _ := A_ (blk_below (g := gb202) (o := .cells #[.int .i16 ((rd_T98 x6_2 x10_2).f0), .int .i16 ((rd_T98 x6_2 x10_2).f1)] 98 (0, 0)) z6_19_ hb)
              have _ := A_ (below_step z6_23_ hb)
              have _ := A_ (hbox)
              have _ := A_ ((by rw [hg]; exact (below_size z6_23_) : w.heap.size ≤ gb206))
              have _ := A_ ((by rw [hg]; exact (below_size z6_23_) : w.heap.size ≤ gb206))
              have _ := A_ ((by rw [hg]; exact Nat.ne_of_lt (blk_lt (g := gb183) (o := .cells #[.slice (some ad203) l0_0.length c0_0] 34 (0, 0)) z6_1_) : gb183 ≠ gb206))
              have _ := A_ ((by rw [hg]; exact Nat.ne_of_gt (blk_lt (g := gb183) (o := .cells #[.slice (some ad203) l0_0.length c0_0] 34 (0, 0)) z6_1_) : gb206 ≠ gb183))
              have _ := A_ ((by rw [hg]; exact Nat.ne_of_lt (blk_lt (g := gb184) (o := .cells #[.slice A1_0 l1_0.length c1_0] 34 (0, 0)) z6_2_) : gb184 ≠ gb206))
              have _ := A_ ((by rw [hg]; exact Nat.ne_of_gt (blk_lt (g := gb184) (o := .cells #[.slice A1_0 l1_0.length c1_0] 34 (0, 0)) z6_2_) : gb206 ≠ gb184))
              have _ := A_ ((by rw [hg]; exact Nat.ne_of_lt (blk_lt (g := gb185) (o := .cells #[.slice none 0 0] 34 (0, 0)) z6_5_) : gb185 ≠ gb206))
              have _ := A_ ((by rw [hg]; exact Nat.ne_of_gt (blk_lt (g := gb185) (o := .cells #[.slice none 0 0] 34 (0, 0)) z6_5_) : gb206 ≠ gb185))
              have _ := A_ ((by rw [hg]; exact Nat.ne_of_lt (blk_lt (g := gb200) (o := .cells #[u201000] 34 (0, 0)) z6_11_) : gb200 ≠ gb206))
              have _ := A_ ((by rw [hg]; exact Nat.ne_of_gt (blk_lt (g := gb200) (o := .cells #[u201000] 34 (0, 0)) z6_11_) : gb206 ≠ gb200))
              have _ := A_ ((by rw [hg]; exact Nat.ne_of_lt (blk_lt (g := gb202) (o := .cells #[.int .i16 ((rd_T98 x6_2 x10_2).f0), .int .i16 ((rd_T98 x6_2 x10_2).f1)] 98 (0, 0)) z6_19_) : gb202 ≠ gb206))
              have _ := A_ ((by rw [hg]; exact Nat.ne_of_gt (blk_lt (g := gb202) (o := .cells #[.int .i16 ((rd_T98 x6_2 x10_2).f0), .int .i16 ((rd_T98 x6_2 x10_2).f1)] 98 (0, 0)) z6_19_) : gb206 ≠ gb202))
              clear HO_6 HO_201000 BK183 BK184 BK185 BK200 BK202 HB
              rename_i HO_6 HO_201000 BK183 BK184 BK185 BK200 BK202 HB BK206 GW206 GE206 NB183_206 NB206_183 NB184_206 NB206_184 NB185_206 NB206_185 NB200_206 NB206_200 NB202_206 NB206_202
              clear hb hbox hg
              refine hK.out _ _ ⟨(cel HB.out hw205_0), (cel HB.out hw205_1), (cel HB.out hw205_2), (cel HB.out hw205_3), (cel HB.out hw205_4)⟩ (fun hHeld => ?_)
              clear hK K
              refine norm_ (a' := ?_) ?_ ?_
              rotate_left
              ·
               show Act.put _ (some 13) _ = _
               simp only [Act.put, sA_, sB_, sC_, i64_w, i32_w]
               rfl
              refine one_ (i := 10) (N := none) #[true, true, true, true, true, true, true, true, true, true, true] rfl rfl (one_of HT_.out (by kernel_rfl)) (by decide) (fun K hK => ?_)
              have hs48 : w47.cell? ⟨gb206, 0, none⟩ = some (.int .i8 0) := (blk_cell BK206.out 0).trans rfl
              have hfs48 := blk_frozen BK206.out 0
              have hns48_0 := NB183_206.out
              have hns48_1 := NB184_206.out
              have hns48_2 := NB185_206.out
              have hns48_3 := NB200_206.out
              have hns48_4 := NB202_206.out
              have hms48_0 := NB206_183.out
              have hms48_1 := NB206_184.out
              have hms48_2 := NB206_185.out
              have hms48_3 := NB206_200.out
              have hms48_4 := NB206_202.out
              have hs49 : w47.cell? ⟨gb206, 1, none⟩ = some (.int .i8 0) := (blk_cell BK206.out 1).trans rfl
              have hfs49 := blk_frozen BK206.out 1
              have hns49_0 := NB183_206.out
              have hns49_1 := NB184_206.out
              have hns49_2 := NB185_206.out
              have hns49_3 := NB200_206.out
              have hns49_4 := NB202_206.out
              have hms49_0 := NB206_183.out
              have hms49_1 := NB206_184.out
              have hms49_2 := NB206_185.out
              have hms49_3 := NB206_200.out
              have hms49_4 := NB206_202.out
              have hs50 : w47.cell? ⟨gb206, 2, none⟩ = some (.int .i16 0) := (blk_cell BK206.out 2).trans rfl
              have hfs50 := blk_frozen BK206.out 2
              have hns50_0 := NB183_206.out
              have hns50_1 := NB184_206.out
              have hns50_2 := NB185_206.out
              have hns50_3 := NB200_206.out
              have hns50_4 := NB202_206.out
              have hms50_0 := NB206_183.out
              have hms50_1 := NB206_184.out
              have hms50_2 := NB206_185.out
              have hms50_3 := NB206_200.out
              have hms50_4 := NB206_202.out
              have hs51 : w47.cell? ⟨gb206, 3, none⟩ = some (.int .i16 0) := (blk_cell BK206.out 3).trans rfl
              have hfs51 := blk_frozen BK206.out 3
              have hns51_0 := NB183_206.out
              have hns51_1 := NB184_206.out
              have hns51_2 := NB185_206.out
              have hns51_3 := NB200_206.out
              have hns51_4 := NB202_206.out
              have hms51_0 := NB206_183.out
              have hms51_1 := NB206_184.out
              have hms51_2 := NB206_185.out
              have hms51_3 := NB206_200.out
              have hms51_4 := NB206_202.out
              have hs52 : w47.cell? ⟨gb206, 4, none⟩ = some (.int .i16 0) := (blk_cell BK206.out 4).trans rfl
              have hfs52 := blk_frozen BK206.out 4
              have hns52_0 := NB183_206.out
              have hns52_1 := NB184_206.out
              have hns52_2 := NB185_206.out
              have hns52_3 := NB200_206.out
              have hns52_4 := NB202_206.out
              have hms52_0 := NB206_183.out
              have hms52_1 := NB206_184.out
              have hms52_2 := NB206_185.out
              have hms52_3 := NB206_200.out
              have hms52_4 := NB206_202.out
              refine skip_ (w1 := ?_) (by rfl) rfl ?_ ?_
              rotate_left
              ·
               go_simp
               rfl
              refine hK.out _ _ ⟨((cell_far (p := ⟨gb206, _, none⟩) z6_10_ _).trans (((cell_far (p := ⟨gb206, _, none⟩) z6_10_ _).trans (((cell_far (p := ⟨gb206, _, none⟩) z6_10_ _).trans (((cell_far (p := ⟨gb206, _, none⟩) z6_10_ _).trans (((cell_far (p := ⟨gb206, _, none⟩) z6_10_ _).trans (hHeld.1)))))))))), ((cell_far (p := ⟨gb206, _, none⟩) z6_9_ _).trans (((cell_far (p := ⟨gb206, _, none⟩) z6_9_ _).trans (((cell_far (p := ⟨gb206, _, none⟩) z6_9_ _).trans (((cell_far (p := ⟨gb206, _, none⟩) z6_9_ _).trans (((cell_far (p := ⟨gb206, _, none⟩) z6_9_ _).trans (hHeld.2.1)))))))))), ((cell_far (p := ⟨gb206, _, none⟩) z6_8_ _).trans (((cell_far (p := ⟨gb206, _, none⟩) z6_8_ _).trans (((cell_far (p := ⟨gb206, _, none⟩) z6_8_ _).trans (((cell_far (p := ⟨gb206, _, none⟩) z6_8_ _).trans (((cell_far (p := ⟨gb206, _, none⟩) z6_8_ _).trans (hHeld.2.2.1)))))))))), ((cell_far (p := ⟨gb206, _, none⟩) z6_7_ _).trans (((cell_far (p := ⟨gb206, _, none⟩) z6_7_ _).trans (((cell_far (p := ⟨gb206, _, none⟩) z6_7_ _).trans (((cell_far (p := ⟨gb206, _, none⟩) z6_7_ _).trans (((cell_far (p := ⟨gb206, _, none⟩) z6_7_ _).trans (hHeld.2.2.2.1)))))))))), ((cell_far (p := ⟨gb206, _, none⟩) z6_6_ _).trans (((cell_far (p := ⟨gb206, _, none⟩) z6_6_ _).trans (((cell_far (p := ⟨gb206, _, none⟩) z6_6_ _).trans (((cell_far (p := ⟨gb206, _, none⟩) z6_6_ _).trans (((cell_far (p := ⟨gb206, _, none⟩) z6_6_ _).trans (hHeld.2.2.2.2))))))))))⟩ (fun hHeld => ?_)
              clear hK K
              refine done_ (done_of HT_.out (by kernel_rfl)) ?_
              try go_wp2
              go_loopg [6, 8, 14] kj23 (fun kq v6 v8 v14 w' => ∃ (x6_4 : List (S98)) (x8_4 : Int) (x14_4 : Int) (x207002_4 : Int) (x207003_4 : Int) (x207004_4 : Int), v8 = .int .i64 x8_4 ∧ v14 = .int .i64 x14_4 ∧ Aside0 (spec_ComposeTrees.l1 kq x6_4 x8_4 x10_2 [rd_T89 l0_0 ((rd_T98 x6_2 x10_2).f0)] x14_4 l0_0 l1_0 x201000_2 ((rd_T98 x6_2 x10_2).f0) ((rd_T98 x6_2 x10_2).f1) ((rd_T89 l0_0 ((rd_T98 x6_2 x10_2).f0)).f0) ((rd_T89 l0_0 ((rd_T98 x6_2 x10_2).f0)).f1) x207002_4 x207003_4 x207004_4 = some (r1, r2)) ∧ Aside0 (kq ≤ kj23) ∧ Aside0 (Kd.R k98 98 w' w.heap.size (fun k_ => k_ ≠ gb202) v6 x6_4) ∧ Aside0 (Kd.R k89 89 w' w.heap.size (fun k_ => k_ ≠ gb206) u201000 x201000_2) ∧ Aside0 (w'.heap[gb183]? = some (.cells #[(.slice (some ad203) l0_0.length c0_0)] 34 (0, 0))) ∧ Aside0 (w'.heap[gb184]? = some (.cells #[(.slice A1_0 l1_0.length c1_0)] 34 (0, 0))) ∧ Aside0 (w'.heap[gb185]? = some (.cells #[(.slice none 0 0)] 34 (0, 0))) ∧ Aside0 (w'.heap[gb200]? = some (.cells #[u201000] 34 (0, 0))) ∧ Aside0 (w'.heap[gb202]? = some (.cells #[.int .i16 ((rd_T98 x6_2 x10_2).f0), .int .i16 ((rd_T98 x6_2 x10_2).f1)] 98 (0, 0))) ∧ Aside0 (w'.heap[gb206]? = some (.cells #[.int .i8 ((rd_T89 l0_0 ((rd_T98 x6_2 x10_2).f0)).f0), .int .i8 ((rd_T89 l0_0 ((rd_T98 x6_2 x10_2).f0)).f1), .int .i16 x207002_4, .int .i16 x207003_4, .int .i16 x207004_4] 89 (0, 0))) ∧ Aside0 (Below w.heap.size w w'))
              case atStart => exact ⟨(x6_2), (x8_2), (0), (0), (0), (0), z6_22_, z6_22_, H', ⟨Nat.le_refl _⟩, ⟨(by (with_reducible repeat (first | apply Kd.R_alloc | apply Kd.R_drewN | apply Kd.R_drew)); exact Kd.R_mono (Kd.R_far (p := ⟨gb206, 4, none⟩) (Kd.R_far (p := ⟨gb206, 3, none⟩) (Kd.R_far (p := ⟨gb206, 2, none⟩) (Kd.R_far (p := ⟨gb206, 1, none⟩) (Kd.R_far (p := ⟨gb206, 0, none⟩) (Kd.R_types HO_6.out BK206.out (by decide)) (fun _ hk => hk.2) (.int .i8 ((rd_T89 l0_0 ((rd_T98 x6_2 x10_2).f0)).f0))) (fun _ hk => hk.2) (.int .i8 ((rd_T89 l0_0 ((rd_T98 x6_2 x10_2).f0)).f1))) (fun _ hk => hk.2) (.int .i16 0)) (fun _ hk => hk.2) (.int .i16 0)) (fun _ hk => hk.2) (.int .i16 0)) (fun _ hk => hk.1))⟩, ⟨(by (with_reducible repeat (first | apply Kd.R_alloc | apply Kd.R_drewN | apply Kd.R_drew)); exact Kd.R_mono (Kd.R_far (p := ⟨gb206, 4, none⟩) (Kd.R_far (p := ⟨gb206, 3, none⟩) (Kd.R_far (p := ⟨gb206, 2, none⟩) (Kd.R_far (p := ⟨gb206, 1, none⟩) (Kd.R_far (p := ⟨gb206, 0, none⟩) (Kd.R_mono HO_201000.out (fun k_ hk => (⟨hk, hk.2⟩ : _ ∧ k_ ≠ gb206))) (fun _ hk => hk.2) (.int .i8 ((rd_T89 l0_0 ((rd_T98 x6_2 x10_2).f0)).f0))) (fun _ hk => hk.2) (.int .i8 ((rd_T89 l0_0 ((rd_T98 x6_2 x10_2).f0)).f1))) (fun _ hk => hk.2) (.int .i16 0)) (fun _ hk => hk.2) (.int .i16 0)) (fun _ hk => hk.2) (.int .i16 0)) (fun _ hk => hk.1.2))⟩, ⟨(by (with_reducible repeat (first | refine blk_drewN ?_ _ | refine blk_drew ?_ | refine blk_alloc ?_ _)); refine blk_far ?_ NB183_206.out _; (with_reducible repeat (first | refine blk_drewN ?_ _ | refine blk_drew ?_ | refine blk_alloc ?_ _)); refine blk_far ?_ NB183_206.out _; (with_reducible repeat (first | refine blk_drewN ?_ _ | refine blk_drew ?_ | refine blk_alloc ?_ _)); refine blk_far ?_ NB183_206.out _; (with_reducible repeat (first | refine blk_drewN ?_ _ | refine blk_drew ?_ | refine blk_alloc ?_ _)); refine blk_far ?_ NB183_206.out _; (with_reducible repeat (first | refine blk_drewN ?_ _ | refine blk_drew ?_ | refine blk_alloc ?_ _)); refine blk_far ?_ NB183_206.out _; (with_reducible repeat (first | refine blk_drewN ?_ _ | refine blk_drew ?_ | refine blk_alloc ?_ _)); exact BK183.out)⟩, ⟨(by (with_reducible repeat (first | refine blk_drewN ?_ _ | refine blk_drew ?_ | refine blk_alloc ?_ _)); refine blk_far ?_ NB184_206.out _; (with_reducible repeat (first | refine blk_drewN ?_ _ | refine blk_drew ?_ | refine blk_alloc ?_ _)); refine blk_far ?_ NB184_206.out _; (with_reducible repeat (first | refine blk_drewN ?_ _ | refine blk_drew ?_ | refine blk_alloc ?_ _)); refine blk_far ?_ NB184_206.out _; (with_reducible repeat (first | refine blk_drewN ?_ _ | refine blk_drew ?_ | refine blk_alloc ?_ _)); refine blk_far ?_ NB184_206.out _; (with_reducible repeat (first | refine blk_drewN ?_ _ | refine blk_drew ?_ | refine blk_alloc ?_ _)); refine blk_far ?_ NB184_206.out _; (with_reducible repeat (first | refine blk_drewN ?_ _ | refine blk_drew ?_ | refine blk_alloc ?_ _)); exact BK184.out)⟩, ⟨(by (with_reducible repeat (first | refine blk_drewN ?_ _ | refine blk_drew ?_ | refine blk_alloc ?_ _)); refine blk_far ?_ NB185_206.out _; (with_reducible repeat (first | refine blk_drewN ?_ _ | refine blk_drew ?_ | refine blk_alloc ?_ _)); refine blk_far ?_ NB185_206.out _; (with_reducible repeat (first | refine blk_drewN ?_ _ | refine blk_drew ?_ | refine blk_alloc ?_ _)); refine blk_far ?_ NB185_206.out _; (with_reducible repeat (first | refine blk_drewN ?_ _ | refine blk_drew ?_ | refine blk_alloc ?_ _)); refine blk_far ?_ NB185_206.out _; (with_reducible repeat (first | refine blk_drewN ?_ _ | refine blk_drew ?_ | refine blk_alloc ?_ _)); refine blk_far ?_ NB185_206.out _; (with_reducible repeat (first | refine blk_drewN ?_ _ | refine blk_drew ?_ | refine blk_alloc ?_ _)); exact BK185.out)⟩, ⟨(by (with_reducible repeat (first | refine blk_drewN ?_ _ | refine blk_drew ?_ | refine blk_alloc ?_ _)); refine blk_far ?_ NB200_206.out _; (with_reducible repeat (first | refine blk_drewN ?_ _ | refine blk_drew ?_ | refine blk_alloc ?_ _)); refine blk_far ?_ NB200_206.out _; (with_reducible repeat (first | refine blk_drewN ?_ _ | refine blk_drew ?_ | refine blk_alloc ?_ _)); refine blk_far ?_ NB200_206.out _; (with_reducible repeat (first | refine blk_drewN ?_ _ | refine blk_drew ?_ | refine blk_alloc ?_ _)); refine blk_far ?_ NB200_206.out _; (with_reducible repeat (first | refine blk_drewN ?_ _ | refine blk_drew ?_ | refine blk_alloc ?_ _)); refine blk_far ?_ NB200_206.out _; (with_reducible repeat (first | refine blk_drewN ?_ _ | refine blk_drew ?_ | refine blk_alloc ?_ _)); exact BK200.out)⟩, ⟨(by (with_reducible repeat (first | refine blk_drewN ?_ _ | refine blk_drew ?_ | refine blk_alloc ?_ _)); refine blk_far ?_ NB202_206.out _; (with_reducible repeat (first | refine blk_drewN ?_ _ | refine blk_drew ?_ | refine blk_alloc ?_ _)); refine blk_far ?_ NB202_206.out _; (with_reducible repeat (first | refine blk_drewN ?_ _ | refine blk_drew ?_ | refine blk_alloc ?_ _)); refine blk_far ?_ NB202_206.out _; (with_reducible repeat (first | refine blk_drewN ?_ _ | refine blk_drew ?_ | refine blk_alloc ?_ _)); refine blk_far ?_ NB202_206.out _; (with_reducible repeat (first | refine blk_drewN ?_ _ | refine blk_drew ?_ | refine blk_alloc ?_ _)); refine blk_far ?_ NB202_206.out _; (with_reducible repeat (first | refine blk_drewN ?_ _ | refine blk_drew ?_ | refine blk_alloc ?_ _)); exact BK202.out)⟩, ⟨(by (with_reducible repeat (first | refine blk_drewN ?_ _ | refine blk_drew ?_ | refine blk_alloc ?_ _)); refine blk_put (cs := #[.int .i8 ((rd_T89 l0_0 ((rd_T98 x6_2 x10_2).f0)).f0), .int .i8 ((rd_T89 l0_0 ((rd_T98 x6_2 x10_2).f0)).f1), .int .i16 0, .int .i16 0, .int .i16 0]) ?_ 4 _ rfl; (with_reducible repeat (first | refine blk_drewN ?_ _ | refine blk_drew ?_ | refine blk_alloc ?_ _)); refine blk_put (cs := #[.int .i8 ((rd_T89 l0_0 ((rd_T98 x6_2 x10_2).f0)).f0), .int .i8 ((rd_T89 l0_0 ((rd_T98 x6_2 x10_2).f0)).f1), .int .i16 0, .int .i16 0, .int .i16 0]) ?_ 3 _ rfl; (with_reducible repeat (first | refine blk_drewN ?_ _ | refine blk_drew ?_ | refine blk_alloc ?_ _)); refine blk_put (cs := #[.int .i8 ((rd_T89 l0_0 ((rd_T98 x6_2 x10_2).f0)).f0), .int .i8 ((rd_T89 l0_0 ((rd_T98 x6_2 x10_2).f0)).f1), .int .i16 0, .int .i16 0, .int .i16 0]) ?_ 2 _ rfl; (with_reducible repeat (first | refine blk_drewN ?_ _ | refine blk_drew ?_ | refine blk_alloc ?_ _)); refine blk_put (cs := #[.int .i8 ((rd_T89 l0_0 ((rd_T98 x6_2 x10_2).f0)).f0), .int .i8 0, .int .i16 0, .int .i16 0, .int .i16 0]) ?_ 1 _ rfl; (with_reducible repeat (first | refine blk_drewN ?_ _ | refine blk_drew ?_ | refine blk_alloc ?_ _)); refine blk_put (cs := #[.int .i8 0, .int .i8 0, .int .i16 0, .int .i16 0, .int .i16 0]) ?_ 0 _ rfl; (with_reducible repeat (first | refine blk_drewN ?_ _ | refine blk_drew ?_ | refine blk_alloc ?_ _)); exact BK206.out)⟩, ⟨z6_3_⟩⟩
              case round =>
               clear H'
               try clear c1
               try clear c2
               try clear p2
               try clear q2
               try clear hx2
               try clear c3
               try clear c4
               try clear c6
               try clear c8
               try clear c10
               try clear c11
               try clear c12
               try clear c20
               try clear p20
               try clear q20
               try clear hx20
               try clear c21
               try clear c22
               try clear c25
               try clear c25b0
               try clear c28
               try clear c29
               try clear c29b0
               try clear c30
               try clear c30b0
               try clear c31
               try clear c31b0
               try clear c32
               try clear c32b0
               try clear c33
               try clear c33b0
               try clear c33b1
               try clear c36
               try clear c37
               try clear c38
               try clear c39
               try clear c41
               try clear c42
               try clear c43
               try clear hcz13_0
               try clear hcz23_0
               try clear hcz40_0
               try clear hcz40_1
               try clear hcz44_0
               try clear hfz13_0
               try clear hfz23_0
               try clear hfz40_0
               try clear hfz40_1
               try clear hfz44_0
               try clear hx201_0
               try clear hx201_1
               try clear hx203_0
               try clear hx203_1
               try clear hx203_2
               try clear hx203_3
               try clear hx203_4
               try clear hx205_0
               try clear hx205_1
               try clear hx205_2
               try clear hx205_3
               try clear hx205_4
               try clear p2
               try clear p201
               try clear p203
               try clear q201
               try clear q203
               try clear q205
               obtain ⟨x6_4, x8_4, x14_4, x207002_4, x207003_4, x207004_4, rfl, rfl, HA, HK4, HO_6, HO_201000, BK183, BK184, BK185, BK200, BK202, BK206, HB⟩ := hrel
               cases gk with
               | zero => exact absurd HA.out (by simp [spec_ComposeTrees.l1])
               | succ k4 =>
                have H := HA.out
                clear HA
                simp only [spec_ComposeTrees.l1] at H
                (repeat (first | rw [rd1_T89] at H))
                have HC53 := A_ H
                clear H
                go_upto_region 12 with (fail)
                go_cut [69] (fun v69 wc => ∃ (kq : Nat) (x69_52 : Bool), v69 = .bool x69_52 ∧ Aside0 (spec_ComposeTrees.j4 kq x6_4 x8_4 x10_2 [rd_T89 l0_0 ((rd_T98 x6_2 x10_2).f0)] x14_4 x69_52 l0_0 l1_0 x201000_2 ((rd_T98 x6_2 x10_2).f0) ((rd_T98 x6_2 x10_2).f1) ((rd_T89 l0_0 ((rd_T98 x6_2 x10_2).f0)).f0) ((rd_T89 l0_0 ((rd_T98 x6_2 x10_2).f0)).f1) x207002_4 x207003_4 x207004_4 = some (r1, r2)) ∧ Aside0 (kq ≤ k4) ∧ Aside0 (Kd.R k98 98 wc w.heap.size (fun k_ => k_ ≠ gb202) u6 x6_4) ∧ Aside0 (Kd.R k89 89 wc w.heap.size (fun k_ => k_ ≠ gb206) u201000 x201000_2) ∧ Aside0 (wc.heap[gb183]? = some (.cells #[(.slice (some ad203) l0_0.length c0_0)] 34 (0, 0))) ∧ Aside0 (wc.heap[gb184]? = some (.cells #[(.slice A1_0 l1_0.length c1_0)] 34 (0, 0))) ∧ Aside0 (wc.heap[gb185]? = some (.cells #[(.slice none 0 0)] 34 (0, 0))) ∧ Aside0 (wc.heap[gb200]? = some (.cells #[u201000] 34 (0, 0))) ∧ Aside0 (wc.heap[gb202]? = some (.cells #[.int .i16 ((rd_T98 x6_2 x10_2).f0), .int .i16 ((rd_T98 x6_2 x10_2).f1)] 98 (0, 0))) ∧ Aside0 (wc.heap[gb206]? = some (.cells #[.int .i8 ((rd_T89 l0_0 ((rd_T98 x6_2 x10_2).f0)).f0), .int .i8 ((rd_T89 l0_0 ((rd_T98 x6_2 x10_2).f0)).f1), .int .i16 x207002_4, .int .i16 x207003_4, .int .i16 x207004_4] 89 (0, 0))) ∧ Aside0 (Below w.heap.size w wc))
                case first =>
                 have H := HC53.out
                 clear HC53
                 replace H := Option.bind_eq_some_iff.mp H
                 obtain ⟨t207, A540, H⟩ := H
                 try dsimp only at H
                 have A54 := A_ A540
                 clear A540
                 by_cases c55 : x14_4 < t207
                 ·
                  rw [if_pos c55] at H
                  have c55b0 := decide_eq_true c55
                  clear c55
                  (first | rw [c55b0] | (simp only [i64_w, i32_w]; rw [c55b0]) | skip)
                  have H' := A_ H
                  clear H
                  go_wp2_with (first | ((with_reducible refine gate_callee (f := 68) rfl ?_); refine goesL_ (some 64) rfl rfl Try.func68 (by kernel_rfl) rfl #[.pointer (some (Addr.add ad203 (((rd_T98 x6_2 x10_2).f0).toNat * 5)))] rfl z6_24_ ?_; (with_reducible refine (spec_l06Ways.calls _ ([rd_T89 l0_0 ((rd_T98 x6_2 x10_2).f0)]).length [rd_T89 l0_0 ((rd_T98 x6_2 x10_2).f0)] t207 _ ?side1 ?side2 A54.out).mono ?_); (case side1 => have hx_ := (Kd.C_below HR204.out HB.out); exact kc_); (case side2 => exact Nat.le_refl _); rintro e w' ⟨rfl, ⟨nd, rfl⟩⟩; refine ⟨_, rfl, ?_⟩))
                  go_meet
                  case rel => exact ⟨_, ((x8_4 == 0)), z6_22_, H', ⟨z6_61_⟩, ⟨z6_26_⟩, ⟨z6_21_⟩, ⟨z6_1_⟩, ⟨z6_2_⟩, ⟨z6_5_⟩, ⟨z6_11_⟩, ⟨z6_19_⟩, ⟨z6_20_⟩, ⟨z6_3_⟩⟩
                 ·
                  rw [if_neg c55] at H
                  have c55b0 := decide_eq_false c55
                  clear c55
                  (first | rw [c55b0] | (simp only [i64_w, i32_w]; rw [c55b0]) | skip)
                  have H' := A_ H
                  clear H
                  go_wp2_with (first | ((with_reducible refine gate_callee (f := 68) rfl ?_); refine goesL_ (some 64) rfl rfl Try.func68 (by kernel_rfl) rfl #[.pointer (some (Addr.add ad203 (((rd_T98 x6_2 x10_2).f0).toNat * 5)))] rfl z6_24_ ?_; (with_reducible refine (spec_l06Ways.calls _ ([rd_T89 l0_0 ((rd_T98 x6_2 x10_2).f0)]).length [rd_T89 l0_0 ((rd_T98 x6_2 x10_2).f0)] t207 _ ?side1 ?side2 A54.out).mono ?_); (case side1 => have hx_ := (Kd.C_below HR204.out HB.out); exact kc_); (case side2 => exact Nat.le_refl _); rintro e w' ⟨rfl, ⟨nd, rfl⟩⟩; refine ⟨_, rfl, ?_⟩))
                  go_meet
                  case rel => exact ⟨_, (false), z6_22_, H', ⟨z6_61_⟩, ⟨z6_26_⟩, ⟨z6_21_⟩, ⟨z6_1_⟩, ⟨z6_2_⟩, ⟨z6_5_⟩, ⟨z6_11_⟩, ⟨z6_19_⟩, ⟨z6_20_⟩, ⟨z6_3_⟩⟩
                case rest =>
                 clear HC53
                 try clear c1
                 try clear c2
                 try clear p2
                 try clear q2
                 try clear hx2
                 try clear c3
                 try clear c4
                 try clear c5
                 try clear c6
                 try clear c8
                 try clear c10
                 try clear c11
                 try clear c12
                 try clear c20
                 try clear p20
                 try clear q20
                 try clear hx20
                 try clear c21
                 try clear c22
                 try clear c25
                 try clear c25b0
                 try clear c28
                 try clear c29
                 try clear c29b0
                 try clear c30
                 try clear c30b0
                 try clear c31
                 try clear c31b0
                 try clear c32
                 try clear c32b0
                 try clear c33
                 try clear c33b0
                 try clear c33b1
                 try clear c36
                 try clear c37
                 try clear c38
                 try clear c39
                 try clear c41
                 try clear c42
                 try clear c43
                 try clear c55
                 try clear c55b0
                 try clear hcz13_0
                 try clear hcz23_0
                 try clear hcz40_0
                 try clear hcz40_1
                 try clear hcz44_0
                 try clear hfz13_0
                 try clear hfz23_0
                 try clear hfz40_0
                 try clear hfz40_1
                 try clear hfz44_0
                 try clear hx201_0
                 try clear hx201_1
                 try clear hx203_0
                 try clear hx203_1
                 try clear hx203_2
                 try clear hx203_3
                 try clear hx203_4
                 try clear hx205_0
                 try clear hx205_1
                 try clear hx205_2
                 try clear hx205_3
                 try clear hx205_4
                 try clear p2
                 try clear p20
                 try clear p201
                 try clear p203
                 try clear q2
                 try clear q20
                 try clear q201
                 try clear q203
                 try clear q205
                 obtain ⟨kq, x69_52, rfl, HA, HJ52, HO_6, HO_201000, BK183, BK184, BK185, BK200, BK202, BK206, HB⟩ := hcut
                 cases kq with
                 | zero => exact absurd HA.out (by simp [spec_ComposeTrees.j4])
                 | succ kj52 =>
                  have H := HA.out
                  clear HA
                  simp only [spec_ComposeTrees.j4] at H
                  (repeat (first | rw [rd1_T89] at H))
                  by_cases c56 : x69_52 = true
                  ·
                   subst c56
                   have H1 := H; rw [if_pos rfl] at H1
                   clear H
                   have H := H1
                   clear H1
                   by_cases c57 : 0 < ([rd_T89 l0_0 ((rd_T98 x6_2 x10_2).f0)].length : Int)
                   ·
                    rw [if_pos c57] at H
                    have c57b0 := decide_eq_true c57
                    have c57b1 : decide (0 < [rd_T89 l0_0 ((rd_T98 x6_2 x10_2).f0)].length) = true := decide_eq_true (by omega)
                    clear c57
                    by_cases c58 : ((rd_T89 l0_0 ((rd_T98 x6_2 x10_2).f0)).f0) = 1
                    ·
                     rw [if_pos c58] at H
                     have c58b0 := beq_iff_eq.mpr c58
                     have c58b1 := bne_eq_false_iff_eq.mpr c58
                     clear c58
                     by_cases c59 : 0 ≤ ((rd_T98 x6_2 x10_2).f1)
                     ·
                      rw [if_pos c59] at H
                      have c59b0 := decide_eq_true c59
                      clear c59
                      by_cases c60 : ((rd_T98 x6_2 x10_2).f1) < (l1_0.length : Int)
                      ·
                       rw [if_pos c60] at H
                       have c60b0 := decide_eq_true c60
                       clear c60
                       by_cases c61 : 0 ≤ x14_4
                       ·
                        rw [if_pos c61] at H
                        have c61b0 := decide_eq_true c61
                        clear c61
                        by_cases c62 : x14_4 < 3
                        ·
                         rw [if_pos c62] at H
                         have c62b0 := decide_eq_true c62
                         clear c62
                         replace H := Option.bind_eq_some_iff.mp H
                         obtain ⟨⟨t215, t218, t219⟩, A630, H⟩ := H
                         try dsimp only at H
                         have A63 := A_ A630
                         clear A630
                         have H' := A_ H
                         clear H
                         try go_wp2
                         have _ := A_ (Kd.R_drew HO_6.out)
                         have _ := A_ (Kd.R_drew HO_201000.out)
                         have _ := A_ (blk_drew BK183.out)
                         have _ := A_ (blk_drew BK184.out)
                         have _ := A_ (blk_drew BK185.out)
                         have _ := A_ (blk_drew BK200.out)
                         have _ := A_ (blk_drew BK202.out)
                         have _ := A_ (blk_drew BK206.out)
                         have _ := A_ (below_drew1 HB.out)
                         clear HO_6 HO_201000 BK183 BK184 BK185 BK200 BK202 BK206 HB
                         rename_i HO_6 HO_201000 BK183 BK184 BK185 BK200 BK202 BK206 HB
                         have q208 : 0 < ([rd_T89 l0_0 ((rd_T98 x6_2 x10_2).f0)].length : Int) := of_decide_eq_true (by assumption)
                         obtain ⟨ad208, e208, hx208_0, hx208_1, hx208_2, hx208_3, hx208_4⟩ := rp_T89 HR204.out q208
                         have hw208_4 := hx208_4
                         have hw208_3 := hx208_3
                         have hw208_2 := hx208_2
                         have hw208_1 := hx208_1
                         have hw208_0 := hx208_0
                         (try simp only [rd1_T89] at hx208_0 hx208_1 hx208_2 hx208_3 hx208_4)
                         obtain rfl : (Addr.add ad203 (((rd_T98 x6_2 x10_2).f0).toNat * 5)) = ad208 := (by injection e208)
                         replace hx208_0 := cel HB.out hx208_0
                         replace hx208_1 := cel HB.out hx208_1
                         replace hx208_2 := cel HB.out hx208_2
                         replace hx208_3 := cel HB.out hx208_3
                         replace hx208_4 := cel HB.out hx208_4
                         refine start_ (n := 10) (S := fun w' => w'.cell? ⟨gb202, 0, none⟩ = some (.int .i16 ((rd_T98 x6_2 x10_2).f0)) ∧ w'.cell? ⟨gb202, 1, none⟩ = some (.int .i16 ((rd_T98 x6_2 x10_2).f1)) ∧ w'.cell? (Addr.add ad203 (((rd_T98 x6_2 x10_2).f0).toNat * 5)) = some (.int .i8 ((rd_T89 l0_0 ((rd_T98 x6_2 x10_2).f0)).f0)) ∧ w'.cell? ⟨(Addr.add ad203 (((rd_T98 x6_2 x10_2).f0).toNat * 5)).block, (Addr.add ad203 (((rd_T98 x6_2 x10_2).f0).toNat * 5)).off + 1, none⟩ = some (.int .i8 ((rd_T89 l0_0 ((rd_T98 x6_2 x10_2).f0)).f1)) ∧ w'.cell? ⟨(Addr.add ad203 (((rd_T98 x6_2 x10_2).f0).toNat * 5)).block, (Addr.add ad203 (((rd_T98 x6_2 x10_2).f0).toNat * 5)).off + 2, none⟩ = some (.int .i16 ((rd_T89 l0_0 ((rd_T98 x6_2 x10_2).f0)).f2.f0)) ∧ w'.cell? ⟨(Addr.add ad203 (((rd_T98 x6_2 x10_2).f0).toNat * 5)).block, (Addr.add ad203 (((rd_T98 x6_2 x10_2).f0).toNat * 5)).off + 3, none⟩ = some (.int .i16 ((rd_T89 l0_0 ((rd_T98 x6_2 x10_2).f0)).f2.f1)) ∧ w'.cell? ⟨(Addr.add ad203 (((rd_T98 x6_2 x10_2).f0).toNat * 5)).block, (Addr.add ad203 (((rd_T98 x6_2 x10_2).f0).toNat * 5)).off + 4, none⟩ = some (.int .i16 ((rd_T89 l0_0 ((rd_T98 x6_2 x10_2).f0)).f2.f2))) (ds := []) #[false, false, false, false, false, false, false, false, false, false] (by kernel_rfl) rfl rfl ⟨(blk_cell BK202.out 0).trans rfl, (blk_cell BK202.out 1).trans rfl, (cel HB.out hw208_0), (cel HB.out hw208_1), (cel HB.out hw208_2), (cel HB.out hw208_3), (cel HB.out hw208_4)⟩ (fun hHeld => ?_); refine with_tabW spec_ComposeTrees.tab14 spec_ComposeTrees.bits14 (fun HT_ HW_ => ?_)
                         generalize wc.drew = w64 at HO_6 HO_201000 BK183 BK184 BK185 BK200 BK202 BK206 HB hx208_0 hx208_1 hx208_2 hx208_3 hx208_4 hHeld ⊢
                         refine pure_ (i := 0) (N := some 72) (v := ?_) (a' := ?_) #[true, false, false, false, false, false, false, false, false, false] rfl rfl (any_of HT_.out (by kernel_rfl)) (fun _ _ _ h => h) (Or.inl ⟨by rfl, ?_⟩) ?_ ?_
                         rotate_left
                         ·
                          intro w'
                          go_simp
                          with_reducible rfl
                         rotate_left
                         ·
                          simp only [Act.put, sA_, sB_, sC_, i64_w, i32_w]
                          rfl
                         refine pure_ (i := 1) (N := some 73) (v := ?_) (a' := ?_) #[true, true, false, false, false, false, false, false, false, false] rfl rfl (any_of HT_.out (by kernel_rfl)) (fun _ _ _ h => h) (Or.inl ⟨by rfl, ?_⟩) ?_ ?_
                         rotate_left
                         ·
                          intro w'
                          go_simp
                          with_reducible rfl
                         rotate_left
                         ·
                          simp only [Act.put, sA_, sB_, sC_, i64_w, i32_w]
                          rfl
                         refine pure_ (i := 2) (N := some 74) (v := ?_) (a' := ?_) #[true, true, true, false, false, false, false, false, false, false] rfl rfl (any_of HT_.out (by kernel_rfl)) (fun _ _ _ h => h) (Or.inl ⟨by rfl, ?_⟩) ?_ ?_
                         rotate_left
                         ·
                          intro w'
                          go_simp
                          with_reducible rfl
                         rotate_left
                         ·
                          simp only [Act.put, sA_, sB_, sC_, i64_w, i32_w]
                          rfl
                         refine pure_ (i := 3) (N := some 75) (v := ?_) (a' := ?_) #[true, true, true, true, false, false, false, false, false, false] rfl rfl (any_of HT_.out (by kernel_rfl)) (fun _ _ _ h => h) (Or.inl ⟨by rfl, ?_⟩) ?_ ?_
                         rotate_left
                         ·
                          intro w'
                          go_simp
                          with_reducible rfl
                         rotate_left
                         ·
                          simp only [Act.put, sA_, sB_, sC_, i64_w, i32_w]
                          rfl
                         refine pure_ (i := 5) (N := some 77) (v := ?_) (a' := ?_) #[true, true, true, true, false, true, false, false, false, false] rfl rfl (any_of HT_.out (by kernel_rfl)) (fun _ _ _ h => h) (Or.inl ⟨by rfl, ?_⟩) ?_ ?_
                         rotate_left
                         ·
                          intro w'
                          go_simp
                          with_reducible rfl
                         rotate_left
                         ·
                          simp only [Act.put, sA_, sB_, sC_, i64_w, i32_w]
                          rfl
                         refine take_ (i := 4) (N := some 76) (v := ?_) (a' := ?_) #[true, true, true, true, true, true, false, false, false, false] rfl rfl (take_ofW HT_.out HW_.out (by kernel_rfl)) (fun _ _ _ h => h) (Or.inl ⟨by rfl, ?_⟩) hHeld ?_ ?_
                         rotate_left
                         ·
                          rintro w' ⟨s0, s1, s2, s3, s4, s5, s6⟩
                          go_simp
                          with_reducible rfl
                         rotate_left
                         ·
                          simp only [Act.put, sA_, sB_, sC_, i64_w, i32_w]
                          rfl
                         refine take_ (i := 6) (N := some 78) (v := ?_) (a' := ?_) #[true, true, true, true, true, true, true, false, false, false] rfl rfl (take_ofW HT_.out HW_.out (by kernel_rfl)) (fun _ _ _ h => h) (Or.inl ⟨by rfl, ?_⟩) hHeld ?_ ?_
                         rotate_left
                         ·
                          rintro w' ⟨s0, s1, s2, s3, s4, s5, s6⟩
                          go_simp
                          with_reducible rfl
                         rotate_left
                         ·
                          simp only [Act.put, sA_, sB_, sC_, i64_w, i32_w]
                          rfl
                         refine pure_ (i := 7) (N := some 79) (v := ?_) (a' := ?_) #[true, true, true, true, true, true, true, true, false, false] rfl rfl (any_of HT_.out (by kernel_rfl)) (fun _ _ _ h => h) (Or.inl ⟨by rfl, ?_⟩) ?_ ?_
                         rotate_left
                         ·
                          intro w'
                          go_simp
                          with_reducible rfl
                         rotate_left
                         ·
                          simp only [Act.put, sA_, sB_, sC_, i64_w, i32_w]
                          rfl
                         refine one_ (i := 8) (N := some 15) #[true, true, true, true, true, true, true, true, true, false] rfl rfl (one_of HT_.out (by kernel_rfl)) (by decide) (fun K hK => ?_)
                         refine box_step ?hg (N := 15) ?hd (cs := #[.int .i16 0, .int .i16 0]) (t := 98) ?hr ?_; (case hd => rfl); (case hg => rfl); (case hr => first | (go_simp; done) | (go_simp; rfl))
                         intro gb209 hg w65 hbox hb
                         have _ := A_ (Kd.R_below (Kd.R_elderB z6_26_ gb209 (Nat.le_of_eq hg.symm)) hb)
                         have _ := A_ (Kd.R_below z6_21_ hb)
                         have _ := A_ (blk_below (g := gb183) (o := .cells #[.slice (some ad203) l0_0.length c0_0] 34 (0, 0)) z6_1_ hb)
                         have _ := A_ (blk_below (g := gb184) (o := .cells #[.slice A1_0 l1_0.length c1_0] 34 (0, 0)) z6_2_ hb)
                         have _ := A_ (blk_below (g := gb185) (o := .cells #[.slice none 0 0] 34 (0, 0)) z6_5_ hb)
                         have _ := A_ (blk_below (g := gb200) (o := .cells #[u201000] 34 (0, 0)) z6_11_ hb)
                         have _ := A_ (blk_below (g := gb202) (o := .cells #[.int .i16 ((rd_T98 x6_2 x10_2).f0), .int .i16 ((rd_T98 x6_2 x10_2).f1)] 98 (0, 0)) z6_19_ hb)
                         have _ := A_ (blk_below (g := gb206) (o := .cells #[.int .i8 ((rd_T89 l0_0 ((rd_T98 x6_2 x10_2).f0)).f0), .int .i8 ((rd_T89 l0_0 ((rd_T98 x6_2 x10_2).f0)).f1), .int .i16 x207002_4, .int .i16 x207003_4, .int .i16 x207004_4] 89 (0, 0)) z6_20_ hb)
                         have _ := A_ (below_step z6_3_ hb)
                         have _ := A_ (hbox)
                         have _ := A_ ((by rw [hg]; exact (below_size z6_3_) : w.heap.size ≤ gb209))
                         have _ := A_ ((by rw [hg]; exact (below_size z6_3_) : w.heap.size ≤ gb209))
                         have _ := A_ ((by rw [hg]; exact Nat.ne_of_lt (blk_lt (g := gb183) (o := .cells #[.slice (some ad203) l0_0.length c0_0] 34 (0, 0)) z6_1_) : gb183 ≠ gb209))
                         have _ := A_ ((by rw [hg]; exact Nat.ne_of_gt (blk_lt (g := gb183) (o := .cells #[.slice (some ad203) l0_0.length c0_0] 34 (0, 0)) z6_1_) : gb209 ≠ gb183))
                         have _ := A_ ((by rw [hg]; exact Nat.ne_of_lt (blk_lt (g := gb184) (o := .cells #[.slice A1_0 l1_0.length c1_0] 34 (0, 0)) z6_2_) : gb184 ≠ gb209))
                         have _ := A_ ((by rw [hg]; exact Nat.ne_of_gt (blk_lt (g := gb184) (o := .cells #[.slice A1_0 l1_0.length c1_0] 34 (0, 0)) z6_2_) : gb209 ≠ gb184))
                         have _ := A_ ((by rw [hg]; exact Nat.ne_of_lt (blk_lt (g := gb185) (o := .cells #[.slice none 0 0] 34 (0, 0)) z6_5_) : gb185 ≠ gb209))
                         have _ := A_ ((by rw [hg]; exact Nat.ne_of_gt (blk_lt (g := gb185) (o := .cells #[.slice none 0 0] 34 (0, 0)) z6_5_) : gb209 ≠ gb185))
                         have _ := A_ ((by rw [hg]; exact Nat.ne_of_lt (blk_lt (g := gb200) (o := .cells #[u201000] 34 (0, 0)) z6_11_) : gb200 ≠ gb209))
                         have _ := A_ ((by rw [hg]; exact Nat.ne_of_gt (blk_lt (g := gb200) (o := .cells #[u201000] 34 (0, 0)) z6_11_) : gb209 ≠ gb200))
                         have _ := A_ ((by rw [hg]; exact Nat.ne_of_lt (blk_lt (g := gb202) (o := .cells #[.int .i16 ((rd_T98 x6_2 x10_2).f0), .int .i16 ((rd_T98 x6_2 x10_2).f1)] 98 (0, 0)) z6_19_) : gb202 ≠ gb209))
                         have _ := A_ ((by rw [hg]; exact Nat.ne_of_gt (blk_lt (g := gb202) (o := .cells #[.int .i16 ((rd_T98 x6_2 x10_2).f0), .int .i16 ((rd_T98 x6_2 x10_2).f1)] 98 (0, 0)) z6_19_) : gb209 ≠ gb202))
                         have _ := A_ ((by rw [hg]; exact Nat.ne_of_lt (blk_lt (g := gb206) (o := .cells #[.int .i8 ((rd_T89 l0_0 ((rd_T98 x6_2 x10_2).f0)).f0), .int .i8 ((rd_T89 l0_0 ((rd_T98 x6_2 x10_2).f0)).f1), .int .i16 x207002_4, .int .i16 x207003_4, .int .i16 x207004_4] 89 (0, 0)) z6_20_) : gb206 ≠ gb209))
                         have _ := A_ ((by rw [hg]; exact Nat.ne_of_gt (blk_lt (g := gb206) (o := .cells #[.int .i8 ((rd_T89 l0_0 ((rd_T98 x6_2 x10_2).f0)).f0), .int .i8 ((rd_T89 l0_0 ((rd_T98 x6_2 x10_2).f0)).f1), .int .i16 x207002_4, .int .i16 x207003_4, .int .i16 x207004_4] 89 (0, 0)) z6_20_) : gb209 ≠ gb206))
                         clear HO_6 HO_201000 BK183 BK184 BK185 BK200 BK202 BK206 HB
                         rename_i HO_6 HO_201000 BK183 BK184 BK185 BK200 BK202 BK206 HB BK209 GW209 GE209 NB183_209 NB209_183 NB184_209 NB209_184 NB185_209 NB209_185 NB200_209 NB209_200 NB202_209 NB209_202 NB206_209 NB209_206
                         clear hb hbox hg
                         refine hK.out _ _ ⟨(blk_cell BK202.out 0).trans rfl, (blk_cell BK202.out 1).trans rfl, (cel HB.out hw208_0), (cel HB.out hw208_1), (cel HB.out hw208_2), (cel HB.out hw208_3), (cel HB.out hw208_4)⟩ (fun hHeld => ?_)
                         clear hK K
                         refine norm_ (a' := ?_) ?_ ?_
                         rotate_left
                         ·
                          show Act.put _ (some 15) _ = _
                          simp only [Act.put, sA_, sB_, sC_, i64_w, i32_w]
                          rfl
                         refine one_ (i := 9) (N := none) #[true, true, true, true, true, true, true, true, true, true] rfl rfl (one_of HT_.out (by kernel_rfl)) (by decide) (fun K hK => ?_)
                         have hs66 : w65.cell? ⟨gb209, 0, none⟩ = some (.int .i16 0) := (blk_cell BK209.out 0).trans rfl
                         have hfs66 := blk_frozen BK209.out 0
                         have hns66_0 := NB183_209.out
                         have hns66_1 := NB184_209.out
                         have hns66_2 := NB185_209.out
                         have hns66_3 := NB200_209.out
                         have hns66_4 := NB202_209.out
                         have hns66_5 := NB206_209.out
                         have hms66_0 := NB209_183.out
                         have hms66_1 := NB209_184.out
                         have hms66_2 := NB209_185.out
                         have hms66_3 := NB209_200.out
                         have hms66_4 := NB209_202.out
                         have hms66_5 := NB209_206.out
                         have hs67 : w65.cell? ⟨gb209, 1, none⟩ = some (.int .i16 0) := (blk_cell BK209.out 1).trans rfl
                         have hfs67 := blk_frozen BK209.out 1
                         have hns67_0 := NB183_209.out
                         have hns67_1 := NB184_209.out
                         have hns67_2 := NB185_209.out
                         have hns67_3 := NB200_209.out
                         have hns67_4 := NB202_209.out
                         have hns67_5 := NB206_209.out
                         have hms67_0 := NB209_183.out
                         have hms67_1 := NB209_184.out
                         have hms67_2 := NB209_185.out
                         have hms67_3 := NB209_200.out
                         have hms67_4 := NB209_202.out
                         have hms67_5 := NB209_206.out
                         refine skip_ (w1 := ?_) (by rfl) rfl ?_ ?_
                         rotate_left
                         ·
                          go_simp
                          rfl
                         refine hK.out _ _ ⟨((cell_far (p := ⟨gb209, _, none⟩) NB202_209.out _).trans (((cell_far (p := ⟨gb209, _, none⟩) NB202_209.out _).trans (hHeld.1)))), ((cell_far (p := ⟨gb209, _, none⟩) NB202_209.out _).trans (((cell_far (p := ⟨gb209, _, none⟩) NB202_209.out _).trans (hHeld.2.1)))), ((cell_far (p := ⟨gb209, _, none⟩) z6_18_ _).trans (((cell_far (p := ⟨gb209, _, none⟩) z6_18_ _).trans (hHeld.2.2.1)))), ((cell_far (p := ⟨gb209, _, none⟩) z6_17_ _).trans (((cell_far (p := ⟨gb209, _, none⟩) z6_17_ _).trans (hHeld.2.2.2.1)))), ((cell_far (p := ⟨gb209, _, none⟩) z6_16_ _).trans (((cell_far (p := ⟨gb209, _, none⟩) z6_16_ _).trans (hHeld.2.2.2.2.1)))), ((cell_far (p := ⟨gb209, _, none⟩) z6_15_ _).trans (((cell_far (p := ⟨gb209, _, none⟩) z6_15_ _).trans (hHeld.2.2.2.2.2.1)))), ((cell_far (p := ⟨gb209, _, none⟩) z6_14_ _).trans (((cell_far (p := ⟨gb209, _, none⟩) z6_14_ _).trans (hHeld.2.2.2.2.2.2))))⟩ (fun hHeld => ?_)
                         clear hK K
                         refine done_ (done_of HT_.out (by kernel_rfl)) ?_
                         have q210 : 0 < ([rd_T89 l0_0 ((rd_T98 x6_2 x10_2).f0)].length : Int) := of_decide_eq_true (by assumption)
                         obtain ⟨ad210, e210, hx210_0, hx210_1, hx210_2, hx210_3, hx210_4⟩ := rp_T89 HR204.out q210
                         (try simp only [rd1_T89] at hx210_0 hx210_1 hx210_2 hx210_3 hx210_4)
                         obtain rfl : (Addr.add ad203 (((rd_T98 x6_2 x10_2).f0).toNat * 5)) = ad210 := (by injection e210)
                         have hn210_0 : (Addr.add ad203 (((rd_T98 x6_2 x10_2).f0).toNat * 5)).block ≠ gb209 := Nat.ne_of_lt (Nat.lt_of_lt_of_le (by have := World.block_lt_of_cell? _ _ hx210_0; first | rwa [add_block] at this | exact this) GW209.out)
                         have hn210_1 : (Addr.add ad203 (((rd_T98 x6_2 x10_2).f0).toNat * 5)).block ≠ gb209 := Nat.ne_of_lt (Nat.lt_of_lt_of_le (by have := World.block_lt_of_cell? _ _ hx210_0; first | rwa [add_block] at this | exact this) GW209.out)
                         replace hx210_0 := cel HB.out hx210_0
                         replace hx210_1 := cel HB.out hx210_1
                         replace hx210_2 := cel HB.out hx210_2
                         replace hx210_3 := cel HB.out hx210_3
                         replace hx210_4 := cel HB.out hx210_4
                         replace hx210_0 := (cell_far (p := ⟨gb209, 0, none⟩) z6_39_ (.int .i16 ((rd_T89 l0_0 ((rd_T98 x6_2 x10_2).f0)).f2.f0))).trans hx210_0
                         replace hx210_1 := (cell_far (p := ⟨gb209, 0, none⟩) z6_39_ (.int .i16 ((rd_T89 l0_0 ((rd_T98 x6_2 x10_2).f0)).f2.f0))).trans hx210_1
                         replace hx210_2 := (cell_far (p := ⟨gb209, 0, none⟩) z6_39_ (.int .i16 ((rd_T89 l0_0 ((rd_T98 x6_2 x10_2).f0)).f2.f0))).trans hx210_2
                         replace hx210_3 := (cell_far (p := ⟨gb209, 0, none⟩) z6_39_ (.int .i16 ((rd_T89 l0_0 ((rd_T98 x6_2 x10_2).f0)).f2.f0))).trans hx210_3
                         replace hx210_4 := (cell_far (p := ⟨gb209, 0, none⟩) z6_39_ (.int .i16 ((rd_T89 l0_0 ((rd_T98 x6_2 x10_2).f0)).f2.f0))).trans hx210_4
                         replace hx210_0 := (cell_far (p := ⟨gb209, 1, none⟩) z6_38_ (.int .i16 ((rd_T98 x6_2 x10_2).f1))).trans hx210_0
                         replace hx210_1 := (cell_far (p := ⟨gb209, 1, none⟩) z6_38_ (.int .i16 ((rd_T98 x6_2 x10_2).f1))).trans hx210_1
                         replace hx210_2 := (cell_far (p := ⟨gb209, 1, none⟩) z6_38_ (.int .i16 ((rd_T98 x6_2 x10_2).f1))).trans hx210_2
                         replace hx210_3 := (cell_far (p := ⟨gb209, 1, none⟩) z6_38_ (.int .i16 ((rd_T98 x6_2 x10_2).f1))).trans hx210_3
                         replace hx210_4 := (cell_far (p := ⟨gb209, 1, none⟩) z6_38_ (.int .i16 ((rd_T98 x6_2 x10_2).f1))).trans hx210_4
                         clear hn210_0
                         clear hn210_1
                         try go_wp2
                         have n0_ : Aside0 (Kd.R k98 98 ((w65.setCell ⟨gb209, 0, none⟩ (.int .i16 ((rd_T89 l0_0 ((rd_T98 x6_2 x10_2).f0)).f2.f0))).setCell ⟨gb209, 1, none⟩ (.int .i16 ((rd_T98 x6_2 x10_2).f1))) w.heap.size (fun k_ => k_ ≠ gb202 ∧ k_ ≠ gb209) u6 x6_4) := ⟨z6_43_⟩
                         have n1_ : Aside0 (Kd.R k89 89 ((w65.setCell ⟨gb209, 0, none⟩ (.int .i16 ((rd_T89 l0_0 ((rd_T98 x6_2 x10_2).f0)).f2.f0))).setCell ⟨gb209, 1, none⟩ (.int .i16 ((rd_T98 x6_2 x10_2).f1))) w.heap.size (fun k_ => k_ ≠ gb206) u201000 x201000_2) := ⟨z6_45_⟩
                         have n2_ : Aside0 (((w65.setCell ⟨gb209, 0, none⟩ (.int .i16 ((rd_T89 l0_0 ((rd_T98 x6_2 x10_2).f0)).f2.f0))).setCell ⟨gb209, 1, none⟩ (.int .i16 ((rd_T98 x6_2 x10_2).f1))).heap[gb183]? = some (.cells #[.slice (some ad203) l0_0.length c0_0] 34 (0, 0))) := ⟨z6_32_⟩
                         have n3_ : Aside0 (((w65.setCell ⟨gb209, 0, none⟩ (.int .i16 ((rd_T89 l0_0 ((rd_T98 x6_2 x10_2).f0)).f2.f0))).setCell ⟨gb209, 1, none⟩ (.int .i16 ((rd_T98 x6_2 x10_2).f1))).heap[gb184]? = some (.cells #[.slice A1_0 l1_0.length c1_0] 34 (0, 0))) := ⟨z6_31_⟩
                         have n4_ : Aside0 (((w65.setCell ⟨gb209, 0, none⟩ (.int .i16 ((rd_T89 l0_0 ((rd_T98 x6_2 x10_2).f0)).f2.f0))).setCell ⟨gb209, 1, none⟩ (.int .i16 ((rd_T98 x6_2 x10_2).f1))).heap[gb185]? = some (.cells #[.slice none 0 0] 34 (0, 0))) := ⟨z6_30_⟩
                         have n5_ : Aside0 (((w65.setCell ⟨gb209, 0, none⟩ (.int .i16 ((rd_T89 l0_0 ((rd_T98 x6_2 x10_2).f0)).f2.f0))).setCell ⟨gb209, 1, none⟩ (.int .i16 ((rd_T98 x6_2 x10_2).f1))).heap[gb200]? = some (.cells #[u201000] 34 (0, 0))) := ⟨z6_29_⟩
                         have n6_ : Aside0 (((w65.setCell ⟨gb209, 0, none⟩ (.int .i16 ((rd_T89 l0_0 ((rd_T98 x6_2 x10_2).f0)).f2.f0))).setCell ⟨gb209, 1, none⟩ (.int .i16 ((rd_T98 x6_2 x10_2).f1))).heap[gb202]? = some (.cells #[.int .i16 ((rd_T98 x6_2 x10_2).f0), .int .i16 ((rd_T98 x6_2 x10_2).f1)] 98 (0, 0))) := ⟨z6_28_⟩
                         have n7_ : Aside0 (((w65.setCell ⟨gb209, 0, none⟩ (.int .i16 ((rd_T89 l0_0 ((rd_T98 x6_2 x10_2).f0)).f2.f0))).setCell ⟨gb209, 1, none⟩ (.int .i16 ((rd_T98 x6_2 x10_2).f1))).heap[gb206]? = some (.cells #[.int .i8 ((rd_T89 l0_0 ((rd_T98 x6_2 x10_2).f0)).f0), .int .i8 ((rd_T89 l0_0 ((rd_T98 x6_2 x10_2).f0)).f1), .int .i16 x207002_4, .int .i16 x207003_4, .int .i16 x207004_4] 89 (0, 0))) := ⟨z6_27_⟩
                         have n8_ : Aside0 (((w65.setCell ⟨gb209, 0, none⟩ (.int .i16 ((rd_T89 l0_0 ((rd_T98 x6_2 x10_2).f0)).f2.f0))).setCell ⟨gb209, 1, none⟩ (.int .i16 ((rd_T98 x6_2 x10_2).f1))).heap[gb209]? = some (.cells #[.int .i16 ((rd_T89 l0_0 ((rd_T98 x6_2 x10_2).f0)).f2.f0), .int .i16 ((rd_T98 x6_2 x10_2).f1)] 98 (0, 0))) := ⟨(by (with_reducible repeat (first | refine blk_drewN ?_ _ | refine blk_drew ?_ | refine blk_alloc ?_ _)); refine blk_put (cs := #[.int .i16 ((rd_T89 l0_0 ((rd_T98 x6_2 x10_2).f0)).f2.f0), .int .i16 0]) ?_ 1 _ rfl; (with_reducible repeat (first | refine blk_drewN ?_ _ | refine blk_drew ?_ | refine blk_alloc ?_ _)); refine blk_put (cs := #[.int .i16 0, .int .i16 0]) ?_ 0 _ rfl; (with_reducible repeat (first | refine blk_drewN ?_ _ | refine blk_drew ?_ | refine blk_alloc ?_ _)); exact BK209.out)⟩
                         have n9_ : Aside0 (Below w.heap.size w ((w65.setCell ⟨gb209, 0, none⟩ (.int .i16 ((rd_T89 l0_0 ((rd_T98 x6_2 x10_2).f0)).f2.f0))).setCell ⟨gb209, 1, none⟩ (.int .i16 ((rd_T98 x6_2 x10_2).f1)))) := ⟨z6_4_⟩
                         (try clear HO_6)
                         (try clear HO_201000)
                         (try clear BK183)
                         (try clear BK184)
                         (try clear BK185)
                         (try clear BK200)
                         (try clear BK202)
                         (try clear BK206)
                         (try clear BK209)
                         (try clear HB)
                         generalize ((w65.setCell ⟨gb209, 0, none⟩ (.int .i16 ((rd_T89 l0_0 ((rd_T98 x6_2 x10_2).f0)).f2.f0))).setCell ⟨gb209, 1, none⟩ (.int .i16 ((rd_T98 x6_2 x10_2).f1))) = w68 at n0_ n1_ n2_ n3_ n4_ n5_ n6_ n7_ n8_ n9_ ⊢
                         have HO_6 := n0_
                         have HO_201000 := n1_
                         have BK183 := n2_
                         have BK184 := n3_
                         have BK185 := n4_
                         have BK200 := n5_
                         have BK202 := n6_
                         have BK206 := n7_
                         have BK209 := n8_
                         have HB := n9_
                         clear n0_ n1_ n2_ n3_ n4_ n5_ n6_ n7_ n8_ n9_
                         have _ := A_ (Kd.R_drew HO_6.out)
                         have _ := A_ (Kd.R_drew HO_201000.out)
                         have _ := A_ (blk_drew BK183.out)
                         have _ := A_ (blk_drew BK184.out)
                         have _ := A_ (blk_drew BK185.out)
                         have _ := A_ (blk_drew BK200.out)
                         have _ := A_ (blk_drew BK202.out)
                         have _ := A_ (blk_drew BK206.out)
                         have _ := A_ (blk_drew BK209.out)
                         have _ := A_ (below_drew1 HB.out)
                         clear HO_6 HO_201000 BK183 BK184 BK185 BK200 BK202 BK206 BK209 HB
                         rename_i HO_6 HO_201000 BK183 BK184 BK185 BK200 BK202 BK206 BK209 HB
                         have p211 : 0 ≤ (((rd_T98 x6_2 x10_2).f1) : Int) := of_decide_eq_true (by assumption)
                         have q211 : ((rd_T98 x6_2 x10_2).f1) < (l1_0.length : Int) := of_decide_eq_true (by assumption)
                         obtain ⟨ad211, e211, hx211_0, hx211_1, hx211_2, hx211_3, hx211_4⟩ := at_T89 HR1_0.out ((rd_T98 x6_2 x10_2).f1) p211 q211
                         have hw211_4 := hx211_4
                         have hw211_3 := hx211_3
                         have hw211_2 := hx211_2
                         have hw211_1 := hx211_1
                         have hw211_0 := hx211_0
                         cases e211
                         replace hx211_0 := cel HB.out hx211_0
                         replace hx211_1 := cel HB.out hx211_1
                         replace hx211_2 := cel HB.out hx211_2
                         replace hx211_3 := cel HB.out hx211_3
                         replace hx211_4 := cel HB.out hx211_4
                         replace p211 := eq_true p211
                         replace q211 := eq_true q211
                         have p212 : 0 ≤ (x14_4 : Int) := of_decide_eq_true (by assumption)
                         have q212 : (x14_4 : Int) < 3 := of_decide_eq_true (by assumption)
                         have hx212_0 := cell_arr3 hx211_2 hx211_3 hx211_4 x14_4 p212 q212
                         (try simp only [Nat.zero_add, Nat.add_zero] at hx212_0)
                         replace p212 := eq_true p212
                         replace q212 := eq_true q212
                         refine start_ (n := 13) (S := fun w' => w'.cell? ⟨gb202, 0, none⟩ = some (.int .i16 ((rd_T98 x6_2 x10_2).f0)) ∧ w'.cell? ⟨gb202, 1, none⟩ = some (.int .i16 ((rd_T98 x6_2 x10_2).f1)) ∧ w'.cell? ⟨gb184, 0, none⟩ = some (.slice (some ad211) l1_0.length c1_0) ∧ w'.cell? (ad211.add ((((rd_T98 x6_2 x10_2).f1)).toNat * 5)) = some (.int .i8 ((rd_T89 l1_0 ((rd_T98 x6_2 x10_2).f1)).f0)) ∧ w'.cell? ⟨(ad211.add ((((rd_T98 x6_2 x10_2).f1)).toNat * 5)).block, (ad211.add ((((rd_T98 x6_2 x10_2).f1)).toNat * 5)).off + 1, none⟩ = some (.int .i8 ((rd_T89 l1_0 ((rd_T98 x6_2 x10_2).f1)).f1)) ∧ w'.cell? ⟨(ad211.add ((((rd_T98 x6_2 x10_2).f1)).toNat * 5)).block, (ad211.add ((((rd_T98 x6_2 x10_2).f1)).toNat * 5)).off + 2, none⟩ = some (.int .i16 ((rd_T89 l1_0 ((rd_T98 x6_2 x10_2).f1)).f2.f0)) ∧ w'.cell? ⟨(ad211.add ((((rd_T98 x6_2 x10_2).f1)).toNat * 5)).block, (ad211.add ((((rd_T98 x6_2 x10_2).f1)).toNat * 5)).off + 3, none⟩ = some (.int .i16 ((rd_T89 l1_0 ((rd_T98 x6_2 x10_2).f1)).f2.f1)) ∧ w'.cell? ⟨(ad211.add ((((rd_T98 x6_2 x10_2).f1)).toNat * 5)).block, (ad211.add ((((rd_T98 x6_2 x10_2).f1)).toNat * 5)).off + 4, none⟩ = some (.int .i16 ((rd_T89 l1_0 ((rd_T98 x6_2 x10_2).f1)).f2.f2))) (ds := []) #[false, false, false, false, false, false, false, false, false, false, false, false, false] (by kernel_rfl) rfl rfl ⟨(blk_cell BK202.out 0).trans rfl, (blk_cell BK202.out 1).trans rfl, (blk_cell BK184.out 0).trans rfl, (cel HB.out hw211_0), (cel HB.out hw211_1), (cel HB.out hw211_2), (cel HB.out hw211_3), (cel HB.out hw211_4)⟩ (fun hHeld => ?_); refine with_tabW spec_ComposeTrees.tab16 spec_ComposeTrees.bits16 (fun HT_ HW_ => ?_)
                         generalize w68.drew = w69 at HO_6 HO_201000 BK183 BK184 BK185 BK200 BK202 BK206 BK209 HB hx211_0 hx211_1 hx211_2 hx211_3 hx211_4 hx212_0 hHeld ⊢
                         refine pure_ (i := 0) (N := some 85) (v := ?_) (a' := ?_) #[true, false, false, false, false, false, false, false, false, false, false, false, false] rfl rfl (any_of HT_.out (by kernel_rfl)) (fun _ _ _ h => h) (Or.inl ⟨by rfl, ?_⟩) ?_ ?_
                         rotate_left
                         ·
                          intro w'
                          go_simp
                          with_reducible rfl
                         rotate_left
                         ·
                          simp only [Act.put, sA_, sB_, sC_, i64_w, i32_w]
                          rfl
                         refine pure_ (i := 2) (N := some 87) (v := ?_) (a' := ?_) #[true, false, true, false, false, false, false, false, false, false, false, false, false] rfl rfl (any_of HT_.out (by kernel_rfl)) (fun _ _ _ h => h) (Or.inl ⟨by rfl, ?_⟩) ?_ ?_
                         rotate_left
                         ·
                          intro w'
                          go_simp
                          with_reducible rfl
                         rotate_left
                         ·
                          simp only [Act.put, sA_, sB_, sC_, i64_w, i32_w]
                          rfl
                         refine pure_ (i := 4) (N := some 89) (v := ?_) (a' := ?_) #[true, false, true, false, true, false, false, false, false, false, false, false, false] rfl rfl (any_of HT_.out (by kernel_rfl)) (fun _ _ _ h => h) (Or.inl ⟨by rfl, ?_⟩) ?_ ?_
                         rotate_left
                         ·
                          intro w'
                          go_simp
                          with_reducible rfl
                         rotate_left
                         ·
                          simp only [Act.put, sA_, sB_, sC_, i64_w, i32_w]
                          rfl
                         refine pure_ (i := 6) (N := some 91) (v := ?_) (a' := ?_) #[true, false, true, false, true, false, true, false, false, false, false, false, false] rfl rfl (any_of HT_.out (by kernel_rfl)) (fun _ _ _ h => h) (Or.inl ⟨by rfl, ?_⟩) ?_ ?_
                         rotate_left
                         ·
                          intro w'
                          go_simp
                          with_reducible rfl
                         rotate_left
                         ·
                          simp only [Act.put, sA_, sB_, sC_, i64_w, i32_w]
                          rfl
                         refine take_ (i := 1) (N := some 86) (v := ?_) (a' := ?_) #[true, true, true, false, true, false, true, false, false, false, false, false, false] rfl rfl (take_ofW HT_.out HW_.out (by kernel_rfl)) (fun _ _ _ h => h) (Or.inl ⟨by rfl, ?_⟩) hHeld ?_ ?_
                         rotate_left
                         ·
                          rintro w' ⟨s0, s1, s2, s3, s4, s5, s6, s7⟩
                          have hz212 := cell_arr3 s5 s6 s7 x14_4 (of_eq_true p212) (of_eq_true q212)
                          go_simp
                          with_reducible rfl
                         rotate_left
                         ·
                          simp only [Act.put, sA_, sB_, sC_, i64_w, i32_w]
                          rfl
                         refine take_ (i := 3) (N := some 88) (v := ?_) (a' := ?_) #[true, true, true, true, true, false, true, false, false, false, false, false, false] rfl rfl (take_ofW HT_.out HW_.out (by kernel_rfl)) (fun _ _ _ h => h) (Or.inl ⟨by rfl, ?_⟩) hHeld ?_ ?_
                         rotate_left
                         ·
                          rintro w' ⟨s0, s1, s2, s3, s4, s5, s6, s7⟩
                          have hz212 := cell_arr3 s5 s6 s7 x14_4 (of_eq_true p212) (of_eq_true q212)
                          go_simp
                          with_reducible rfl
                         rotate_left
                         ·
                          simp only [Act.put, sA_, sB_, sC_, i64_w, i32_w]
                          rfl
                         refine take_ (i := 5) (N := some 90) (v := ?_) (a' := ?_) #[true, true, true, true, true, true, true, false, false, false, false, false, false] rfl rfl (take_ofW HT_.out HW_.out (by kernel_rfl)) (fun _ _ _ h => h) (Or.inl ⟨by rfl, ?_⟩) hHeld ?_ ?_
                         rotate_left
                         ·
                          rintro w' ⟨s0, s1, s2, s3, s4, s5, s6, s7⟩
                          have hz212 := cell_arr3 s5 s6 s7 x14_4 (of_eq_true p212) (of_eq_true q212)
                          go_simp
                          with_reducible rfl
                         rotate_left
                         ·
                          simp only [Act.put, sA_, sB_, sC_, i64_w, i32_w]
                          rfl
                         refine pure_ (i := 7) (N := some 92) (v := ?_) (a' := ?_) #[true, true, true, true, true, true, true, true, false, false, false, false, false] rfl rfl (any_of HT_.out (by kernel_rfl)) (fun _ _ _ h => h) (Or.inl ⟨by rfl, ?_⟩) ?_ ?_
                         rotate_left
                         ·
                          intro w'
                          go_simp
                          with_reducible rfl
                         rotate_left
                         ·
                          simp only [Act.put, sA_, sB_, sC_, i64_w, i32_w]
                          rfl
                         refine pure_ (i := 8) (N := some 93) (v := ?_) (a' := ?_) #[true, true, true, true, true, true, true, true, true, false, false, false, false] rfl rfl (any_of HT_.out (by kernel_rfl)) (fun _ _ _ h => h) (Or.inl ⟨by rfl, ?_⟩) ?_ ?_
                         rotate_left
                         ·
                          intro w'
                          go_simp
                          with_reducible rfl
                         rotate_left
                         ·
                          simp only [Act.put, sA_, sB_, sC_, i64_w, i32_w]
                          rfl
                         refine pure_ (i := 9) (N := some 94) (v := ?_) (a' := ?_) #[true, true, true, true, true, true, true, true, true, true, false, false, false] rfl rfl (any_of HT_.out (by kernel_rfl)) (fun _ _ _ h => h) (Or.inl ⟨by rfl, ?_⟩) ?_ ?_
                         rotate_left
                         ·
                          intro w'
                          go_simp
                          with_reducible rfl
                         rotate_left
                         ·
                          simp only [Act.put, sA_, sB_, sC_, i64_w, i32_w]
                          rfl
                         refine take_ (i := 10) (N := some 95) (v := ?_) (a' := ?_) #[true, true, true, true, true, true, true, true, true, true, true, false, false] rfl rfl (take_ofW HT_.out HW_.out (by kernel_rfl)) (fun _ _ _ h => h) (Or.inl ⟨by rfl, ?_⟩) hHeld ?_ ?_
                         rotate_left
                         ·
                          rintro w' ⟨s0, s1, s2, s3, s4, s5, s6, s7⟩
                          have hz212 := cell_arr3 s5 s6 s7 x14_4 (of_eq_true p212) (of_eq_true q212)
                          go_simp
                          with_reducible rfl
                         rotate_left
                         ·
                          simp only [Act.put, sA_, sB_, sC_, i64_w, i32_w]
                          rfl
                         refine pure_ (i := 11) (N := some 96) (v := ?_) (a' := ?_) #[true, true, true, true, true, true, true, true, true, true, true, true, false] rfl rfl (any_of HT_.out (by kernel_rfl)) (fun _ _ _ h => h) (Or.inl ⟨by rfl, ?_⟩) ?_ ?_
                         rotate_left
                         ·
                          intro w'
                          go_simp
                          with_reducible rfl
                         rotate_left
                         ·
                          simp only [Act.put, sA_, sB_, sC_, i64_w, i32_w]
                          rfl
                         refine one_ (i := 12) (N := none) #[true, true, true, true, true, true, true, true, true, true, true, true, true] rfl rfl (one_of HT_.out (by kernel_rfl)) (by decide) (fun K hK => ?_)
                         have hs70 : w69.cell? ⟨gb209, 0, none⟩ = some (.int .i16 ((rd_T89 l0_0 ((rd_T98 x6_2 x10_2).f0)).f2.f0)) := (blk_cell BK209.out 0).trans rfl
                         have hfs70 := blk_frozen BK209.out 0
                         have hns70_0 := NB183_209.out
                         have hns70_1 := NB184_209.out
                         have hns70_2 := NB185_209.out
                         have hns70_3 := NB200_209.out
                         have hns70_4 := NB202_209.out
                         have hns70_5 := NB206_209.out
                         have hms70_0 := NB209_183.out
                         have hms70_1 := NB209_184.out
                         have hms70_2 := NB209_185.out
                         have hms70_3 := NB209_200.out
                         have hms70_4 := NB209_202.out
                         have hms70_5 := NB209_206.out
                         have hs71 : w69.cell? ⟨gb209, 1, none⟩ = some (.int .i16 ((rd_T98 x6_2 x10_2).f1)) := (blk_cell BK209.out 1).trans rfl
                         have hfs71 := blk_frozen BK209.out 1
                         have hns71_0 := NB183_209.out
                         have hns71_1 := NB184_209.out
                         have hns71_2 := NB185_209.out
                         have hns71_3 := NB200_209.out
                         have hns71_4 := NB202_209.out
                         have hns71_5 := NB206_209.out
                         have hms71_0 := NB209_183.out
                         have hms71_1 := NB209_184.out
                         have hms71_2 := NB209_185.out
                         have hms71_3 := NB209_200.out
                         have hms71_4 := NB209_202.out
                         have hms71_5 := NB209_206.out
                         refine skip_ (w1 := ?_) (by rfl) rfl ?_ ?_
                         rotate_left
                         ·
                          go_simp
                          rfl
                         refine hK.out _ _ ⟨((cell_far (p := ⟨gb209, _, none⟩) NB202_209.out _).trans (((cell_far (p := ⟨gb209, _, none⟩) NB202_209.out _).trans (hHeld.1)))), ((cell_far (p := ⟨gb209, _, none⟩) NB202_209.out _).trans (((cell_far (p := ⟨gb209, _, none⟩) NB202_209.out _).trans (hHeld.2.1)))), ((cell_far (p := ⟨gb209, _, none⟩) NB184_209.out _).trans (((cell_far (p := ⟨gb209, _, none⟩) NB184_209.out _).trans (hHeld.2.2.1)))), ((cell_far (p := ⟨gb209, _, none⟩) z6_37_ _).trans (((cell_far (p := ⟨gb209, _, none⟩) z6_37_ _).trans (hHeld.2.2.2.1)))), ((cell_far (p := ⟨gb209, _, none⟩) z6_36_ _).trans (((cell_far (p := ⟨gb209, _, none⟩) z6_36_ _).trans (hHeld.2.2.2.2.1)))), ((cell_far (p := ⟨gb209, _, none⟩) z6_35_ _).trans (((cell_far (p := ⟨gb209, _, none⟩) z6_35_ _).trans (hHeld.2.2.2.2.2.1)))), ((cell_far (p := ⟨gb209, _, none⟩) z6_34_ _).trans (((cell_far (p := ⟨gb209, _, none⟩) z6_34_ _).trans (hHeld.2.2.2.2.2.2.1)))), ((cell_far (p := ⟨gb209, _, none⟩) z6_33_ _).trans (((cell_far (p := ⟨gb209, _, none⟩) z6_33_ _).trans (hHeld.2.2.2.2.2.2.2))))⟩ (fun hHeld => ?_)
                         clear hK K
                         refine done_ (done_of HT_.out (by kernel_rfl)) ?_
                         have n0_ : Aside0 (Kd.R k98 98 ((w69.setCell ⟨gb209, 0, none⟩ (.int .i16 ((rd_T98 x6_2 x10_2).f0))).setCell ⟨gb209, 1, none⟩ (.int .i16 (rd [(rd_T89 l1_0 ((rd_T98 x6_2 x10_2).f1)).f2.f0, (rd_T89 l1_0 ((rd_T98 x6_2 x10_2).f1)).f2.f1, (rd_T89 l1_0 ((rd_T98 x6_2 x10_2).f1)).f2.f2] x14_4))) w.heap.size (fun k_ => k_ ≠ gb202 ∧ k_ ≠ gb209) u6 x6_4) := ⟨(by (with_reducible repeat (first | apply Kd.R_alloc | apply Kd.R_drewN | apply Kd.R_drew)); exact Kd.R_mono (Kd.R_far (p := ⟨gb209, 1, none⟩) (Kd.R_far (p := ⟨gb209, 0, none⟩) (Kd.R_mono HO_6.out (fun k_ hk => (⟨hk, hk.2⟩ : _ ∧ k_ ≠ gb209))) (fun _ hk => hk.2) (.int .i16 ((rd_T98 x6_2 x10_2).f0))) (fun _ hk => hk.2) (.int .i16 (rd [(rd_T89 l1_0 ((rd_T98 x6_2 x10_2).f1)).f2.f0, (rd_T89 l1_0 ((rd_T98 x6_2 x10_2).f1)).f2.f1, (rd_T89 l1_0 ((rd_T98 x6_2 x10_2).f1)).f2.f2] x14_4))) (fun _ hk => ⟨hk.1.1, hk.1.2⟩))⟩
                         have n1_ : Aside0 (Kd.R k89 89 ((w69.setCell ⟨gb209, 0, none⟩ (.int .i16 ((rd_T98 x6_2 x10_2).f0))).setCell ⟨gb209, 1, none⟩ (.int .i16 (rd [(rd_T89 l1_0 ((rd_T98 x6_2 x10_2).f1)).f2.f0, (rd_T89 l1_0 ((rd_T98 x6_2 x10_2).f1)).f2.f1, (rd_T89 l1_0 ((rd_T98 x6_2 x10_2).f1)).f2.f2] x14_4))) w.heap.size (fun k_ => k_ ≠ gb206) u201000 x201000_2) := ⟨(by (with_reducible repeat (first | apply Kd.R_alloc | apply Kd.R_drewN | apply Kd.R_drew)); exact Kd.R_mono (Kd.R_far (p := ⟨gb209, 1, none⟩) (Kd.R_far (p := ⟨gb209, 0, none⟩) (Kd.R_types HO_201000.out BK209.out (by decide)) (fun _ hk => hk.2) (.int .i16 ((rd_T98 x6_2 x10_2).f0))) (fun _ hk => hk.2) (.int .i16 (rd [(rd_T89 l1_0 ((rd_T98 x6_2 x10_2).f1)).f2.f0, (rd_T89 l1_0 ((rd_T98 x6_2 x10_2).f1)).f2.f1, (rd_T89 l1_0 ((rd_T98 x6_2 x10_2).f1)).f2.f2] x14_4))) (fun _ hk => hk.1))⟩
                         have n2_ : Aside0 (((w69.setCell ⟨gb209, 0, none⟩ (.int .i16 ((rd_T98 x6_2 x10_2).f0))).setCell ⟨gb209, 1, none⟩ (.int .i16 (rd [(rd_T89 l1_0 ((rd_T98 x6_2 x10_2).f1)).f2.f0, (rd_T89 l1_0 ((rd_T98 x6_2 x10_2).f1)).f2.f1, (rd_T89 l1_0 ((rd_T98 x6_2 x10_2).f1)).f2.f2] x14_4))).heap[gb183]? = some (.cells #[.slice (some ad203) l0_0.length c0_0] 34 (0, 0))) := ⟨z6_32_⟩
                         have n3_ : Aside0 (((w69.setCell ⟨gb209, 0, none⟩ (.int .i16 ((rd_T98 x6_2 x10_2).f0))).setCell ⟨gb209, 1, none⟩ (.int .i16 (rd [(rd_T89 l1_0 ((rd_T98 x6_2 x10_2).f1)).f2.f0, (rd_T89 l1_0 ((rd_T98 x6_2 x10_2).f1)).f2.f1, (rd_T89 l1_0 ((rd_T98 x6_2 x10_2).f1)).f2.f2] x14_4))).heap[gb184]? = some (.cells #[.slice (some ad211) l1_0.length c1_0] 34 (0, 0))) := ⟨z6_31_⟩
                         have n4_ : Aside0 (((w69.setCell ⟨gb209, 0, none⟩ (.int .i16 ((rd_T98 x6_2 x10_2).f0))).setCell ⟨gb209, 1, none⟩ (.int .i16 (rd [(rd_T89 l1_0 ((rd_T98 x6_2 x10_2).f1)).f2.f0, (rd_T89 l1_0 ((rd_T98 x6_2 x10_2).f1)).f2.f1, (rd_T89 l1_0 ((rd_T98 x6_2 x10_2).f1)).f2.f2] x14_4))).heap[gb185]? = some (.cells #[.slice none 0 0] 34 (0, 0))) := ⟨z6_30_⟩
                         have n5_ : Aside0 (((w69.setCell ⟨gb209, 0, none⟩ (.int .i16 ((rd_T98 x6_2 x10_2).f0))).setCell ⟨gb209, 1, none⟩ (.int .i16 (rd [(rd_T89 l1_0 ((rd_T98 x6_2 x10_2).f1)).f2.f0, (rd_T89 l1_0 ((rd_T98 x6_2 x10_2).f1)).f2.f1, (rd_T89 l1_0 ((rd_T98 x6_2 x10_2).f1)).f2.f2] x14_4))).heap[gb200]? = some (.cells #[u201000] 34 (0, 0))) := ⟨z6_29_⟩
                         have n6_ : Aside0 (((w69.setCell ⟨gb209, 0, none⟩ (.int .i16 ((rd_T98 x6_2 x10_2).f0))).setCell ⟨gb209, 1, none⟩ (.int .i16 (rd [(rd_T89 l1_0 ((rd_T98 x6_2 x10_2).f1)).f2.f0, (rd_T89 l1_0 ((rd_T98 x6_2 x10_2).f1)).f2.f1, (rd_T89 l1_0 ((rd_T98 x6_2 x10_2).f1)).f2.f2] x14_4))).heap[gb202]? = some (.cells #[.int .i16 ((rd_T98 x6_2 x10_2).f0), .int .i16 ((rd_T98 x6_2 x10_2).f1)] 98 (0, 0))) := ⟨z6_28_⟩
                         have n7_ : Aside0 (((w69.setCell ⟨gb209, 0, none⟩ (.int .i16 ((rd_T98 x6_2 x10_2).f0))).setCell ⟨gb209, 1, none⟩ (.int .i16 (rd [(rd_T89 l1_0 ((rd_T98 x6_2 x10_2).f1)).f2.f0, (rd_T89 l1_0 ((rd_T98 x6_2 x10_2).f1)).f2.f1, (rd_T89 l1_0 ((rd_T98 x6_2 x10_2).f1)).f2.f2] x14_4))).heap[gb206]? = some (.cells #[.int .i8 ((rd_T89 l0_0 ((rd_T98 x6_2 x10_2).f0)).f0), .int .i8 ((rd_T89 l0_0 ((rd_T98 x6_2 x10_2).f0)).f1), .int .i16 x207002_4, .int .i16 x207003_4, .int .i16 x207004_4] 89 (0, 0))) := ⟨z6_27_⟩
                         have n8_ : Aside0 (((w69.setCell ⟨gb209, 0, none⟩ (.int .i16 ((rd_T98 x6_2 x10_2).f0))).setCell ⟨gb209, 1, none⟩ (.int .i16 (rd [(rd_T89 l1_0 ((rd_T98 x6_2 x10_2).f1)).f2.f0, (rd_T89 l1_0 ((rd_T98 x6_2 x10_2).f1)).f2.f1, (rd_T89 l1_0 ((rd_T98 x6_2 x10_2).f1)).f2.f2] x14_4))).heap[gb209]? = some (.cells #[.int .i16 ((rd_T98 x6_2 x10_2).f0), .int .i16 (rd [(rd_T89 l1_0 ((rd_T98 x6_2 x10_2).f1)).f2.f0, (rd_T89 l1_0 ((rd_T98 x6_2 x10_2).f1)).f2.f1, (rd_T89 l1_0 ((rd_T98 x6_2 x10_2).f1)).f2.f2] x14_4)] 98 (0, 0))) := ⟨(by (with_reducible repeat (first | refine blk_drewN ?_ _ | refine blk_drew ?_ | refine blk_alloc ?_ _)); refine blk_put (cs := #[.int .i16 ((rd_T98 x6_2 x10_2).f0), .int .i16 ((rd_T98 x6_2 x10_2).f1)]) ?_ 1 _ rfl; (with_reducible repeat (first | refine blk_drewN ?_ _ | refine blk_drew ?_ | refine blk_alloc ?_ _)); refine blk_put (cs := #[.int .i16 ((rd_T89 l0_0 ((rd_T98 x6_2 x10_2).f0)).f2.f0), .int .i16 ((rd_T98 x6_2 x10_2).f1)]) ?_ 0 _ rfl; (with_reducible repeat (first | refine blk_drewN ?_ _ | refine blk_drew ?_ | refine blk_alloc ?_ _)); exact BK209.out)⟩
                         have n9_ : Aside0 (Below w.heap.size w ((w69.setCell ⟨gb209, 0, none⟩ (.int .i16 ((rd_T98 x6_2 x10_2).f0))).setCell ⟨gb209, 1, none⟩ (.int .i16 (rd [(rd_T89 l1_0 ((rd_T98 x6_2 x10_2).f1)).f2.f0, (rd_T89 l1_0 ((rd_T98 x6_2 x10_2).f1)).f2.f1, (rd_T89 l1_0 ((rd_T98 x6_2 x10_2).f1)).f2.f2] x14_4)))) := ⟨z6_4_⟩
                         (try clear HO_6)
                         (try clear HO_201000)
                         (try clear BK183)
                         (try clear BK184)
                         (try clear BK185)
                         (try clear BK200)
                         (try clear BK202)
                         (try clear BK206)
                         (try clear BK209)
                         (try clear HB)
                         generalize ((w69.setCell ⟨gb209, 0, none⟩ (.int .i16 ((rd_T98 x6_2 x10_2).f0))).setCell ⟨gb209, 1, none⟩ (.int .i16 (rd [(rd_T89 l1_0 ((rd_T98 x6_2 x10_2).f1)).f2.f0, (rd_T89 l1_0 ((rd_T98 x6_2 x10_2).f1)).f2.f1, (rd_T89 l1_0 ((rd_T98 x6_2 x10_2).f1)).f2.f2] x14_4))) = w72 at n0_ n1_ n2_ n3_ n4_ n5_ n6_ n7_ n8_ n9_ ⊢
                         have HO_6 := n0_
                         have HO_201000 := n1_
                         have BK183 := n2_
                         have BK184 := n3_
                         have BK185 := n4_
                         have BK200 := n5_
                         have BK202 := n6_
                         have BK206 := n7_
                         have BK209 := n8_
                         have HB := n9_
                         clear n0_ n1_ n2_ n3_ n4_ n5_ n6_ n7_ n8_ n9_
                         have hnb73 := NB209_183.out
                         have hnc73 := NB183_209.out
                         have hnb74 := NB209_184.out
                         have hnc74 := NB184_209.out
                         have hnb75 := NB209_185.out
                         have hnc75 := NB185_209.out
                         have hnb76 := NB209_200.out
                         have hnc76 := NB200_209.out
                         have hnb77 := NB209_202.out
                         have hnc77 := NB202_209.out
                         have hnb78 := NB209_206.out
                         have hnc78 := NB206_209.out
                         obtain ⟨hcz79_0, hcz79_1⟩ := bc2 BK209.out
                         obtain ⟨hfz79_0, hfz79_1⟩ := bf2 BK209.out
                         obtain ⟨Ao80, co80, eo80⟩ := Kd.R_slice HO_6.out
                         subst eo80
                         try go_wp2_with (first | ((with_reducible refine gate_callee (f := 67) rfl ?_); refine goesL_ (some 100) rfl rfl Try.func67 (by kernel_rfl) rfl #[.pointer (some ⟨gb183, 0, none⟩), .pointer (some ⟨gb184, 0, none⟩), .slice Ao80 x6_4.length co80, .agg #[.int .i16 ((rd_T98 x6_2 x10_2).f0), .int .i16 (rd [(rd_T89 l1_0 ((rd_T98 x6_2 x10_2).f1)).f2.f0, (rd_T89 l1_0 ((rd_T98 x6_2 x10_2).f1)).f2.f1, (rd_T89 l1_0 ((rd_T98 x6_2 x10_2).f1)).f2.f2] x14_4)]] rfl z6_24_ ?_; (with_reducible refine (spec_l06Join.calls kj52 _ ([(⟨l0_0⟩ : S34)]).length [(⟨l0_0⟩ : S34)] _ ([(⟨l1_0⟩ : S34)]).length [(⟨l1_0⟩ : S34)] (fun k_ => some k_ = (.slice Ao80 x6_4.length co80 : Value).ownBlock) (.slice Ao80 x6_4.length co80) x6_4 ((rd_T98 x6_2 x10_2).f0) (rd [(rd_T89 l1_0 ((rd_T98 x6_2 x10_2).f1)).f2.f0, (rd_T89 l1_0 ((rd_T98 x6_2 x10_2).f1)).f2.f1, (rd_T89 l1_0 ((rd_T98 x6_2 x10_2).f1)).f2.f2] x14_4) t215 t218 t219 w _ ?side1 ?side2 ?side3 ?side4 ?side5 ?side6 A63.out).mono ?_); (case side1 => repeat (first | (with_reducible first | exact HB.out | apply below_alloc | apply pw_below_drewN | apply below_drew1 | refine below_set ?_ GE183.out | refine below_set ?_ GE184.out | refine below_set ?_ GE185.out | refine below_set ?_ GE200.out | refine below_set ?_ GE202.out | refine below_set ?_ GE206.out | refine below_set ?_ GE209.out) | exact HB.out)); (case side2 => exact fun W_ hk_ => Kd.C_block k34 (g := gb183) (cs := #[.slice (some ad203) l0_0.length c0_0]) (T := 34) (blk_kept z6_1_ hk_ (fun hs_ => (fun e_ => (Kd.R_ne HO_6.out BK183.out (by decide)) e_) hs_)) (show Kd.K k34 _ (⟨l0_0⟩ : S34) [.slice (some ad203) l0_0.length c0_0] from k34_mk _ _ (by exact HC0_0.out) ((Kd.C_kept_came k89_heap HR0_0.out z6_4_ (fun k_ hs_ => (fun e_ => Kd.R_base HO_6.out k_ e_.symm) hs_)) W_ hk_)) (by decide)); (case side3 => exact Nat.le_refl _); (case side4 => exact fun W_ hk_ => Kd.C_block k34 (g := gb184) (cs := #[.slice (some ad211) l1_0.length c1_0]) (T := 34) (blk_kept z6_2_ hk_ (fun hs_ => (fun e_ => (Kd.R_ne HO_6.out BK184.out (by decide)) e_) hs_)) (show Kd.K k34 _ (⟨l1_0⟩ : S34) [.slice (some ad211) l1_0.length c1_0] from k34_mk _ _ (by exact HC1_0.out) ((Kd.C_kept_came k89_heap HR1_0.out z6_4_ (fun k_ hs_ => (fun e_ => Kd.R_base HO_6.out k_ e_.symm) hs_)) W_ hk_)) (by decide)); (case side5 => exact Nat.le_refl _); (case side6 => exact Kd.R_tight rfl HO_6.out); rintro e w81 ⟨v216, rfl, ho0, hb, hkp⟩; refine ⟨_, rfl, ?_⟩; have _ := A_ (Kd.R_mono (ok' := fun k_ => k_ ≠ gb206) (Kd.R_keptB ((Kd.R_apart' HO_201000.out (Kd.R_typed HO_6.out) (by decide))) hkp (fun k_ hk_ hs_ => (hk_.2) hs_)) (fun k_ hk_ => hk_.1.1)); have _ := A_ (blk_kept z6_1_ hkp (fun hs_ => (fun e_ => (Kd.R_ne HO_6.out BK183.out (by decide)) e_) hs_)); have _ := A_ (blk_kept z6_2_ hkp (fun hs_ => (fun e_ => (Kd.R_ne HO_6.out BK184.out (by decide)) e_) hs_)); have _ := A_ (blk_kept z6_5_ hkp (fun hs_ => (fun e_ => (Kd.R_ne HO_6.out BK185.out (by decide)) e_) hs_)); have _ := A_ (blk_kept z6_11_ hkp (fun hs_ => (fun e_ => (Kd.R_ne HO_6.out BK200.out (by decide)) e_) hs_)); have _ := A_ (blk_kept z6_19_ hkp (fun hs_ => (fun e_ => (Kd.R_away HO_6.out (fun _ hk => hk.1)) e_) hs_)); have _ := A_ (blk_kept z6_20_ hkp (fun hs_ => (fun e_ => (Kd.R_ne HO_6.out BK206.out (by decide)) e_) hs_)); have _ := A_ (blk_kept z6_46_ hkp (fun hs_ => (fun e_ => (Kd.R_away HO_6.out (fun _ hk => hk.2)) e_) hs_)); have _ := A_ (Kd.R_mono (ok' := fun k_ => k_ ≠ gb202 ∧ k_ ≠ gb209) ho0 (fun k_ hk_ => ⟨Or.elim hk_ (fun hs_ => fun e_ => (Kd.R_away HO_6.out (fun _ hk => hk.1)) (by rw [← e_]; exact hs_)) (fun hn_ => (Kd.freshB (g := gb202) (o := .cells #[.int .i16 ((rd_T98 x6_2 x10_2).f0), .int .i16 ((rd_T98 x6_2 x10_2).f1)] 98 (0, 0)) z6_19_ k_ hn_)), Or.elim hk_ (fun hs_ => fun e_ => (Kd.R_away HO_6.out (fun _ hk => hk.2)) (by rw [← e_]; exact hs_)) (fun hn_ => (Kd.freshB (g := gb209) (o := .cells #[.int .i16 ((rd_T98 x6_2 x10_2).f0), .int .i16 (rd [(rd_T89 l1_0 ((rd_T98 x6_2 x10_2).f1)).f2.f0, (rd_T89 l1_0 ((rd_T98 x6_2 x10_2).f1)).f2.f1, (rd_T89 l1_0 ((rd_T98 x6_2 x10_2).f1)).f2.f2] x14_4)] 98 (0, 0)) z6_46_ k_ hn_))⟩)); have _ := A_ (hb); clear HO_201000 BK183 BK184 BK185 BK200 BK202 BK206 BK209 HB HO_6; rename_i HO_201000 BK183 BK184 BK185 BK200 BK202 BK206 BK209 HO217 HB; (try clear hb); (try clear hkp); (try clear ho0); have p220 : 0 ≤ (x14_4 : Int) := of_decide_eq_true (by assumption); have q220 : (x14_4 : Int) < 3 := of_decide_eq_true (by assumption); have hx220_0 := blk_arr (xs := [x207002_4, x207003_4, x207004_4]) (k := .i16) BK206.out 2 rfl x14_4 p220 q220; have hf220_0 := blk_frozen BK206.out (2 + (x14_4 : Int).toNat); have hcs220 := A_ (show (x14_4 : Int) = 0 ∨ (x14_4 : Int) = 1 ∨ (x14_4 : Int) = 2 by omega); (try simp only [Nat.zero_add] at hx220_0); (try simp only [Nat.zero_add] at hf220_0); replace p220 := eq_true p220; replace q220 := eq_true q220) | ((with_reducible refine gate_store (t := 85) (p := 109) rfl ?_); refine store_event (t := 85) (p := 109) (v := ?vo_w82) (w1 := (w81.setCell ⟨gb206, 2 + (x14_4 : Int).toNat, none⟩ (.int .i16 t218))) ?hg ?ho ?hn ?hr ?_; (case ho => rfl); (case hg => rfl); (case hn => rfl); (case hr => first | (go_simp; done) | (go_simp; rfl)); intro w82 hw; have n0_ : Aside0 (Kd.R k89 89 w82 w.heap.size (fun k_ => k_ ≠ gb206) u201000 x201000_2) := ⟨(by rw [hw]; exact (by (with_reducible repeat (first | apply Kd.R_alloc | apply Kd.R_drewN | apply Kd.R_drew)); exact Kd.R_mono (Kd.R_far (p := ⟨gb206, 2 + (x14_4 : Int).toNat, none⟩) (Kd.R_mono HO_201000.out (fun k_ hk => (⟨hk, hk⟩ : _ ∧ k_ ≠ gb206))) (fun _ hk => hk.2) (.int .i16 t218)) (fun _ hk => hk.1)))⟩; have n1_ : Aside0 (Kd.R k98 98 w82 w.heap.size (fun k_ => k_ ≠ gb202 ∧ k_ ≠ gb209) v216 t215) := ⟨(by rw [hw]; exact (by (with_reducible repeat (first | apply Kd.R_alloc | apply Kd.R_drewN | apply Kd.R_drew)); exact Kd.R_mono (Kd.R_far (p := ⟨gb206, 2 + (x14_4 : Int).toNat, none⟩) (Kd.R_types HO217.out BK206.out (by decide)) (fun _ hk => hk.2) (.int .i16 t218)) (fun _ hk => ⟨hk.1.1, hk.1.2⟩)))⟩; have n2_ : Aside0 (w82.heap[gb183]? = some (.cells #[.slice (some ad203) l0_0.length c0_0] 34 (0, 0))) := ⟨z6_54_⟩; have n3_ : Aside0 (w82.heap[gb184]? = some (.cells #[.slice (some ad211) l1_0.length c1_0] 34 (0, 0))) := ⟨z6_53_⟩; have n4_ : Aside0 (w82.heap[gb185]? = some (.cells #[.slice none 0 0] 34 (0, 0))) := ⟨z6_52_⟩; have n5_ : Aside0 (w82.heap[gb200]? = some (.cells #[u201000] 34 (0, 0))) := ⟨z6_51_⟩; have n6_ : Aside0 (w82.heap[gb202]? = some (.cells #[.int .i16 ((rd_T98 x6_2 x10_2).f0), .int .i16 ((rd_T98 x6_2 x10_2).f1)] 98 (0, 0))) := ⟨z6_50_⟩; have n7_ : Aside0 (w82.heap[gb206]? = some (.cells #[.int .i8 ((rd_T89 l0_0 ((rd_T98 x6_2 x10_2).f0)).f0), .int .i8 ((rd_T89 l0_0 ((rd_T98 x6_2 x10_2).f0)).f1), .int .i16 (up 0 x14_4 t218 x207002_4), .int .i16 (up 1 x14_4 t218 x207003_4), .int .i16 (up 2 x14_4 t218 x207004_4)] 89 (0, 0))) := ⟨(by rw [hw]; exact (by (with_reducible repeat (first | refine blk_drewN ?_ _ | refine blk_drew ?_ | refine blk_alloc ?_ _)); refine blk_put (cs := #[.int .i8 ((rd_T89 l0_0 ((rd_T98 x6_2 x10_2).f0)).f0), .int .i8 ((rd_T89 l0_0 ((rd_T98 x6_2 x10_2).f0)).f1), .int .i16 x207002_4, .int .i16 x207003_4, .int .i16 x207004_4]) ?_ (2 + (x14_4 : Int).toNat) _ (by rcases hcs220.out with h_ | h_ | h_ <;> rw [h_] <;> rfl); (with_reducible repeat (first | refine blk_drewN ?_ _ | refine blk_drew ?_ | refine blk_alloc ?_ _)); exact BK206.out))⟩; have n8_ : Aside0 (w82.heap[gb209]? = some (.cells #[.int .i16 ((rd_T98 x6_2 x10_2).f0), .int .i16 (rd [(rd_T89 l1_0 ((rd_T98 x6_2 x10_2).f1)).f2.f0, (rd_T89 l1_0 ((rd_T98 x6_2 x10_2).f1)).f2.f1, (rd_T89 l1_0 ((rd_T98 x6_2 x10_2).f1)).f2.f2] x14_4)] 98 (0, 0))) := ⟨z6_49_⟩; have n9_ : Aside0 (Below w.heap.size w w82) := ⟨(by rw [hw]; exact z6_4_)⟩; clear hw; clear HO_201000; clear HO217; clear BK183; clear BK184; clear BK185; clear BK200; clear BK202; clear BK206; clear BK209; clear HB; have HO_201000 := n0_; have HO217 := n1_; have BK183 := n2_; have BK184 := n3_; have BK185 := n4_; have BK200 := n5_; have BK202 := n6_; have BK206 := n7_; have BK209 := n8_; have HB := n9_; clear n0_ n1_ n2_ n3_ n4_ n5_ n6_ n7_ n8_ n9_))
                         go_roundg kj52
                         case measure => have := HJ2.out; have := HK2.out; have := HJ23.out; have := HK4.out; have := HJ52.out; omega
                         case rel => exact ⟨(t215), (t219), (wrap64 (x14_4 + 1)), (up 0 x14_4 t218 x207002_4), (up 1 x14_4 t218 x207003_4), (up 2 x14_4 t218 x207004_4), z6_22_, z6_22_, H', ⟨z6_59_⟩, ⟨(by (with_reducible repeat (first | apply Kd.R_alloc | apply Kd.R_drewN | apply Kd.R_drew)); exact Kd.R_mono HO217.out (fun _ hk => hk.1))⟩, ⟨z6_21_⟩, ⟨z6_1_⟩, ⟨z6_2_⟩, ⟨z6_5_⟩, ⟨z6_11_⟩, ⟨z6_19_⟩, ⟨z6_20_⟩, ⟨z6_4_⟩⟩
                        ·
                         rw [if_neg c62] at H
                         exact absurd H (by simp)
                       ·
                        rw [if_neg c61] at H
                        exact absurd H (by simp)
                      ·
                       rw [if_neg c60] at H
                       exact absurd H (by simp)
                     ·
                      rw [if_neg c59] at H
                      exact absurd H (by simp)
                    ·
                     rw [if_neg c58] at H
                     have c58b0 : (((rd_T89 l0_0 ((rd_T98 x6_2 x10_2).f0)).f0) == 1) = false := beq_eq_false_iff_ne.mpr c58
                     have c58b1 : (((rd_T89 l0_0 ((rd_T98 x6_2 x10_2).f0)).f0) != 1) = true := bne_iff_ne.mpr c58
                     replace H := Option.bind_eq_some_iff.mp H
                     obtain ⟨⟨t223, t226, t227⟩, A830, H⟩ := H
                     try dsimp only at H
                     have A83 := A_ A830
                     clear A830
                     by_cases c84 : 0 ≤ x14_4
                     ·
                      rw [if_pos c84] at H
                      have c84b0 := decide_eq_true c84
                      clear c84
                      by_cases c85 : x14_4 < 3
                      ·
                       rw [if_pos c85] at H
                       have c85b0 := decide_eq_true c85
                       clear c85
                       have H' := A_ H
                       clear H
                       try go_wp2
                       have _ := A_ (Kd.R_drew HO_6.out)
                       have _ := A_ (Kd.R_drew HO_201000.out)
                       have _ := A_ (blk_drew BK183.out)
                       have _ := A_ (blk_drew BK184.out)
                       have _ := A_ (blk_drew BK185.out)
                       have _ := A_ (blk_drew BK200.out)
                       have _ := A_ (blk_drew BK202.out)
                       have _ := A_ (blk_drew BK206.out)
                       have _ := A_ (below_drew1 HB.out)
                       clear HO_6 HO_201000 BK183 BK184 BK185 BK200 BK202 BK206 HB
                       rename_i HO_6 HO_201000 BK183 BK184 BK185 BK200 BK202 BK206 HB
                       have q208 : 0 < ([rd_T89 l0_0 ((rd_T98 x6_2 x10_2).f0)].length : Int) := of_decide_eq_true (by assumption)
                       obtain ⟨ad208, e208, hx208_0, hx208_1, hx208_2, hx208_3, hx208_4⟩ := rp_T89 HR204.out q208
                       have hw208_4 := hx208_4
                       have hw208_3 := hx208_3
                       have hw208_2 := hx208_2
                       have hw208_1 := hx208_1
                       have hw208_0 := hx208_0
                       (try simp only [rd1_T89] at hx208_0 hx208_1 hx208_2 hx208_3 hx208_4)
                       obtain rfl : (Addr.add ad203 (((rd_T98 x6_2 x10_2).f0).toNat * 5)) = ad208 := (by injection e208)
                       replace hx208_0 := cel HB.out hx208_0
                       replace hx208_1 := cel HB.out hx208_1
                       replace hx208_2 := cel HB.out hx208_2
                       replace hx208_3 := cel HB.out hx208_3
                       replace hx208_4 := cel HB.out hx208_4
                       refine start_ (n := 10) (S := fun w' => w'.cell? ⟨gb202, 0, none⟩ = some (.int .i16 ((rd_T98 x6_2 x10_2).f0)) ∧ w'.cell? ⟨gb202, 1, none⟩ = some (.int .i16 ((rd_T98 x6_2 x10_2).f1)) ∧ w'.cell? (Addr.add ad203 (((rd_T98 x6_2 x10_2).f0).toNat * 5)) = some (.int .i8 ((rd_T89 l0_0 ((rd_T98 x6_2 x10_2).f0)).f0)) ∧ w'.cell? ⟨(Addr.add ad203 (((rd_T98 x6_2 x10_2).f0).toNat * 5)).block, (Addr.add ad203 (((rd_T98 x6_2 x10_2).f0).toNat * 5)).off + 1, none⟩ = some (.int .i8 ((rd_T89 l0_0 ((rd_T98 x6_2 x10_2).f0)).f1)) ∧ w'.cell? ⟨(Addr.add ad203 (((rd_T98 x6_2 x10_2).f0).toNat * 5)).block, (Addr.add ad203 (((rd_T98 x6_2 x10_2).f0).toNat * 5)).off + 2, none⟩ = some (.int .i16 ((rd_T89 l0_0 ((rd_T98 x6_2 x10_2).f0)).f2.f0)) ∧ w'.cell? ⟨(Addr.add ad203 (((rd_T98 x6_2 x10_2).f0).toNat * 5)).block, (Addr.add ad203 (((rd_T98 x6_2 x10_2).f0).toNat * 5)).off + 3, none⟩ = some (.int .i16 ((rd_T89 l0_0 ((rd_T98 x6_2 x10_2).f0)).f2.f1)) ∧ w'.cell? ⟨(Addr.add ad203 (((rd_T98 x6_2 x10_2).f0).toNat * 5)).block, (Addr.add ad203 (((rd_T98 x6_2 x10_2).f0).toNat * 5)).off + 4, none⟩ = some (.int .i16 ((rd_T89 l0_0 ((rd_T98 x6_2 x10_2).f0)).f2.f2))) (ds := []) #[false, false, false, false, false, false, false, false, false, false] (by kernel_rfl) rfl rfl ⟨(blk_cell BK202.out 0).trans rfl, (blk_cell BK202.out 1).trans rfl, (cel HB.out hw208_0), (cel HB.out hw208_1), (cel HB.out hw208_2), (cel HB.out hw208_3), (cel HB.out hw208_4)⟩ (fun hHeld => ?_); refine with_tabW spec_ComposeTrees.tab14 spec_ComposeTrees.bits14 (fun HT_ HW_ => ?_)
                       generalize wc.drew = w86 at HO_6 HO_201000 BK183 BK184 BK185 BK200 BK202 BK206 HB hx208_0 hx208_1 hx208_2 hx208_3 hx208_4 hHeld ⊢
                       refine pure_ (i := 0) (N := some 72) (v := ?_) (a' := ?_) #[true, false, false, false, false, false, false, false, false, false] rfl rfl (any_of HT_.out (by kernel_rfl)) (fun _ _ _ h => h) (Or.inl ⟨by rfl, ?_⟩) ?_ ?_
                       rotate_left
                       ·
                        intro w'
                        go_simp
                        with_reducible rfl
                       rotate_left
                       ·
                        simp only [Act.put, sA_, sB_, sC_, i64_w, i32_w]
                        rfl
                       refine pure_ (i := 1) (N := some 73) (v := ?_) (a' := ?_) #[true, true, false, false, false, false, false, false, false, false] rfl rfl (any_of HT_.out (by kernel_rfl)) (fun _ _ _ h => h) (Or.inl ⟨by rfl, ?_⟩) ?_ ?_
                       rotate_left
                       ·
                        intro w'
                        go_simp
                        with_reducible rfl
                       rotate_left
                       ·
                        simp only [Act.put, sA_, sB_, sC_, i64_w, i32_w]
                        rfl
                       refine pure_ (i := 2) (N := some 74) (v := ?_) (a' := ?_) #[true, true, true, false, false, false, false, false, false, false] rfl rfl (any_of HT_.out (by kernel_rfl)) (fun _ _ _ h => h) (Or.inl ⟨by rfl, ?_⟩) ?_ ?_
                       rotate_left
                       ·
                        intro w'
                        go_simp
                        with_reducible rfl
                       rotate_left
                       ·
                        simp only [Act.put, sA_, sB_, sC_, i64_w, i32_w]
                        rfl
                       refine pure_ (i := 3) (N := some 75) (v := ?_) (a' := ?_) #[true, true, true, true, false, false, false, false, false, false] rfl rfl (any_of HT_.out (by kernel_rfl)) (fun _ _ _ h => h) (Or.inl ⟨by rfl, ?_⟩) ?_ ?_
                       rotate_left
                       ·
                        intro w'
                        go_simp
                        with_reducible rfl
                       rotate_left
                       ·
                        simp only [Act.put, sA_, sB_, sC_, i64_w, i32_w]
                        rfl
                       refine pure_ (i := 5) (N := some 77) (v := ?_) (a' := ?_) #[true, true, true, true, false, true, false, false, false, false] rfl rfl (any_of HT_.out (by kernel_rfl)) (fun _ _ _ h => h) (Or.inl ⟨by rfl, ?_⟩) ?_ ?_
                       rotate_left
                       ·
                        intro w'
                        go_simp
                        with_reducible rfl
                       rotate_left
                       ·
                        simp only [Act.put, sA_, sB_, sC_, i64_w, i32_w]
                        rfl
                       refine take_ (i := 4) (N := some 76) (v := ?_) (a' := ?_) #[true, true, true, true, true, true, false, false, false, false] rfl rfl (take_ofW HT_.out HW_.out (by kernel_rfl)) (fun _ _ _ h => h) (Or.inl ⟨by rfl, ?_⟩) hHeld ?_ ?_
                       rotate_left
                       ·
                        rintro w' ⟨s0, s1, s2, s3, s4, s5, s6⟩
                        go_simp
                        with_reducible rfl
                       rotate_left
                       ·
                        simp only [Act.put, sA_, sB_, sC_, i64_w, i32_w]
                        rfl
                       refine take_ (i := 6) (N := some 78) (v := ?_) (a' := ?_) #[true, true, true, true, true, true, true, false, false, false] rfl rfl (take_ofW HT_.out HW_.out (by kernel_rfl)) (fun _ _ _ h => h) (Or.inl ⟨by rfl, ?_⟩) hHeld ?_ ?_
                       rotate_left
                       ·
                        rintro w' ⟨s0, s1, s2, s3, s4, s5, s6⟩
                        go_simp
                        with_reducible rfl
                       rotate_left
                       ·
                        simp only [Act.put, sA_, sB_, sC_, i64_w, i32_w]
                        rfl
                       refine pure_ (i := 7) (N := some 79) (v := ?_) (a' := ?_) #[true, true, true, true, true, true, true, true, false, false] rfl rfl (any_of HT_.out (by kernel_rfl)) (fun _ _ _ h => h) (Or.inl ⟨by rfl, ?_⟩) ?_ ?_
                       rotate_left
                       ·
                        intro w'
                        go_simp
                        with_reducible rfl
                       rotate_left
                       ·
                        simp only [Act.put, sA_, sB_, sC_, i64_w, i32_w]
                        rfl
                       refine one_ (i := 8) (N := some 15) #[true, true, true, true, true, true, true, true, true, false] rfl rfl (one_of HT_.out (by kernel_rfl)) (by decide) (fun K hK => ?_)
                       refine box_step ?hg (N := 15) ?hd (cs := #[.int .i16 0, .int .i16 0]) (t := 98) ?hr ?_; (case hd => rfl); (case hg => rfl); (case hr => first | (go_simp; done) | (go_simp; rfl))
                       intro gb209 hg w87 hbox hb
                       have _ := A_ (Kd.R_below (Kd.R_elderB z6_26_ gb209 (Nat.le_of_eq hg.symm)) hb)
                       have _ := A_ (Kd.R_below z6_21_ hb)
                       have _ := A_ (blk_below (g := gb183) (o := .cells #[.slice (some ad203) l0_0.length c0_0] 34 (0, 0)) z6_1_ hb)
                       have _ := A_ (blk_below (g := gb184) (o := .cells #[.slice A1_0 l1_0.length c1_0] 34 (0, 0)) z6_2_ hb)
                       have _ := A_ (blk_below (g := gb185) (o := .cells #[.slice none 0 0] 34 (0, 0)) z6_5_ hb)
                       have _ := A_ (blk_below (g := gb200) (o := .cells #[u201000] 34 (0, 0)) z6_11_ hb)
                       have _ := A_ (blk_below (g := gb202) (o := .cells #[.int .i16 ((rd_T98 x6_2 x10_2).f0), .int .i16 ((rd_T98 x6_2 x10_2).f1)] 98 (0, 0)) z6_19_ hb)
                       have _ := A_ (blk_below (g := gb206) (o := .cells #[.int .i8 ((rd_T89 l0_0 ((rd_T98 x6_2 x10_2).f0)).f0), .int .i8 ((rd_T89 l0_0 ((rd_T98 x6_2 x10_2).f0)).f1), .int .i16 x207002_4, .int .i16 x207003_4, .int .i16 x207004_4] 89 (0, 0)) z6_20_ hb)
                       have _ := A_ (below_step z6_3_ hb)
                       have _ := A_ (hbox)
                       have _ := A_ ((by rw [hg]; exact (below_size z6_3_) : w.heap.size ≤ gb209))
                       have _ := A_ ((by rw [hg]; exact (below_size z6_3_) : w.heap.size ≤ gb209))
                       have _ := A_ ((by rw [hg]; exact Nat.ne_of_lt (blk_lt (g := gb183) (o := .cells #[.slice (some ad203) l0_0.length c0_0] 34 (0, 0)) z6_1_) : gb183 ≠ gb209))
                       have _ := A_ ((by rw [hg]; exact Nat.ne_of_gt (blk_lt (g := gb183) (o := .cells #[.slice (some ad203) l0_0.length c0_0] 34 (0, 0)) z6_1_) : gb209 ≠ gb183))
                       have _ := A_ ((by rw [hg]; exact Nat.ne_of_lt (blk_lt (g := gb184) (o := .cells #[.slice A1_0 l1_0.length c1_0] 34 (0, 0)) z6_2_) : gb184 ≠ gb209))
                       have _ := A_ ((by rw [hg]; exact Nat.ne_of_gt (blk_lt (g := gb184) (o := .cells #[.slice A1_0 l1_0.length c1_0] 34 (0, 0)) z6_2_) : gb209 ≠ gb184))
                       have _ := A_ ((by rw [hg]; exact Nat.ne_of_lt (blk_lt (g := gb185) (o := .cells #[.slice none 0 0] 34 (0, 0)) z6_5_) : gb185 ≠ gb209))
                       have _ := A_ ((by rw [hg]; exact Nat.ne_of_gt (blk_lt (g := gb185) (o := .cells #[.slice none 0 0] 34 (0, 0)) z6_5_) : gb209 ≠ gb185))
                       have _ := A_ ((by rw [hg]; exact Nat.ne_of_lt (blk_lt (g := gb200) (o := .cells #[u201000] 34 (0, 0)) z6_11_) : gb200 ≠ gb209))
                       have _ := A_ ((by rw [hg]; exact Nat.ne_of_gt (blk_lt (g := gb200) (o := .cells #[u201000] 34 (0, 0)) z6_11_) : gb209 ≠ gb200))
                       have _ := A_ ((by rw [hg]; exact Nat.ne_of_lt (blk_lt (g := gb202) (o := .cells #[.int .i16 ((rd_T98 x6_2 x10_2).f0), .int .i16 ((rd_T98 x6_2 x10_2).f1)] 98 (0, 0)) z6_19_) : gb202 ≠ gb209))
                       have _ := A_ ((by rw [hg]; exact Nat.ne_of_gt (blk_lt (g := gb202) (o := .cells #[.int .i16 ((rd_T98 x6_2 x10_2).f0), .int .i16 ((rd_T98 x6_2 x10_2).f1)] 98 (0, 0)) z6_19_) : gb209 ≠ gb202))
                       have _ := A_ ((by rw [hg]; exact Nat.ne_of_lt (blk_lt (g := gb206) (o := .cells #[.int .i8 ((rd_T89 l0_0 ((rd_T98 x6_2 x10_2).f0)).f0), .int .i8 ((rd_T89 l0_0 ((rd_T98 x6_2 x10_2).f0)).f1), .int .i16 x207002_4, .int .i16 x207003_4, .int .i16 x207004_4] 89 (0, 0)) z6_20_) : gb206 ≠ gb209))
                       have _ := A_ ((by rw [hg]; exact Nat.ne_of_gt (blk_lt (g := gb206) (o := .cells #[.int .i8 ((rd_T89 l0_0 ((rd_T98 x6_2 x10_2).f0)).f0), .int .i8 ((rd_T89 l0_0 ((rd_T98 x6_2 x10_2).f0)).f1), .int .i16 x207002_4, .int .i16 x207003_4, .int .i16 x207004_4] 89 (0, 0)) z6_20_) : gb209 ≠ gb206))
                       clear HO_6 HO_201000 BK183 BK184 BK185 BK200 BK202 BK206 HB
                       rename_i HO_6 HO_201000 BK183 BK184 BK185 BK200 BK202 BK206 HB BK209 GW209 GE209 NB183_209 NB209_183 NB184_209 NB209_184 NB185_209 NB209_185 NB200_209 NB209_200 NB202_209 NB209_202 NB206_209 NB209_206
                       clear hb hbox hg
                       refine hK.out _ _ ⟨(blk_cell BK202.out 0).trans rfl, (blk_cell BK202.out 1).trans rfl, (cel HB.out hw208_0), (cel HB.out hw208_1), (cel HB.out hw208_2), (cel HB.out hw208_3), (cel HB.out hw208_4)⟩ (fun hHeld => ?_)
                       clear hK K
                       refine norm_ (a' := ?_) ?_ ?_
                       rotate_left
                       ·
                        show Act.put _ (some 15) _ = _
                        simp only [Act.put, sA_, sB_, sC_, i64_w, i32_w]
                        rfl
                       refine one_ (i := 9) (N := none) #[true, true, true, true, true, true, true, true, true, true] rfl rfl (one_of HT_.out (by kernel_rfl)) (by decide) (fun K hK => ?_)
                       have hs88 : w87.cell? ⟨gb209, 0, none⟩ = some (.int .i16 0) := (blk_cell BK209.out 0).trans rfl
                       have hfs88 := blk_frozen BK209.out 0
                       have hns88_0 := NB183_209.out
                       have hns88_1 := NB184_209.out
                       have hns88_2 := NB185_209.out
                       have hns88_3 := NB200_209.out
                       have hns88_4 := NB202_209.out
                       have hns88_5 := NB206_209.out
                       have hms88_0 := NB209_183.out
                       have hms88_1 := NB209_184.out
                       have hms88_2 := NB209_185.out
                       have hms88_3 := NB209_200.out
                       have hms88_4 := NB209_202.out
                       have hms88_5 := NB209_206.out
                       have hs89 : w87.cell? ⟨gb209, 1, none⟩ = some (.int .i16 0) := (blk_cell BK209.out 1).trans rfl
                       have hfs89 := blk_frozen BK209.out 1
                       have hns89_0 := NB183_209.out
                       have hns89_1 := NB184_209.out
                       have hns89_2 := NB185_209.out
                       have hns89_3 := NB200_209.out
                       have hns89_4 := NB202_209.out
                       have hns89_5 := NB206_209.out
                       have hms89_0 := NB209_183.out
                       have hms89_1 := NB209_184.out
                       have hms89_2 := NB209_185.out
                       have hms89_3 := NB209_200.out
                       have hms89_4 := NB209_202.out
                       have hms89_5 := NB209_206.out
                       refine skip_ (w1 := ?_) (by rfl) rfl ?_ ?_
                       rotate_left
                       ·
                        go_simp
                        rfl
                       refine hK.out _ _ ⟨((cell_far (p := ⟨gb209, _, none⟩) NB202_209.out _).trans (((cell_far (p := ⟨gb209, _, none⟩) NB202_209.out _).trans (hHeld.1)))), ((cell_far (p := ⟨gb209, _, none⟩) NB202_209.out _).trans (((cell_far (p := ⟨gb209, _, none⟩) NB202_209.out _).trans (hHeld.2.1)))), ((cell_far (p := ⟨gb209, _, none⟩) z6_18_ _).trans (((cell_far (p := ⟨gb209, _, none⟩) z6_18_ _).trans (hHeld.2.2.1)))), ((cell_far (p := ⟨gb209, _, none⟩) z6_17_ _).trans (((cell_far (p := ⟨gb209, _, none⟩) z6_17_ _).trans (hHeld.2.2.2.1)))), ((cell_far (p := ⟨gb209, _, none⟩) z6_16_ _).trans (((cell_far (p := ⟨gb209, _, none⟩) z6_16_ _).trans (hHeld.2.2.2.2.1)))), ((cell_far (p := ⟨gb209, _, none⟩) z6_15_ _).trans (((cell_far (p := ⟨gb209, _, none⟩) z6_15_ _).trans (hHeld.2.2.2.2.2.1)))), ((cell_far (p := ⟨gb209, _, none⟩) z6_14_ _).trans (((cell_far (p := ⟨gb209, _, none⟩) z6_14_ _).trans (hHeld.2.2.2.2.2.2))))⟩ (fun hHeld => ?_)
                       clear hK K
                       refine done_ (done_of HT_.out (by kernel_rfl)) ?_
                       have n0_ : Aside0 (Kd.R k98 98 ((w87.setCell ⟨gb209, 0, none⟩ (.int .i16 ((rd_T89 l0_0 ((rd_T98 x6_2 x10_2).f0)).f2.f0))).setCell ⟨gb209, 1, none⟩ (.int .i16 ((rd_T98 x6_2 x10_2).f1))) w.heap.size (fun k_ => k_ ≠ gb202 ∧ k_ ≠ gb209) u6 x6_4) := ⟨z6_43_⟩
                       have n1_ : Aside0 (Kd.R k89 89 ((w87.setCell ⟨gb209, 0, none⟩ (.int .i16 ((rd_T89 l0_0 ((rd_T98 x6_2 x10_2).f0)).f2.f0))).setCell ⟨gb209, 1, none⟩ (.int .i16 ((rd_T98 x6_2 x10_2).f1))) w.heap.size (fun k_ => k_ ≠ gb206) u201000 x201000_2) := ⟨z6_45_⟩
                       have n2_ : Aside0 (((w87.setCell ⟨gb209, 0, none⟩ (.int .i16 ((rd_T89 l0_0 ((rd_T98 x6_2 x10_2).f0)).f2.f0))).setCell ⟨gb209, 1, none⟩ (.int .i16 ((rd_T98 x6_2 x10_2).f1))).heap[gb183]? = some (.cells #[.slice (some ad203) l0_0.length c0_0] 34 (0, 0))) := ⟨z6_32_⟩
                       have n3_ : Aside0 (((w87.setCell ⟨gb209, 0, none⟩ (.int .i16 ((rd_T89 l0_0 ((rd_T98 x6_2 x10_2).f0)).f2.f0))).setCell ⟨gb209, 1, none⟩ (.int .i16 ((rd_T98 x6_2 x10_2).f1))).heap[gb184]? = some (.cells #[.slice A1_0 l1_0.length c1_0] 34 (0, 0))) := ⟨z6_31_⟩
                       have n4_ : Aside0 (((w87.setCell ⟨gb209, 0, none⟩ (.int .i16 ((rd_T89 l0_0 ((rd_T98 x6_2 x10_2).f0)).f2.f0))).setCell ⟨gb209, 1, none⟩ (.int .i16 ((rd_T98 x6_2 x10_2).f1))).heap[gb185]? = some (.cells #[.slice none 0 0] 34 (0, 0))) := ⟨z6_30_⟩
                       have n5_ : Aside0 (((w87.setCell ⟨gb209, 0, none⟩ (.int .i16 ((rd_T89 l0_0 ((rd_T98 x6_2 x10_2).f0)).f2.f0))).setCell ⟨gb209, 1, none⟩ (.int .i16 ((rd_T98 x6_2 x10_2).f1))).heap[gb200]? = some (.cells #[u201000] 34 (0, 0))) := ⟨z6_29_⟩
                       have n6_ : Aside0 (((w87.setCell ⟨gb209, 0, none⟩ (.int .i16 ((rd_T89 l0_0 ((rd_T98 x6_2 x10_2).f0)).f2.f0))).setCell ⟨gb209, 1, none⟩ (.int .i16 ((rd_T98 x6_2 x10_2).f1))).heap[gb202]? = some (.cells #[.int .i16 ((rd_T98 x6_2 x10_2).f0), .int .i16 ((rd_T98 x6_2 x10_2).f1)] 98 (0, 0))) := ⟨z6_28_⟩
                       have n7_ : Aside0 (((w87.setCell ⟨gb209, 0, none⟩ (.int .i16 ((rd_T89 l0_0 ((rd_T98 x6_2 x10_2).f0)).f2.f0))).setCell ⟨gb209, 1, none⟩ (.int .i16 ((rd_T98 x6_2 x10_2).f1))).heap[gb206]? = some (.cells #[.int .i8 ((rd_T89 l0_0 ((rd_T98 x6_2 x10_2).f0)).f0), .int .i8 ((rd_T89 l0_0 ((rd_T98 x6_2 x10_2).f0)).f1), .int .i16 x207002_4, .int .i16 x207003_4, .int .i16 x207004_4] 89 (0, 0))) := ⟨z6_27_⟩
                       have n8_ : Aside0 (((w87.setCell ⟨gb209, 0, none⟩ (.int .i16 ((rd_T89 l0_0 ((rd_T98 x6_2 x10_2).f0)).f2.f0))).setCell ⟨gb209, 1, none⟩ (.int .i16 ((rd_T98 x6_2 x10_2).f1))).heap[gb209]? = some (.cells #[.int .i16 ((rd_T89 l0_0 ((rd_T98 x6_2 x10_2).f0)).f2.f0), .int .i16 ((rd_T98 x6_2 x10_2).f1)] 98 (0, 0))) := ⟨(by (with_reducible repeat (first | refine blk_drewN ?_ _ | refine blk_drew ?_ | refine blk_alloc ?_ _)); refine blk_put (cs := #[.int .i16 ((rd_T89 l0_0 ((rd_T98 x6_2 x10_2).f0)).f2.f0), .int .i16 0]) ?_ 1 _ rfl; (with_reducible repeat (first | refine blk_drewN ?_ _ | refine blk_drew ?_ | refine blk_alloc ?_ _)); refine blk_put (cs := #[.int .i16 0, .int .i16 0]) ?_ 0 _ rfl; (with_reducible repeat (first | refine blk_drewN ?_ _ | refine blk_drew ?_ | refine blk_alloc ?_ _)); exact BK209.out)⟩
                       have n9_ : Aside0 (Below w.heap.size w ((w87.setCell ⟨gb209, 0, none⟩ (.int .i16 ((rd_T89 l0_0 ((rd_T98 x6_2 x10_2).f0)).f2.f0))).setCell ⟨gb209, 1, none⟩ (.int .i16 ((rd_T98 x6_2 x10_2).f1)))) := ⟨z6_4_⟩
                       (try clear HO_6)
                       (try clear HO_201000)
                       (try clear BK183)
                       (try clear BK184)
                       (try clear BK185)
                       (try clear BK200)
                       (try clear BK202)
                       (try clear BK206)
                       (try clear BK209)
                       (try clear HB)
                       generalize ((w87.setCell ⟨gb209, 0, none⟩ (.int .i16 ((rd_T89 l0_0 ((rd_T98 x6_2 x10_2).f0)).f2.f0))).setCell ⟨gb209, 1, none⟩ (.int .i16 ((rd_T98 x6_2 x10_2).f1))) = w90 at n0_ n1_ n2_ n3_ n4_ n5_ n6_ n7_ n8_ n9_ ⊢
                       have HO_6 := n0_
                       have HO_201000 := n1_
                       have BK183 := n2_
                       have BK184 := n3_
                       have BK185 := n4_
                       have BK200 := n5_
                       have BK202 := n6_
                       have BK206 := n7_
                       have BK209 := n8_
                       have HB := n9_
                       clear n0_ n1_ n2_ n3_ n4_ n5_ n6_ n7_ n8_ n9_
                       have q210 : 0 < ([rd_T89 l0_0 ((rd_T98 x6_2 x10_2).f0)].length : Int) := of_decide_eq_true (by assumption)
                       obtain ⟨ad210, e210, hx210_0, hx210_1, hx210_2, hx210_3, hx210_4⟩ := rp_T89 HR204.out q210
                       (try simp only [rd1_T89] at hx210_0 hx210_1 hx210_2 hx210_3 hx210_4)
                       obtain rfl : (Addr.add ad203 (((rd_T98 x6_2 x10_2).f0).toNat * 5)) = ad210 := (by injection e210)
                       replace hx210_0 := cel HB.out hx210_0
                       replace hx210_1 := cel HB.out hx210_1
                       replace hx210_2 := cel HB.out hx210_2
                       replace hx210_3 := cel HB.out hx210_3
                       replace hx210_4 := cel HB.out hx210_4
                       have hnb91 := NB209_183.out
                       have hnc91 := NB183_209.out
                       have hnb92 := NB209_184.out
                       have hnc92 := NB184_209.out
                       have hnb93 := NB209_185.out
                       have hnc93 := NB185_209.out
                       have hnb94 := NB209_200.out
                       have hnc94 := NB200_209.out
                       have hnb95 := NB209_202.out
                       have hnc95 := NB202_209.out
                       have hnb96 := NB209_206.out
                       have hnc96 := NB206_209.out
                       obtain ⟨hcz97_0, hcz97_1⟩ := bc2 BK209.out
                       obtain ⟨hfz97_0, hfz97_1⟩ := bf2 BK209.out
                       obtain ⟨Ao98, co98, eo98⟩ := Kd.R_slice HO_6.out
                       subst eo98
                       try go_wp2_with (first | ((with_reducible refine gate_callee (f := 67) rfl ?_); refine goesL_ (some 100) rfl rfl Try.func67 (by kernel_rfl) rfl #[.pointer (some ⟨gb183, 0, none⟩), .pointer (some ⟨gb184, 0, none⟩), .slice Ao98 x6_4.length co98, .agg #[.int .i16 ((rd_T89 l0_0 ((rd_T98 x6_2 x10_2).f0)).f2.f0), .int .i16 ((rd_T98 x6_2 x10_2).f1)]] rfl z6_24_ ?_; (with_reducible refine (spec_l06Join.calls kj52 _ ([(⟨l0_0⟩ : S34)]).length [(⟨l0_0⟩ : S34)] _ ([(⟨l1_0⟩ : S34)]).length [(⟨l1_0⟩ : S34)] (fun k_ => some k_ = (.slice Ao98 x6_4.length co98 : Value).ownBlock) (.slice Ao98 x6_4.length co98) x6_4 ((rd_T89 l0_0 ((rd_T98 x6_2 x10_2).f0)).f2.f0) ((rd_T98 x6_2 x10_2).f1) t223 t226 t227 w _ ?side1 ?side2 ?side3 ?side4 ?side5 ?side6 A83.out).mono ?_); (case side1 => repeat (first | (with_reducible first | exact HB.out | apply below_alloc | apply pw_below_drewN | apply below_drew1 | refine below_set ?_ GE183.out | refine below_set ?_ GE184.out | refine below_set ?_ GE185.out | refine below_set ?_ GE200.out | refine below_set ?_ GE202.out | refine below_set ?_ GE206.out | refine below_set ?_ GE209.out) | exact HB.out)); (case side2 => exact fun W_ hk_ => Kd.C_block k34 (g := gb183) (cs := #[.slice (some ad203) l0_0.length c0_0]) (T := 34) (blk_kept z6_1_ hk_ (fun hs_ => (fun e_ => (Kd.R_ne HO_6.out BK183.out (by decide)) e_) hs_)) (show Kd.K k34 _ (⟨l0_0⟩ : S34) [.slice (some ad203) l0_0.length c0_0] from k34_mk _ _ (by exact HC0_0.out) ((Kd.C_kept_came k89_heap HR0_0.out z6_4_ (fun k_ hs_ => (fun e_ => Kd.R_base HO_6.out k_ e_.symm) hs_)) W_ hk_)) (by decide)); (case side3 => exact Nat.le_refl _); (case side4 => exact fun W_ hk_ => Kd.C_block k34 (g := gb184) (cs := #[.slice A1_0 l1_0.length c1_0]) (T := 34) (blk_kept z6_2_ hk_ (fun hs_ => (fun e_ => (Kd.R_ne HO_6.out BK184.out (by decide)) e_) hs_)) (show Kd.K k34 _ (⟨l1_0⟩ : S34) [.slice A1_0 l1_0.length c1_0] from k34_mk _ _ (by exact HC1_0.out) ((Kd.C_kept_came k89_heap HR1_0.out z6_4_ (fun k_ hs_ => (fun e_ => Kd.R_base HO_6.out k_ e_.symm) hs_)) W_ hk_)) (by decide)); (case side5 => exact Nat.le_refl _); (case side6 => exact Kd.R_tight rfl HO_6.out); rintro e w99 ⟨v224, rfl, ho0, hb, hkp⟩; refine ⟨_, rfl, ?_⟩; have _ := A_ (Kd.R_mono (ok' := fun k_ => k_ ≠ gb206) (Kd.R_keptB ((Kd.R_apart' HO_201000.out (Kd.R_typed HO_6.out) (by decide))) hkp (fun k_ hk_ hs_ => (hk_.2) hs_)) (fun k_ hk_ => hk_.1.1)); have _ := A_ (blk_kept z6_1_ hkp (fun hs_ => (fun e_ => (Kd.R_ne HO_6.out BK183.out (by decide)) e_) hs_)); have _ := A_ (blk_kept z6_2_ hkp (fun hs_ => (fun e_ => (Kd.R_ne HO_6.out BK184.out (by decide)) e_) hs_)); have _ := A_ (blk_kept z6_5_ hkp (fun hs_ => (fun e_ => (Kd.R_ne HO_6.out BK185.out (by decide)) e_) hs_)); have _ := A_ (blk_kept z6_11_ hkp (fun hs_ => (fun e_ => (Kd.R_ne HO_6.out BK200.out (by decide)) e_) hs_)); have _ := A_ (blk_kept z6_19_ hkp (fun hs_ => (fun e_ => (Kd.R_away HO_6.out (fun _ hk => hk.1)) e_) hs_)); have _ := A_ (blk_kept z6_20_ hkp (fun hs_ => (fun e_ => (Kd.R_ne HO_6.out BK206.out (by decide)) e_) hs_)); have _ := A_ (blk_kept z6_46_ hkp (fun hs_ => (fun e_ => (Kd.R_away HO_6.out (fun _ hk => hk.2)) e_) hs_)); have _ := A_ (Kd.R_mono (ok' := fun k_ => k_ ≠ gb202 ∧ k_ ≠ gb209) ho0 (fun k_ hk_ => ⟨Or.elim hk_ (fun hs_ => fun e_ => (Kd.R_away HO_6.out (fun _ hk => hk.1)) (by rw [← e_]; exact hs_)) (fun hn_ => (Kd.freshB (g := gb202) (o := .cells #[.int .i16 ((rd_T98 x6_2 x10_2).f0), .int .i16 ((rd_T98 x6_2 x10_2).f1)] 98 (0, 0)) z6_19_ k_ hn_)), Or.elim hk_ (fun hs_ => fun e_ => (Kd.R_away HO_6.out (fun _ hk => hk.2)) (by rw [← e_]; exact hs_)) (fun hn_ => (Kd.freshB (g := gb209) (o := .cells #[.int .i16 ((rd_T89 l0_0 ((rd_T98 x6_2 x10_2).f0)).f2.f0), .int .i16 ((rd_T98 x6_2 x10_2).f1)] 98 (0, 0)) z6_46_ k_ hn_))⟩)); have _ := A_ (hb); clear HO_201000 BK183 BK184 BK185 BK200 BK202 BK206 BK209 HB HO_6; rename_i HO_201000 BK183 BK184 BK185 BK200 BK202 BK206 BK209 HO225 HB; (try clear hb); (try clear hkp); (try clear ho0); have p228 : 0 ≤ (x14_4 : Int) := of_decide_eq_true (by assumption); have q228 : (x14_4 : Int) < 3 := of_decide_eq_true (by assumption); have hx228_0 := blk_arr (xs := [x207002_4, x207003_4, x207004_4]) (k := .i16) BK206.out 2 rfl x14_4 p228 q228; have hf228_0 := blk_frozen BK206.out (2 + (x14_4 : Int).toNat); have hcs228 := A_ (show (x14_4 : Int) = 0 ∨ (x14_4 : Int) = 1 ∨ (x14_4 : Int) = 2 by omega); (try simp only [Nat.zero_add] at hx228_0); (try simp only [Nat.zero_add] at hf228_0); replace p228 := eq_true p228; replace q228 := eq_true q228) | ((with_reducible refine gate_store (t := 85) (p := 109) rfl ?_); refine store_event (t := 85) (p := 109) (v := ?vo_w100) (w1 := (w99.setCell ⟨gb206, 2 + (x14_4 : Int).toNat, none⟩ (.int .i16 t226))) ?hg ?ho ?hn ?hr ?_; (case ho => rfl); (case hg => rfl); (case hn => rfl); (case hr => first | (go_simp; done) | (go_simp; rfl)); intro w100 hw; have n0_ : Aside0 (Kd.R k89 89 w100 w.heap.size (fun k_ => k_ ≠ gb206) u201000 x201000_2) := ⟨(by rw [hw]; exact (by (with_reducible repeat (first | apply Kd.R_alloc | apply Kd.R_drewN | apply Kd.R_drew)); exact Kd.R_mono (Kd.R_far (p := ⟨gb206, 2 + (x14_4 : Int).toNat, none⟩) (Kd.R_mono HO_201000.out (fun k_ hk => (⟨hk, hk⟩ : _ ∧ k_ ≠ gb206))) (fun _ hk => hk.2) (.int .i16 t226)) (fun _ hk => hk.1)))⟩; have n1_ : Aside0 (Kd.R k98 98 w100 w.heap.size (fun k_ => k_ ≠ gb202 ∧ k_ ≠ gb209) v224 t223) := ⟨(by rw [hw]; exact (by (with_reducible repeat (first | apply Kd.R_alloc | apply Kd.R_drewN | apply Kd.R_drew)); exact Kd.R_mono (Kd.R_far (p := ⟨gb206, 2 + (x14_4 : Int).toNat, none⟩) (Kd.R_types HO225.out BK206.out (by decide)) (fun _ hk => hk.2) (.int .i16 t226)) (fun _ hk => ⟨hk.1.1, hk.1.2⟩)))⟩; have n2_ : Aside0 (w100.heap[gb183]? = some (.cells #[.slice (some ad203) l0_0.length c0_0] 34 (0, 0))) := ⟨z6_54_⟩; have n3_ : Aside0 (w100.heap[gb184]? = some (.cells #[.slice A1_0 l1_0.length c1_0] 34 (0, 0))) := ⟨z6_53_⟩; have n4_ : Aside0 (w100.heap[gb185]? = some (.cells #[.slice none 0 0] 34 (0, 0))) := ⟨z6_52_⟩; have n5_ : Aside0 (w100.heap[gb200]? = some (.cells #[u201000] 34 (0, 0))) := ⟨z6_51_⟩; have n6_ : Aside0 (w100.heap[gb202]? = some (.cells #[.int .i16 ((rd_T98 x6_2 x10_2).f0), .int .i16 ((rd_T98 x6_2 x10_2).f1)] 98 (0, 0))) := ⟨z6_50_⟩; have n7_ : Aside0 (w100.heap[gb206]? = some (.cells #[.int .i8 ((rd_T89 l0_0 ((rd_T98 x6_2 x10_2).f0)).f0), .int .i8 ((rd_T89 l0_0 ((rd_T98 x6_2 x10_2).f0)).f1), .int .i16 (up 0 x14_4 t226 x207002_4), .int .i16 (up 1 x14_4 t226 x207003_4), .int .i16 (up 2 x14_4 t226 x207004_4)] 89 (0, 0))) := ⟨(by rw [hw]; exact (by (with_reducible repeat (first | refine blk_drewN ?_ _ | refine blk_drew ?_ | refine blk_alloc ?_ _)); refine blk_put (cs := #[.int .i8 ((rd_T89 l0_0 ((rd_T98 x6_2 x10_2).f0)).f0), .int .i8 ((rd_T89 l0_0 ((rd_T98 x6_2 x10_2).f0)).f1), .int .i16 x207002_4, .int .i16 x207003_4, .int .i16 x207004_4]) ?_ (2 + (x14_4 : Int).toNat) _ (by rcases hcs228.out with h_ | h_ | h_ <;> rw [h_] <;> rfl); (with_reducible repeat (first | refine blk_drewN ?_ _ | refine blk_drew ?_ | refine blk_alloc ?_ _)); exact BK206.out))⟩; have n8_ : Aside0 (w100.heap[gb209]? = some (.cells #[.int .i16 ((rd_T89 l0_0 ((rd_T98 x6_2 x10_2).f0)).f2.f0), .int .i16 ((rd_T98 x6_2 x10_2).f1)] 98 (0, 0))) := ⟨z6_49_⟩; have n9_ : Aside0 (Below w.heap.size w w100) := ⟨(by rw [hw]; exact z6_4_)⟩; clear hw; clear HO_201000; clear HO225; clear BK183; clear BK184; clear BK185; clear BK200; clear BK202; clear BK206; clear BK209; clear HB; have HO_201000 := n0_; have HO225 := n1_; have BK183 := n2_; have BK184 := n3_; have BK185 := n4_; have BK200 := n5_; have BK202 := n6_; have BK206 := n7_; have BK209 := n8_; have HB := n9_; clear n0_ n1_ n2_ n3_ n4_ n5_ n6_ n7_ n8_ n9_))
                       go_roundg kj52
                       case measure => have := HJ2.out; have := HK2.out; have := HJ23.out; have := HK4.out; have := HJ52.out; omega
                       case rel => exact ⟨(t223), (t227), (wrap64 (x14_4 + 1)), (up 0 x14_4 t226 x207002_4), (up 1 x14_4 t226 x207003_4), (up 2 x14_4 t226 x207004_4), z6_22_, z6_22_, H', ⟨z6_59_⟩, ⟨(by (with_reducible repeat (first | apply Kd.R_alloc | apply Kd.R_drewN | apply Kd.R_drew)); exact Kd.R_mono HO225.out (fun _ hk => hk.1))⟩, ⟨z6_21_⟩, ⟨z6_1_⟩, ⟨z6_2_⟩, ⟨z6_5_⟩, ⟨z6_11_⟩, ⟨z6_19_⟩, ⟨z6_20_⟩, ⟨z6_4_⟩⟩
                      ·
                       rw [if_neg c85] at H
                       exact absurd H (by simp)
                     ·
                      rw [if_neg c84] at H
                      exact absurd H (by simp)
                   ·
                    rw [if_neg c57] at H
                    exact absurd H (by simp)
                  ·
                   replace c56 := Bool.eq_false_iff.mpr c56
                   subst c56
                   have H1 := H; rw [if_neg (show ¬ (false = true) by decide)] at H1
                   clear H
                   have H := H1
                   clear H1
                   by_cases c101 : x201000_2.length < 17592186044416
                   ·
                    rw [if_pos c101] at H
                    have LMc101 := A_ c101
                    clear c101
                    obtain ⟨y229, hy229⟩ : ∃ y_ : List (S89), y_ = (x201000_2 ++ [(⟨((rd_T89 l0_0 ((rd_T98 x6_2 x10_2).f0)).f0), ((rd_T89 l0_0 ((rd_T98 x6_2 x10_2).f0)).f1), (⟨x207002_4, x207003_4, x207004_4⟩ : S87)⟩ : S89)]) := ⟨_, rfl⟩
                    replace H : (spec_ComposeTrees.l0 kj52 x6_4 x8_4 (wrap64 (x10_2 + 1)) l0_0 l1_0 y229) = some (r1, r2) := by first | (rw [hy229]; with_reducible exact H) | (have H2_ := (Option.bind_some _ _).symm.trans H; rw [hy229]; with_reducible exact H2_) | (have H2_ := (Option.bind_some _ _).symm.trans H; with_reducible exact H2_) | with_reducible exact H | (rw [hy229]; exact H) | exact H
                    have Ny229 := A_ hy229
                    clear hy229
                    have H' := A_ H
                    clear H
                    have hnb102 := NB200_183.out
                    have hnc102 := NB183_200.out
                    have hnb103 := NB200_184.out
                    have hnc103 := NB184_200.out
                    have hnb104 := NB200_185.out
                    have hnc104 := NB185_200.out
                    have hnb105 := NB200_202.out
                    have hnc105 := NB202_200.out
                    have hnb106 := NB200_206.out
                    have hnc106 := NB206_200.out
                    have hcz107_0 : wc.cell? ⟨gb200, 0, none⟩ = some (u201000) := (blk_cell BK200.out 0).trans rfl
                    have hfz107_0 := blk_frozen BK200.out 0
                    have hnb108 := NB206_183.out
                    have hnc108 := NB183_206.out
                    have hnb109 := NB206_184.out
                    have hnc109 := NB184_206.out
                    have hnb110 := NB206_185.out
                    have hnc110 := NB185_206.out
                    have hnb111 := NB206_202.out
                    have hnc111 := NB202_206.out
                    obtain ⟨hcz112_0, hcz112_1, hcz112_2, hcz112_3, hcz112_4⟩ := bc5 BK206.out
                    obtain ⟨hfz112_0, hfz112_1, hfz112_2, hfz112_3, hfz112_4⟩ := bf5 BK206.out
                    go_wp2_with (first | ((with_reducible refine gate_builtin (b := .append) (xs := #[.tmp 111, .tmp 113]) rfl ?_); at_builtin; refine Kd.R_append k89 (w0 := w) w.heap.size rfl (.tmp 111) (.tmp 113) 32 89 (.agg #[(.int .i8 0), (.int .i8 0), (.int .i16 0), (.int .i16 0), (.int .i16 0)]) 8 rfl Try.underlying32 info89 rfl (by decide) (by omega) u201000 x201000_2 (⟨((rd_T89 l0_0 ((rd_T98 x6_2 x10_2).f0)).f0), ((rd_T89 l0_0 ((rd_T98 x6_2 x10_2).f0)).f1), (⟨x207002_4, x207003_4, x207004_4⟩ : S87)⟩ : S89) [.int .i8 ((rd_T89 l0_0 ((rd_T98 x6_2 x10_2).f0)).f0), .int .i8 ((rd_T89 l0_0 ((rd_T98 x6_2 x10_2).f0)).f1), .int .i16 x207002_4, .int .i16 x207003_4, .int .i16 x207004_4] (fun k_ => k_ ≠ gb206) (fun _ => False) rfl rfl ?aP (fun _ hk => hk.elim) ?aF ?aO ?aB ?aS ?aL ?_; (case aP => exact k89_mkM _ _ _ (⟨((rd_T89 l0_0 ((rd_T98 x6_2 x10_2).f0)).f0), ((rd_T89 l0_0 ((rd_T98 x6_2 x10_2).f0)).f1), (⟨x207002_4, x207003_4, x207004_4⟩ : S87)⟩ : S89)); (case aB => exact z6_3_); (case aF => exact (fun k_ hk => Kd.freshB (g := gb206) (o := .cells #[.int .i8 ((rd_T89 l0_0 ((rd_T98 x6_2 x10_2).f0)).f0), .int .i8 ((rd_T89 l0_0 ((rd_T98 x6_2 x10_2).f0)).f1), .int .i16 x207002_4, .int .i16 x207003_4, .int .i16 x207004_4] 89 (0, 0)) z6_20_ k_ hk)); (case aO => exact z6_21_); (case aS => exact (below_size z6_3_)); (case aL => have := LMc101.out; omega); intro v230 w113 ho hb hg hat; rw [← Ny229.out] at ho; have _ := A_ (Kd.R_over' z6_26_ (Kd.R_typed z6_21_) (by decide) hg); have _ := A_ (blk_grown (g := gb183) (o := .cells #[.slice (some ad203) l0_0.length c0_0] 34 (0, 0)) z6_1_ hg (Kd.R_ne HO_201000.out BK183.out (by decide))); have _ := A_ (blk_grown (g := gb184) (o := .cells #[.slice A1_0 l1_0.length c1_0] 34 (0, 0)) z6_2_ hg (Kd.R_ne HO_201000.out BK184.out (by decide))); have _ := A_ (blk_grown (g := gb185) (o := .cells #[.slice none 0 0] 34 (0, 0)) z6_5_ hg (Kd.R_ne HO_201000.out BK185.out (by decide))); have _ := A_ (blk_grown (g := gb200) (o := .cells #[u201000] 34 (0, 0)) z6_11_ hg (Kd.R_ne HO_201000.out BK200.out (by decide))); have _ := A_ (blk_grown (g := gb202) (o := .cells #[.int .i16 ((rd_T98 x6_2 x10_2).f0), .int .i16 ((rd_T98 x6_2 x10_2).f1)] 98 (0, 0)) z6_19_ hg (Kd.R_ne HO_201000.out BK202.out (by decide))); have _ := A_ (blk_grown (g := gb206) (o := .cells #[.int .i8 ((rd_T89 l0_0 ((rd_T98 x6_2 x10_2).f0)).f0), .int .i8 ((rd_T89 l0_0 ((rd_T98 x6_2 x10_2).f0)).f1), .int .i16 x207002_4, .int .i16 x207003_4, .int .i16 x207004_4] 89 (0, 0)) z6_20_ hg (Kd.R_away HO_201000.out (fun _ hk => hk))); have _ := A_ (hb); have _ := A_ (ho); clear HO_6 BK183 BK184 BK185 BK200 BK202 BK206 HB HO_201000; rename_i HO_6 BK183 BK184 BK185 BK200 BK202 BK206 HB HO231; clear ho hb hg hat; obtain ⟨Ao114, co114, eo114⟩ := Kd.R_slice HO231.out; subst eo114; have hcz115_0 : w113.cell? ⟨gb200, 0, none⟩ = some (u201000) := (blk_cell BK200.out 0).trans rfl; have hfz115_0 := blk_frozen BK200.out 0))
                    go_roundg kj52
                    case measure => have := HJ2.out; have := HK2.out; have := HJ23.out; have := HK4.out; have := HJ52.out; omega
                    case rel => exact ⟨(x6_4), (x8_4), (wrap64 (x10_2 + 1)), (y229), (.slice Ao114 y229.length co114), z6_22_, z6_22_, H', ⟨z6_59_⟩, ⟨(by (with_reducible repeat (first | apply Kd.R_alloc | apply Kd.R_drewN | apply Kd.R_drew)); exact Kd.R_mono (Kd.R_far (p := ⟨gb200, 0, none⟩) (Kd.R_types HO_6.out BK200.out (by decide)) (fun _ hk => hk.2) (.slice Ao114 y229.length co114)) (fun _ hk => trivial))⟩, ⟨(by (with_reducible repeat (first | apply Kd.R_alloc | apply Kd.R_drewN | apply Kd.R_drew)); exact Kd.R_mono (Kd.R_far (p := ⟨gb200, 0, none⟩) (Kd.R_types HO231.out BK200.out (by decide)) (fun _ hk => hk.2) (.slice Ao114 y229.length co114)) (fun _ hk => trivial))⟩, ⟨z6_58_⟩, ⟨z6_57_⟩, ⟨z6_56_⟩, ⟨(by (with_reducible repeat (first | refine blk_drewN ?_ _ | refine blk_drew ?_ | refine blk_alloc ?_ _)); refine blk_put (cs := #[u201000]) ?_ 0 _ rfl; (with_reducible repeat (first | refine blk_drewN ?_ _ | refine blk_drew ?_ | refine blk_alloc ?_ _)); exact BK200.out)⟩, ⟨z6_3_⟩⟩
                   ·
                    rw [if_neg c101] at H
                    exact absurd H (by simp)
             ·
              rw [if_neg c33] at H
              exact absurd H (by simp)
            ·
             rw [if_neg c32] at H
             exact absurd H (by simp)
           ·
            rw [if_neg c31] at H
            exact absurd H (by simp)
          ·
           rw [if_neg c30] at H
           exact absurd H (by simp)
         ·
          rw [if_neg c29] at H
          exact absurd H (by simp)
        ·
         replace c28 := Bool.eq_false_iff.mpr c28
         subst c28
         have H1 := H; rw [if_neg (show ¬ (false = true) by decide)] at H1
         clear H
         have H := H1
         clear H1
         by_cases c116 : x8_2 = 0
         ·
          rw [if_pos c116] at H
          have c116b0 := beq_iff_eq.mpr c116
          have c116b1 := bne_eq_false_iff_eq.mpr c116
          clear c116
          by_cases c117 : (x201000_2.length : Int) > 60
          ·
           rw [if_pos c117] at H
           have c117b0 := decide_eq_true c117
           have c117b1 : decide (60 < x201000_2.length) = true := decide_eq_true (by omega)
           clear c117
           simp only [Option.some.injEq, Prod.mk.injEq] at H
           obtain ⟨rfl, rfl⟩ := H
           have hnb118 := NB200_183.out
           have hnc118 := NB183_200.out
           have hnb119 := NB200_184.out
           have hnc119 := NB184_200.out
           have hnb120 := NB200_185.out
           have hnc120 := NB185_200.out
           have hcz121_0 : wc.cell? ⟨gb200, 0, none⟩ = some (u201000) := (blk_cell BK200.out 0).trans rfl
           have hfz121_0 := blk_frozen BK200.out 0
           obtain ⟨Ao122, co122, eo122⟩ := Kd.R_slice HO_201000.out
           subst eo122
           have hnb123 := NB185_183.out
           have hnc123 := NB183_185.out
           have hnb124 := NB185_184.out
           have hnc124 := NB184_185.out
           have hcz125_0 : wc.cell? ⟨gb185, 0, none⟩ = some (.slice none 0 0) := (blk_cell BK185.out 0).trans rfl
           have hfz125_0 := blk_frozen BK185.out 0
           go_wp2
           refine bodyPost_ret (results_ct rfl _ _ gb185 34 #[.slice none 0 0] (0, 0) _ rfl z6_25_ Try.underlying34 rfl (by kernel_rfl)) rfl ?_
           exact ⟨_, z6_48_, z6_42_, z6_13_⟩
          ·
           rw [if_neg c117] at H
           have c117b0 := decide_eq_false c117
           have c117b1 : decide (60 < x201000_2.length) = false := decide_eq_false (by omega)
           clear c117
           simp only [Option.some.injEq, Prod.mk.injEq] at H
           obtain ⟨rfl, rfl⟩ := H
           have hnb126 := NB200_183.out
           have hnc126 := NB183_200.out
           have hnb127 := NB200_184.out
           have hnc127 := NB184_200.out
           have hnb128 := NB200_185.out
           have hnc128 := NB185_200.out
           have hcz129_0 : wc.cell? ⟨gb200, 0, none⟩ = some (u201000) := (blk_cell BK200.out 0).trans rfl
           have hfz129_0 := blk_frozen BK200.out 0
           obtain ⟨Ao130, co130, eo130⟩ := Kd.R_slice HO_201000.out
           subst eo130
           have hnb131 := NB185_183.out
           have hnc131 := NB183_185.out
           have hnb132 := NB185_184.out
           have hnc132 := NB184_185.out
           have hcz133_0 : wc.cell? ⟨gb185, 0, none⟩ = some (.slice none 0 0) := (blk_cell BK185.out 0).trans rfl
           have hfz133_0 := blk_frozen BK185.out 0
           go_wp2
           refine bodyPost_ret (results_ct rfl _ _ gb185 34 #[.slice Ao130 x201000_2.length co130] (0, 0) _ rfl z6_25_ Try.underlying34 rfl (by kernel_rfl)) rfl ?_
           exact ⟨_, z6_48_, (by (with_reducible repeat (first | apply Kd.R_alloc | apply Kd.R_drewN | apply Kd.R_drew)); exact Kd.R_mono (Kd.R_far (p := ⟨gb185, 0, none⟩) (Kd.R_types HO_201000.out BK185.out (by decide)) (fun _ hk => hk.2) (.slice Ao130 x201000_2.length co130)) (fun _ hk => trivial)), z6_13_⟩
         ·
          rw [if_neg c116] at H
          have c116b0 : (x8_2 == 0) = false := beq_eq_false_iff_ne.mpr c116
          have c116b1 : (x8_2 != 0) = true := bne_iff_ne.mpr c116
          simp only [Option.some.injEq, Prod.mk.injEq] at H
          obtain ⟨rfl, rfl⟩ := H
          have hnb134 := NB185_183.out
          have hnc134 := NB183_185.out
          have hnb135 := NB185_184.out
          have hnc135 := NB184_185.out
          have hnb136 := NB185_200.out
          have hnc136 := NB200_185.out
          have hcz137_0 : wc.cell? ⟨gb185, 0, none⟩ = some (.slice none 0 0) := (blk_cell BK185.out 0).trans rfl
          have hfz137_0 := blk_frozen BK185.out 0
          go_wp2
          refine bodyPost_ret (results_ct rfl _ _ gb185 34 #[.slice none 0 0] (0, 0) _ rfl z6_25_ Try.underlying34 rfl (by kernel_rfl)) rfl ?_
          exact ⟨_, z6_48_, z6_42_, z6_13_⟩
end Go.Proofs.Ytpfnohdnaocpdaa.PT

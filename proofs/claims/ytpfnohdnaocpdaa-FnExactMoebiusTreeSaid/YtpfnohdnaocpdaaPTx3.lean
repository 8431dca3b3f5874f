import Derived.Test.YtpfnohdnaocpdaaPTx0
import Derived.Test.YtpfnohdnaocpdaaPTx1
import Derived.Test.YtpfnohdnaocpdaaPTx2
namespace Go.Proofs.Ytpfnohdnaocpdaa.PT
open Go.RowKit Go.Proofs.YtpfnohdnaocpdaaW.PrintWords Go.Proofs.YtpfnohdnaocpdaaW.PrintLast Go.Proofs.YtpfnohdnaocpdaaW.PrintMore Go.Proofs.YtpfnohdnaocpdaaRP
attribute [local go_sem] max2_int min2_int max_two min_two max_three min_three max_four min_four Go.Proofs.YtpfnohdnaocpdaaRP.max_eight Go.Proofs.YtpfnohdnaocpdaaRP.tmod_len   -- for this text's walks alone
set_option linter.unusedVariables false
set_option linter.unusedSimpArgs false
theorem z3_1_ {P : Prop} (h : P := by repeat (first | (with_reducible first | exact HB.out | apply below_alloc | apply pw_below_drewN | apply below_drew1) | exact HB.out)) : P := h
theorem z3_2_ {P : Prop} (h : P := by (with_reducible repeat (first | refine blk_drewN ?_ _ | refine blk_drew ?_ | refine blk_alloc ?_ _)); exact BK157.out) : P := h
theorem z3_3_ {P : Prop} (h : P := by (with_reducible repeat (first | refine blk_drewN ?_ _ | refine blk_drew ?_ | refine blk_alloc ?_ _)); exact BK158.out) : P := h
theorem z3_4_ {P : Prop} (h : P := by repeat (first | (with_reducible first | exact HB.out | apply below_alloc | apply pw_below_drewN | apply below_drew1 | refine below_set ?_ GE157.out | refine below_set ?_ GE158.out | refine below_set ?_ GE163.out) | exact HB.out)) : P := h
theorem z3_5_ {P : Prop} (h : P := by repeat (first | (with_reducible first | exact HB.out | apply below_alloc | apply pw_below_drewN | apply below_drew1 | refine below_set ?_ GE157.out | refine below_set ?_ GE158.out | refine below_set ?_ GE163.out | refine below_set ?_ GE168.out) | exact HB.out)) : P := h
theorem z3_6_ {P : Prop} (h : P := by (try simp only [List.map_toArray, List.map_cons, List.map_nil]); first | done | rfl | (simp only [List.length_drop, List.length_take]; rfl)) : P := h
theorem z3_7_ {P : Prop} (h : P := by (with_reducible repeat (first | refine blk_drewN ?_ _ | refine blk_drew ?_ | refine blk_alloc ?_ _)); exact BK163.out) : P := h
theorem z3_8_ {P : Prop} (h : P := by (with_reducible repeat (first | refine blk_drewN ?_ _ | refine blk_drew ?_ | refine blk_alloc ?_ _)); refine blk_put (cs := #[.int .i64 t165, .int .i64 0]) ?_ 1 _ rfl; (with_reducible repeat (first | refine blk_drewN ?_ _ | refine blk_drew ?_ | refine blk_alloc ?_ _)); refine blk_put (cs := #[.int .i64 0, .int .i64 0]) ?_ 0 _ rfl; (with_reducible repeat (first | refine blk_drewN ?_ _ | refine blk_drew ?_ | refine blk_alloc ?_ _)); exact BK168.out) : P := h
theorem z3_9_ {P : Prop} (h : P := by repeat (first | (with_reducible first | exact HB.out | apply below_alloc | apply pw_below_drewN | apply below_drew1 | refine below_set ?_ GE179.out) | exact HB.out)) : P := h
theorem z3_10_ {P : Prop} (h : P := by repeat (first | (with_reducible first | exact HB.out | apply below_alloc | apply pw_below_drewN | apply below_drew1 | refine below_set ?_ GE157.out | refine below_set ?_ GE158.out) | exact HB.out)) : P := h
theorem z3_11_ {P : Prop} (h : P := by (with_reducible repeat (first | refine blk_drewN ?_ _ | refine blk_drew ?_ | refine blk_alloc ?_ _)); refine blk_far ?_ NB163_168.out _; (with_reducible repeat (first | refine blk_drewN ?_ _ | refine blk_drew ?_ | refine blk_alloc ?_ _)); refine blk_far ?_ NB163_168.out _; (with_reducible repeat (first | refine blk_drewN ?_ _ | refine blk_drew ?_ | refine blk_alloc ?_ _)); exact BK163.out) : P := h
theorem z3_12_ {P : Prop} (h : P := by (with_reducible repeat (first | refine blk_drewN ?_ _ | refine blk_drew ?_ | refine blk_alloc ?_ _)); exact BK179.out) : P := h
theorem z3_13_ {P : Prop} (h : P := by first | exact Nat.ne_of_lt (Nat.lt_of_lt_of_le (by have := World.block_lt_of_cell? _ _ hw164_3; first | rwa [add_block] at this | exact this) GW168.out) | (rw [add_block]; exact Nat.ne_of_lt (Nat.lt_of_lt_of_le (by have := World.block_lt_of_cell? _ _ hw164_3; first | rwa [add_block] at this | exact this) GW168.out)) | (show (Addr.add _ _).block ≠ _; rw [add_block]; exact Nat.ne_of_lt (Nat.lt_of_lt_of_le (by have := World.block_lt_of_cell? _ _ hw164_3; first | rwa [add_block] at this | exact this) GW168.out)) | (dsimp only; exact Nat.ne_of_lt (Nat.lt_of_lt_of_le (by have := World.block_lt_of_cell? _ _ hw164_3; first | rwa [add_block] at this | exact this) GW168.out))) : P := h
theorem z3_14_ {P : Prop} (h : P := by first | exact Nat.ne_of_lt (Nat.lt_of_lt_of_le (by have := World.block_lt_of_cell? _ _ hw164_2; first | rwa [add_block] at this | exact this) GW168.out) | (rw [add_block]; exact Nat.ne_of_lt (Nat.lt_of_lt_of_le (by have := World.block_lt_of_cell? _ _ hw164_2; first | rwa [add_block] at this | exact this) GW168.out)) | (show (Addr.add _ _).block ≠ _; rw [add_block]; exact Nat.ne_of_lt (Nat.lt_of_lt_of_le (by have := World.block_lt_of_cell? _ _ hw164_2; first | rwa [add_block] at this | exact this) GW168.out)) | (dsimp only; exact Nat.ne_of_lt (Nat.lt_of_lt_of_le (by have := World.block_lt_of_cell? _ _ hw164_2; first | rwa [add_block] at this | exact this) GW168.out))) : P := h
theorem z3_15_ {P : Prop} (h : P := by first | exact Nat.ne_of_lt (Nat.lt_of_lt_of_le (by have := World.block_lt_of_cell? _ _ hw164_1; first | rwa [add_block] at this | exact this) GW168.out) | (rw [add_block]; exact Nat.ne_of_lt (Nat.lt_of_lt_of_le (by have := World.block_lt_of_cell? _ _ hw164_1; first | rwa [add_block] at this | exact this) GW168.out)) | (show (Addr.add _ _).block ≠ _; rw [add_block]; exact Nat.ne_of_lt (Nat.lt_of_lt_of_le (by have := World.block_lt_of_cell? _ _ hw164_1; first | rwa [add_block] at this | exact this) GW168.out)) | (dsimp only; exact Nat.ne_of_lt (Nat.lt_of_lt_of_le (by have := World.block_lt_of_cell? _ _ hw164_1; first | rwa [add_block] at this | exact this) GW168.out))) : P := h
theorem z3_16_ {P : Prop} (h : P := by first | exact Nat.ne_of_lt (Nat.lt_of_lt_of_le (by have := World.block_lt_of_cell? _ _ hw164_0; first | rwa [add_block] at this | exact this) GW168.out) | (rw [add_block]; exact Nat.ne_of_lt (Nat.lt_of_lt_of_le (by have := World.block_lt_of_cell? _ _ hw164_0; first | rwa [add_block] at this | exact this) GW168.out)) | (show (Addr.add _ _).block ≠ _; rw [add_block]; exact Nat.ne_of_lt (Nat.lt_of_lt_of_le (by have := World.block_lt_of_cell? _ _ hw164_0; first | rwa [add_block] at this | exact this) GW168.out)) | (dsimp only; exact Nat.ne_of_lt (Nat.lt_of_lt_of_le (by have := World.block_lt_of_cell? _ _ hw164_0; first | rwa [add_block] at this | exact this) GW168.out))) : P := h
theorem z3_17_ {P : Prop} (h : P := by first | exact Nat.ne_of_lt (Nat.lt_of_lt_of_le (by have := World.block_lt_of_cell? _ _ hw159_3; first | rwa [add_block] at this | exact this) GW163.out) | (rw [add_block]; exact Nat.ne_of_lt (Nat.lt_of_lt_of_le (by have := World.block_lt_of_cell? _ _ hw159_3; first | rwa [add_block] at this | exact this) GW163.out)) | (show (Addr.add _ _).block ≠ _; rw [add_block]; exact Nat.ne_of_lt (Nat.lt_of_lt_of_le (by have := World.block_lt_of_cell? _ _ hw159_3; first | rwa [add_block] at this | exact this) GW163.out)) | (dsimp only; exact Nat.ne_of_lt (Nat.lt_of_lt_of_le (by have := World.block_lt_of_cell? _ _ hw159_3; first | rwa [add_block] at this | exact this) GW163.out))) : P := h
theorem z3_18_ {P : Prop} (h : P := by first | exact Nat.ne_of_lt (Nat.lt_of_lt_of_le (by have := World.block_lt_of_cell? _ _ hw159_2; first | rwa [add_block] at this | exact this) GW163.out) | (rw [add_block]; exact Nat.ne_of_lt (Nat.lt_of_lt_of_le (by have := World.block_lt_of_cell? _ _ hw159_2; first | rwa [add_block] at this | exact this) GW163.out)) | (show (Addr.add _ _).block ≠ _; rw [add_block]; exact Nat.ne_of_lt (Nat.lt_of_lt_of_le (by have := World.block_lt_of_cell? _ _ hw159_2; first | rwa [add_block] at this | exact this) GW163.out)) | (dsimp only; exact Nat.ne_of_lt (Nat.lt_of_lt_of_le (by have := World.block_lt_of_cell? _ _ hw159_2; first | rwa [add_block] at this | exact this) GW163.out))) : P := h
theorem z3_19_ {P : Prop} (h : P := by first | exact Nat.ne_of_lt (Nat.lt_of_lt_of_le (by have := World.block_lt_of_cell? _ _ hw159_1; first | rwa [add_block] at this | exact this) GW163.out) | (rw [add_block]; exact Nat.ne_of_lt (Nat.lt_of_lt_of_le (by have := World.block_lt_of_cell? _ _ hw159_1; first | rwa [add_block] at this | exact this) GW163.out)) | (show (Addr.add _ _).block ≠ _; rw [add_block]; exact Nat.ne_of_lt (Nat.lt_of_lt_of_le (by have := World.block_lt_of_cell? _ _ hw159_1; first | rwa [add_block] at this | exact this) GW163.out)) | (dsimp only; exact Nat.ne_of_lt (Nat.lt_of_lt_of_le (by have := World.block_lt_of_cell? _ _ hw159_1; first | rwa [add_block] at this | exact this) GW163.out))) : P := h
theorem z3_20_ {P : Prop} (h : P := by first | exact Nat.ne_of_lt (Nat.lt_of_lt_of_le (by have := World.block_lt_of_cell? _ _ hw159_0; first | rwa [add_block] at this | exact this) GW163.out) | (rw [add_block]; exact Nat.ne_of_lt (Nat.lt_of_lt_of_le (by have := World.block_lt_of_cell? _ _ hw159_0; first | rwa [add_block] at this | exact this) GW163.out)) | (show (Addr.add _ _).block ≠ _; rw [add_block]; exact Nat.ne_of_lt (Nat.lt_of_lt_of_le (by have := World.block_lt_of_cell? _ _ hw159_0; first | rwa [add_block] at this | exact this) GW163.out)) | (dsimp only; exact Nat.ne_of_lt (Nat.lt_of_lt_of_le (by have := World.block_lt_of_cell? _ _ hw159_0; first | rwa [add_block] at this | exact this) GW163.out))) : P := h
theorem z3_21_ {P : Prop} (h : P := by first | rfl | (simp [errW_none, errW_some] <;> rfl) | (simp [*, errW_none, errW_some] <;> rfl)) : P := h
theorem z3_22_ {P : Prop} (h : P := by (with_reducible repeat (first | refine blk_drewN ?_ _ | refine blk_drew ?_ | refine blk_alloc ?_ _)); exact BK168.out) : P := h
theorem z3_23_ {P : Prop} (h : P := by repeat (first | (with_reducible first | exact HB.out | apply below_alloc | apply pw_below_drewN | apply below_drew1 | refine below_set ?_ GE179.out | refine below_set ?_ GE180.out) | exact HB.out)) : P := h
theorem z3_24_ {P : Prop} (h : P := by (with_reducible repeat (first | refine blk_drewN ?_ _ | refine blk_drew ?_ | refine blk_alloc ?_ _)); refine blk_far ?_ NB158_168.out _; (with_reducible repeat (first | refine blk_drewN ?_ _ | refine blk_drew ?_ | refine blk_alloc ?_ _)); refine blk_far ?_ NB158_168.out _; (with_reducible repeat (first | refine blk_drewN ?_ _ | refine blk_drew ?_ | refine blk_alloc ?_ _)); exact BK158.out) : P := h
theorem z3_25_ {P : Prop} (h : P := by (with_reducible repeat (first | refine blk_drewN ?_ _ | refine blk_drew ?_ | refine blk_alloc ?_ _)); refine blk_far ?_ NB157_168.out _; (with_reducible repeat (first | refine blk_drewN ?_ _ | refine blk_drew ?_ | refine blk_alloc ?_ _)); refine blk_far ?_ NB157_168.out _; (with_reducible repeat (first | refine blk_drewN ?_ _ | refine blk_drew ?_ | refine blk_alloc ?_ _)); exact BK157.out) : P := h
theorem z3_26_ {P : Prop} (h : P := by repeat (first | (with_reducible first | exact HB.out | apply below_alloc | apply pw_below_drewN | apply below_drew1 | refine below_set ?_ GE157.out) | exact HB.out)) : P := h
theorem z3_27_ {P : Prop} (h : P := by first | rfl | (simp; done) | (simp [*]; done) | (simp [isE_]; done)) : P := h
theorem z3_28_ {P : Prop} (h : P := by simp only [putAll, Act.put, sA_, sB_, sC_]) : P := h
/-! ### spec_l03Image: function 129 -/
def spec_l03Image.f (k : Nat) (l0 : List (S60)) : Option (Int × Int × Int × Int) := if 0 < (l0.length : Int) then ((spec_l03Make.f k (wrap64 (((rd_T60 l0 0).f1) - ((rd_T60 l0 0).f0))) (wrap64 (((rd_T60 l0 0).f3) - ((rd_T60 l0 0).f2)))).bind fun bt160 => ((spec_l03Make.f k (wrap64 (((rd_T60 l0 0).f1) + ((rd_T60 l0 0).f0))) (wrap64 (((rd_T60 l0 0).f3) + ((rd_T60 l0 0).f2)))).bind fun bt165 => ((spec_l03Order.f [(⟨bt165.1, bt165.2.1⟩ : S71)] [(⟨bt160.1, bt160.2.1⟩ : S71)]).bind fun t171 => (if t171 < 0 then (some (bt165.1, bt165.2.1, bt160.1, bt160.2.1)) else (some (bt160.1, bt160.2.1, bt165.1, bt165.2.1)))))) else (none)
theorem spec_l03Image.mono : ∀ a0 k, LeO (spec_l03Image.f k a0) (spec_l03Image.f (k + 1) a0) := by
 intro a0 k
 unfold spec_l03Image.f
 repeat' first
   | (with_reducible exact spec_l03Make.mono _ _ _)
   | (with_reducible exact LeO.refl _)
   | (with_reducible exact LeO.none _)
   | (with_reducible refine LeO.ite ?_ ?_)
   | (with_reducible refine LeO.bind ?_ (fun _ => ?_))
   | exact LeO.none _
   | refine LeO.ite ?_ ?_
   | refine LeO.bind ?_ (fun _ => ?_)
def spec_l03Image.T1 : Bool × List (List Nat × List Nat) := (true, [([], []), ([0], [0]), ([1], [1]), ([2], [2]), ([], []), ([4], [4]), ([5], [5]), ([6], [6]), ([3, 7], [3, 7]), ([], []), ([9], [9]), ([10], [10]), ([11], [11]), ([], []), ([13], [13]), ([14], [14]), ([15], [15]), ([12, 16], [12, 16]), ([8, 17], [8, 17]), ([18], [18]), ([19], [19]), ([19], [19]), ([], []), ([22, 20, 18, 0, 1, 2, 3, 4, 5, 6, 7, 8, 9, 10, 11, 12, 13, 14, 15, 16, 17, 18, 19, 20, 22], [20, 22]), ([21, 23, 0, 1, 2, 3, 4, 5, 6, 7, 8, 9, 10, 11, 12, 13, 14, 15, 16, 17, 18, 19, 20, 21, 22, 23], [21])])
def spec_l03Image.B1 : List Nat := [0, 1, 3, 7, 0, 16, 48, 112, 255, 0, 512, 1536, 3584, 0, 8192, 24576, 57344, 130560, 262143, 524287, 1048575, 1048575, 0, 6291455, 16777215]
theorem spec_l03Image.tab1 : rtab .any (opsOf Try.f129 1) = spec_l03Image.T1 := by kernel_rfl
theorem spec_l03Image.bits1 : waitsOk spec_l03Image.T1.2 spec_l03Image.B1 = true := by kernel_rfl
def spec_l03Image.T2 : Bool × List (List Nat × List Nat) := (true, [([], []), ([0], [0]), ([1], [1]), ([2], [2]), ([], []), ([4], [4]), ([5], [5]), ([6], [6]), ([3, 7], [3, 7]), ([], []), ([9], [9]), ([10], [10]), ([11], [11]), ([], []), ([13], [13]), ([14], [14]), ([15], [15]), ([12, 16], [12, 16]), ([8, 17], [8, 17]), ([18], [18]), ([19], [19]), ([19], [19]), ([], []), ([22, 20, 18, 0, 1, 2, 3, 4, 5, 6, 7, 8, 9, 10, 11, 12, 13, 14, 15, 16, 17, 18, 19, 20, 22], [20, 22]), ([21, 23, 0, 1, 2, 3, 4, 5, 6, 7, 8, 9, 10, 11, 12, 13, 14, 15, 16, 17, 18, 19, 20, 21, 22, 23], [21])])
def spec_l03Image.B2 : List Nat := [0, 1, 3, 7, 0, 16, 48, 112, 255, 0, 512, 1536, 3584, 0, 8192, 24576, 57344, 130560, 262143, 524287, 1048575, 1048575, 0, 6291455, 16777215]
theorem spec_l03Image.tab2 : rtab .any (opsOf Try.f129 2) = spec_l03Image.T2 := by kernel_rfl
theorem spec_l03Image.bits2 : waitsOk spec_l03Image.T2.2 spec_l03Image.B2 = true := by kernel_rfl
set_option maxHeartbeats 8000000 in
set_option maxRecDepth 100000 in
theorem spec_l03Image.calls (k : Nat) (A0 : Option Addr) (c0 : Nat) (l0 : List (S60)) (r1 : Int) (r2 : Int) (r3 : Int) (r4 : Int) (w : World) (hr0 : Kd.C k60 w A0 l0.length l0) (hc0 : l0.length ≤ c0) (h : spec_l03Image.f k l0 = some (r1, r2, r3, r4)) :
  Calls Try.prog 129 #[.pointer A0] w fun e w' => e = .returned (.tuple #[.agg #[.int .i64 r1, .int .i64 r2], .agg #[.int .i64 r3, .int .i64 r4]]) ∧ Below w.heap.size w w' := by
 have hu71 := Try.underlying71
 have HR0 := A_ hr0
 have HC0 := A_ hc0
 clear hr0 hc0
 have HB := A_ (Below.refl w.heap.size w)
 have H : (if 0 < (l0.length : Int) then ((spec_l03Make.f k (wrap64 (((rd_T60 l0 0).f1) - ((rd_T60 l0 0).f0))) (wrap64 (((rd_T60 l0 0).f3) - ((rd_T60 l0 0).f2)))).bind fun bt160 => ((spec_l03Make.f k (wrap64 (((rd_T60 l0 0).f1) + ((rd_T60 l0 0).f0))) (wrap64 (((rd_T60 l0 0).f3) + ((rd_T60 l0 0).f2)))).bind fun bt165 => ((spec_l03Order.f [(⟨bt165.1, bt165.2.1⟩ : S71)] [(⟨bt160.1, bt160.2.1⟩ : S71)]).bind fun t171 => (if t171 < 0 then (some (bt165.1, bt165.2.1, bt160.1, bt160.2.1)) else (some (bt160.1, bt160.2.1, bt165.1, bt165.2.1)))))) else (none)) = some (r1, r2, r3, r4) := h
 clear h
 by_cases c2 : 0 < (l0.length : Int)
 ·
  rw [if_pos c2] at H
  have c2b0 := decide_eq_true c2
  have c2b1 : decide (0 < l0.length) = true := decide_eq_true (by omega)
  clear c2
  replace H := Option.bind_eq_some_iff.mp H
  obtain ⟨⟨t160, t161, t162⟩, A30, H⟩ := H
  try dsimp only at H
  have A3 := A_ A30
  clear A30
  replace H := Option.bind_eq_some_iff.mp H
  obtain ⟨⟨t165, t166, t167⟩, A40, H⟩ := H
  try dsimp only at H
  have A4 := A_ A40
  clear A40
  replace H := Option.bind_eq_some_iff.mp H
  obtain ⟨t171, A50, H⟩ := H
  try dsimp only at H
  have A5 := A_ A50
  clear A50
  have HZ_ := A_ H
  clear H
  go_enter Try.func129, Try.ntmps129
  try go_wp2_with (first | ((with_reducible refine gate_dst (N := 2) rfl ?_); refine box_event ?hg (N := 2) ?hd (cs := #[.int .i64 0, .int .i64 0]) (t := 71) ?hr ?_; (case hd => rfl); (case hg => rfl); (case hr => first | (go_simp; done) | (go_simp; rfl)); intro gb157 hg w7 hbox hb; have _ := A_ (below_step z3_1_ hb); have _ := A_ (hbox); have _ := A_ ((by rw [hg]; exact (below_size z3_1_) : w.heap.size ≤ gb157)); have _ := A_ ((by rw [hg]; exact (below_size z3_1_) : w.heap.size ≤ gb157)); clear HB; rename_i HB BK157 GW157 GE157; clear hb hbox hg) | ((with_reducible refine gate_dst (N := 3) rfl ?_); refine box_event ?hg (N := 3) ?hd (cs := #[.int .i64 0, .int .i64 0]) (t := 71) ?hr ?_; (case hd => rfl); (case hg => rfl); (case hr => first | (go_simp; done) | (go_simp; rfl)); intro gb158 hg w8 hbox hb; have _ := A_ (blk_below (g := gb157) (o := .cells #[.int .i64 0, .int .i64 0] 71 (0, 0)) z3_2_ hb); have _ := A_ (below_step z3_26_ hb); have _ := A_ (hbox); have _ := A_ ((by rw [hg]; exact (below_size z3_26_) : w.heap.size ≤ gb158)); have _ := A_ ((by rw [hg]; exact (below_size z3_26_) : w.heap.size ≤ gb158)); have _ := A_ ((by rw [hg]; exact Nat.ne_of_lt (blk_lt (g := gb157) (o := .cells #[.int .i64 0, .int .i64 0] 71 (0, 0)) z3_2_) : gb157 ≠ gb158)); have _ := A_ ((by rw [hg]; exact Nat.ne_of_gt (blk_lt (g := gb157) (o := .cells #[.int .i64 0, .int .i64 0] 71 (0, 0)) z3_2_) : gb158 ≠ gb157)); clear BK157 HB; rename_i BK157 HB BK158 GW158 GE158 NB157_158 NB158_157; clear hb hbox hg))
  have _ := A_ (blk_drew BK157.out)
  have _ := A_ (blk_drew BK158.out)
  have _ := A_ (below_drew1 HB.out)
  clear BK157 BK158 HB
  rename_i BK157 BK158 HB
  have q159 : 0 < (l0.length : Int) := of_decide_eq_true (by assumption)
  obtain ⟨ad159, e159, hx159_0, hx159_1, hx159_2, hx159_3⟩ := rp_T60 HR0.out q159
  have hw159_3 := hx159_3
  have hw159_2 := hx159_2
  have hw159_1 := hx159_1
  have hw159_0 := hx159_0
  cases e159
  replace hx159_0 := cel HB.out hx159_0
  replace hx159_1 := cel HB.out hx159_1
  replace hx159_2 := cel HB.out hx159_2
  replace hx159_3 := cel HB.out hx159_3
  refine start_ (n := 25) (S := fun w' => w'.cell? ad159 = some (.int .i64 ((rd_T60 l0 0).f0)) ∧ w'.cell? ⟨ad159.block, ad159.off + 1, none⟩ = some (.int .i64 ((rd_T60 l0 0).f1)) ∧ w'.cell? ⟨ad159.block, ad159.off + 2, none⟩ = some (.int .i64 ((rd_T60 l0 0).f2)) ∧ w'.cell? ⟨ad159.block, ad159.off + 3, none⟩ = some (.int .i64 ((rd_T60 l0 0).f3))) (ds := []) #[false, false, false, false, false, false, false, false, false, false, false, false, false, false, false, false, false, false, false, false, false, false, false, false, false] (by kernel_rfl) rfl rfl ⟨(cel HB.out hw159_0 :), (cel HB.out hw159_1 :), (cel HB.out hw159_2 :), (cel HB.out hw159_3 :)⟩ (fun hHeld => ?_); refine with_tabW spec_l03Image.tab1 spec_l03Image.bits1 (fun HT_ HW_ => ?_)
  generalize w8.drew = w9 at BK157 BK158 HB hx159_0 hx159_1 hx159_2 hx159_3 hHeld ⊢
  refine pure_ (i := 0) (N := some 9) (v := ?_) (a' := ?_) #[true, false, false, false, false, false, false, false, false, false, false, false, false, false, false, false, false, false, false, false, false, false, false, false, false] rfl rfl (any_of HT_.out (by kernel_rfl)) (fun _ _ _ h => h) (Or.inl ⟨by rfl, ?_⟩) ?_ ?_
  rotate_left
  ·
   intro w'
   go_simp
   with_reducible rfl
  rotate_left
  ·
   simp only [Act.put, sA_, sB_, sC_, i64_w, i32_w]
   rfl
  refine pure_ (i := 1) (N := some 10) (v := ?_) (a' := ?_) #[true, true, false, false, false, false, false, false, false, false, false, false, false, false, false, false, false, false, false, false, false, false, false, false, false] rfl rfl (any_of HT_.out (by kernel_rfl)) (fun _ _ _ h => h) (Or.inl ⟨by rfl, ?_⟩) ?_ ?_
  rotate_left
  ·
   intro w'
   go_simp
   with_reducible rfl
  rotate_left
  ·
   simp only [Act.put, sA_, sB_, sC_, i64_w, i32_w]
   rfl
  refine pure_ (i := 2) (N := some 11) (v := ?_) (a' := ?_) #[true, true, true, false, false, false, false, false, false, false, false, false, false, false, false, false, false, false, false, false, false, false, false, false, false] rfl rfl (any_of HT_.out (by kernel_rfl)) (fun _ _ _ h => h) (Or.inl ⟨by rfl, ?_⟩) ?_ ?_
  rotate_left
  ·
   intro w'
   go_simp
   with_reducible rfl
  rotate_left
  ·
   simp only [Act.put, sA_, sB_, sC_, i64_w, i32_w]
   rfl
  refine pure_ (i := 4) (N := some 13) (v := ?_) (a' := ?_) #[true, true, true, false, true, false, false, false, false, false, false, false, false, false, false, false, false, false, false, false, false, false, false, false, false] rfl rfl (any_of HT_.out (by kernel_rfl)) (fun _ _ _ h => h) (Or.inl ⟨by rfl, ?_⟩) ?_ ?_
  rotate_left
  ·
   intro w'
   go_simp
   with_reducible rfl
  rotate_left
  ·
   simp only [Act.put, sA_, sB_, sC_, i64_w, i32_w]
   rfl
  refine pure_ (i := 5) (N := some 14) (v := ?_) (a' := ?_) #[true, true, true, false, true, true, false, false, false, false, false, false, false, false, false, false, false, false, false, false, false, false, false, false, false] rfl rfl (any_of HT_.out (by kernel_rfl)) (fun _ _ _ h => h) (Or.inl ⟨by rfl, ?_⟩) ?_ ?_
  rotate_left
  ·
   intro w'
   go_simp
   with_reducible rfl
  rotate_left
  ·
   simp only [Act.put, sA_, sB_, sC_, i64_w, i32_w]
   rfl
  refine pure_ (i := 6) (N := some 15) (v := ?_) (a' := ?_) #[true, true, true, false, true, true, true, false, false, false, false, false, false, false, false, false, false, false, false, false, false, false, false, false, false] rfl rfl (any_of HT_.out (by kernel_rfl)) (fun _ _ _ h => h) (Or.inl ⟨by rfl, ?_⟩) ?_ ?_
  rotate_left
  ·
   intro w'
   go_simp
   with_reducible rfl
  rotate_left
  ·
   simp only [Act.put, sA_, sB_, sC_, i64_w, i32_w]
   rfl
  refine pure_ (i := 9) (N := some 18) (v := ?_) (a' := ?_) #[true, true, true, false, true, true, true, false, false, true, false, false, false, false, false, false, false, false, false, false, false, false, false, false, false] rfl rfl (any_of HT_.out (by kernel_rfl)) (fun _ _ _ h => h) (Or.inl ⟨by rfl, ?_⟩) ?_ ?_
  rotate_left
  ·
   intro w'
   go_simp
   with_reducible rfl
  rotate_left
  ·
   simp only [Act.put, sA_, sB_, sC_, i64_w, i32_w]
   rfl
  refine pure_ (i := 10) (N := some 19) (v := ?_) (a' := ?_) #[true, true, true, false, true, true, true, false, false, true, true, false, false, false, false, false, false, false, false, false, false, false, false, false, false] rfl rfl (any_of HT_.out (by kernel_rfl)) (fun _ _ _ h => h) (Or.inl ⟨by rfl, ?_⟩) ?_ ?_
  rotate_left
  ·
   intro w'
   go_simp
   with_reducible rfl
  rotate_left
  ·
   simp only [Act.put, sA_, sB_, sC_, i64_w, i32_w]
   rfl
  refine pure_ (i := 11) (N := some 20) (v := ?_) (a' := ?_) #[true, true, true, false, true, true, true, false, false, true, true, true, false, false, false, false, false, false, false, false, false, false, false, false, false] rfl rfl (any_of HT_.out (by kernel_rfl)) (fun _ _ _ h => h) (Or.inl ⟨by rfl, ?_⟩) ?_ ?_
  rotate_left
  ·
   intro w'
   go_simp
   with_reducible rfl
  rotate_left
  ·
   simp only [Act.put, sA_, sB_, sC_, i64_w, i32_w]
   rfl
  refine pure_ (i := 13) (N := some 22) (v := ?_) (a' := ?_) #[true, true, true, false, true, true, true, false, false, true, true, true, false, true, false, false, false, false, false, false, false, false, false, false, false] rfl rfl (any_of HT_.out (by kernel_rfl)) (fun _ _ _ h => h) (Or.inl ⟨by rfl, ?_⟩) ?_ ?_
  rotate_left
  ·
   intro w'
   go_simp
   with_reducible rfl
  rotate_left
  ·
   simp only [Act.put, sA_, sB_, sC_, i64_w, i32_w]
   rfl
  refine pure_ (i := 14) (N := some 23) (v := ?_) (a' := ?_) #[true, true, true, false, true, true, true, false, false, true, true, true, false, true, true, false, false, false, false, false, false, false, false, false, false] rfl rfl (any_of HT_.out (by kernel_rfl)) (fun _ _ _ h => h) (Or.inl ⟨by rfl, ?_⟩) ?_ ?_
  rotate_left
  ·
   intro w'
   go_simp
   with_reducible rfl
  rotate_left
  ·
   simp only [Act.put, sA_, sB_, sC_, i64_w, i32_w]
   rfl
  refine pure_ (i := 15) (N := some 24) (v := ?_) (a' := ?_) #[true, true, true, false, true, true, true, false, false, true, true, true, false, true, true, true, false, false, false, false, false, false, false, false, false] rfl rfl (any_of HT_.out (by kernel_rfl)) (fun _ _ _ h => h) (Or.inl ⟨by rfl, ?_⟩) ?_ ?_
  rotate_left
  ·
   intro w'
   go_simp
   with_reducible rfl
  rotate_left
  ·
   simp only [Act.put, sA_, sB_, sC_, i64_w, i32_w]
   rfl
  refine take_ (i := 3) (N := some 12) (v := ?_) (a' := ?_) #[true, true, true, true, true, true, true, false, false, true, true, true, false, true, true, true, false, false, false, false, false, false, false, false, false] rfl rfl (take_ofW HT_.out HW_.out (by kernel_rfl)) (fun _ _ _ h => h) (Or.inl ⟨by rfl, ?_⟩) hHeld ?_ ?_
  rotate_left
  ·
   rintro w' ⟨s0, s1, s2, s3⟩
   go_simp
   with_reducible rfl
  rotate_left
  ·
   simp only [Act.put, sA_, sB_, sC_, i64_w, i32_w]
   rfl
  refine take_ (i := 7) (N := some 16) (v := ?_) (a' := ?_) #[true, true, true, true, true, true, true, true, false, true, true, true, false, true, true, true, false, false, false, false, false, false, false, false, false] rfl rfl (take_ofW HT_.out HW_.out (by kernel_rfl)) (fun _ _ _ h => h) (Or.inl ⟨by rfl, ?_⟩) hHeld ?_ ?_
  rotate_left
  ·
   rintro w' ⟨s0, s1, s2, s3⟩
   go_simp
   with_reducible rfl
  rotate_left
  ·
   simp only [Act.put, sA_, sB_, sC_, i64_w, i32_w]
   rfl
  refine pure_ (i := 8) (N := some 17) (v := ?_) (a' := ?_) #[true, true, true, true, true, true, true, true, true, true, true, true, false, true, true, true, false, false, false, false, false, false, false, false, false] rfl rfl (any_of HT_.out (by kernel_rfl)) (fun _ _ _ h => h) (Or.inl ⟨by rfl, ?_⟩) ?_ ?_
  rotate_left
  ·
   intro w'
   go_simp
   with_reducible rfl
  rotate_left
  ·
   simp only [Act.put, sA_, sB_, sC_, i64_w, i32_w]
   rfl
  refine take_ (i := 12) (N := some 21) (v := ?_) (a' := ?_) #[true, true, true, true, true, true, true, true, true, true, true, true, true, true, true, true, false, false, false, false, false, false, false, false, false] rfl rfl (take_ofW HT_.out HW_.out (by kernel_rfl)) (fun _ _ _ h => h) (Or.inl ⟨by rfl, ?_⟩) hHeld ?_ ?_
  rotate_left
  ·
   rintro w' ⟨s0, s1, s2, s3⟩
   go_simp
   with_reducible rfl
  rotate_left
  ·
   simp only [Act.put, sA_, sB_, sC_, i64_w, i32_w]
   rfl
  refine take_ (i := 16) (N := some 25) (v := ?_) (a' := ?_) #[true, true, true, true, true, true, true, true, true, true, true, true, true, true, true, true, true, false, false, false, false, false, false, false, false] rfl rfl (take_ofW HT_.out HW_.out (by kernel_rfl)) (fun _ _ _ h => h) (Or.inl ⟨by rfl, ?_⟩) hHeld ?_ ?_
  rotate_left
  ·
   rintro w' ⟨s0, s1, s2, s3⟩
   go_simp
   with_reducible rfl
  rotate_left
  ·
   simp only [Act.put, sA_, sB_, sC_, i64_w, i32_w]
   rfl
  refine pure_ (i := 17) (N := some 26) (v := ?_) (a' := ?_) #[true, true, true, true, true, true, true, true, true, true, true, true, true, true, true, true, true, true, false, false, false, false, false, false, false] rfl rfl (any_of HT_.out (by kernel_rfl)) (fun _ _ _ h => h) (Or.inl ⟨by rfl, ?_⟩) ?_ ?_
  rotate_left
  ·
   intro w'
   go_simp
   with_reducible rfl
  rotate_left
  ·
   simp only [Act.put, sA_, sB_, sC_, i64_w, i32_w]
   rfl
  refine join_ (σ := Nat) 2 #[true, true, true, true, true, true, true, true, true, true, true, true, true, true, true, true, true, true, true, true, true, true, true, false, false] (fun s_ => [(27, .tuple #[.agg #[.int .i64 t160, .int .i64 t161], .int .i64 t162]), (4, .pointer (some ⟨s_, 0, none⟩)), (8, .tuple #[.agg #[.int .i64 t160, .int .i64 t161], .int .i64 t162]), (28, .agg #[.int .i64 t160, .int .i64 t161]), (29, .int .i64 t162)]) (fun s_ w' => (w'.cell? ad159 = some (.int .i64 ((rd_T60 l0 0).f0)) ∧ w'.cell? ⟨ad159.block, ad159.off + 1, none⟩ = some (.int .i64 ((rd_T60 l0 0).f1)) ∧ w'.cell? ⟨ad159.block, ad159.off + 2, none⟩ = some (.int .i64 ((rd_T60 l0 0).f2)) ∧ w'.cell? ⟨ad159.block, ad159.off + 3, none⟩ = some (.int .i64 ((rd_T60 l0 0).f3))) ∧ (w'.heap[gb157]? = some (.cells #[.int .i64 0, .int .i64 0] 71 (0, 0))) ∧ (w'.heap[gb158]? = some (.cells #[.int .i64 0, .int .i64 0] 71 (0, 0))) ∧ (w'.heap[s_]? = some (.cells #[.int .i64 0, .int .i64 0] 71 (0, 0))) ∧ (w.heap.size ≤ s_) ∧ (w.heap.size ≤ s_) ∧ (gb157 ≠ s_) ∧ (s_ ≠ gb157) ∧ (gb158 ≠ s_) ∧ (s_ ≠ gb158) ∧ (Below w.heap.size w w')) ?_ ?_
  rotate_left
  ·
   intro hCont
   refine two_ (i := 18) (j := 22) (Ni := some 27) (Nj := some 4) #[true, true, true, true, true, true, true, true, true, true, true, true, true, true, true, true, true, true, true, false, false, false, false, false, false] #[true, true, true, true, true, true, true, true, true, true, true, true, true, true, true, true, true, true, false, false, false, false, true, false, false] rfl rfl rfl rfl (two_of HT_.out (by kernel_rfl)) (by decide) (by decide) (fun K hK => ?_) (fun K hK => ?_)
   ·
    skip
    refine goes_ Try.func106 (by kernel_rfl) rfl #[.int .i64 (wrap64 (((rd_T60 l0 0).f1) - ((rd_T60 l0 0).f0))), .int .i64 (wrap64 (((rd_T60 l0 0).f3) - ((rd_T60 l0 0).f2)))] (by rfl) rfl rfl z3_6_ ?_
    with_reducible refine (spec_l03Make.calls k (wrap64 (((rd_T60 l0 0).f1) - ((rd_T60 l0 0).f0))) (wrap64 (((rd_T60 l0 0).f3) - ((rd_T60 l0 0).f2))) t160 t161 t162 _ A3.out).mono ?_
    rintro e w10 ⟨rfl, hb⟩
    refine ⟨_, rfl, ?_⟩
    have _ := A_ (blk_below (g := gb157) (o := .cells #[.int .i64 0, .int .i64 0] 71 (0, 0)) z3_2_ hb)
    have _ := A_ (blk_below (g := gb158) (o := .cells #[.int .i64 0, .int .i64 0] 71 (0, 0)) z3_3_ hb)
    have _ := A_ (below_step z3_10_ hb)
    clear BK157 BK158 HB
    rename_i BK157 BK158 HB
    (try clear hb)
    (try clear hb2)
    (try clear hk)
    (try clear hi)
    refine hK.out _ _ ⟨(cel HB.out hw159_0 :), (cel HB.out hw159_1 :), (cel HB.out hw159_2 :), (cel HB.out hw159_3 :)⟩ (fun hHeld => ?_)
    clear hK K
    refine norm_ (a' := ?_) ?_ ?_
    rotate_left
    ·
     show Act.put _ (some 27) _ = _
     simp only [Act.put, sA_, sB_, sC_, i64_w, i32_w]
     rfl
    refine pure_ (i := 19) (N := some 8) (v := ?_) (a' := ?_) #[true, true, true, true, true, true, true, true, true, true, true, true, true, true, true, true, true, true, true, true, false, false, false, false, false] rfl rfl (any_of HT_.out (by kernel_rfl)) (fun _ _ _ h => h) (Or.inl ⟨by rfl, ?_⟩) ?_ ?_
    rotate_left
    ·
     intro w'
     go_simp
     with_reducible rfl
    rotate_left
    ·
     simp only [Act.put, sA_, sB_, sC_, i64_w, i32_w]
     rfl
    refine pure_ (i := 20) (N := some 28) (v := ?_) (a' := ?_) #[true, true, true, true, true, true, true, true, true, true, true, true, true, true, true, true, true, true, true, true, true, false, false, false, false] rfl rfl (any_of HT_.out (by kernel_rfl)) (fun _ _ _ h => h) (Or.inl ⟨by rfl, ?_⟩) ?_ ?_
    rotate_left
    ·
     intro w'
     go_simp
     with_reducible rfl
    rotate_left
    ·
     simp only [Act.put, sA_, sB_, sC_, i64_w, i32_w]
     rfl
    refine pure_ (i := 21) (N := some 29) (v := ?_) (a' := ?_) #[true, true, true, true, true, true, true, true, true, true, true, true, true, true, true, true, true, true, true, true, true, true, false, false, false] rfl rfl (any_of HT_.out (by kernel_rfl)) (fun _ _ _ h => h) (Or.inl ⟨by rfl, ?_⟩) ?_ ?_
    rotate_left
    ·
     intro w'
     go_simp
     with_reducible rfl
    rotate_left
    ·
     simp only [Act.put, sA_, sB_, sC_, i64_w, i32_w]
     rfl
    refine one_ (i := 22) (N := some 4) #[true, true, true, true, true, true, true, true, true, true, true, true, true, true, true, true, true, true, true, true, true, true, true, false, false] rfl rfl (one_of HT_.out (by kernel_rfl)) (by decide) (fun K hK => ?_)
    refine box_step ?hg (N := 4) ?hd (cs := #[.int .i64 0, .int .i64 0]) (t := 71) ?hr ?_; (case hd => rfl); (case hg => rfl); (case hr => first | (go_simp; done) | (go_simp; rfl))
    intro gb163 hg w11 hbox hb
    have _ := A_ (blk_below (g := gb157) (o := .cells #[.int .i64 0, .int .i64 0] 71 (0, 0)) z3_2_ hb)
    have _ := A_ (blk_below (g := gb158) (o := .cells #[.int .i64 0, .int .i64 0] 71 (0, 0)) z3_3_ hb)
    have _ := A_ (below_step z3_10_ hb)
    have _ := A_ (hbox)
    have _ := A_ ((by rw [hg]; exact (below_size z3_10_) : w.heap.size ≤ gb163))
    have _ := A_ ((by rw [hg]; exact (below_size z3_10_) : w.heap.size ≤ gb163))
    have _ := A_ ((by rw [hg]; exact Nat.ne_of_lt (blk_lt (g := gb157) (o := .cells #[.int .i64 0, .int .i64 0] 71 (0, 0)) z3_2_) : gb157 ≠ gb163))
    have _ := A_ ((by rw [hg]; exact Nat.ne_of_gt (blk_lt (g := gb157) (o := .cells #[.int .i64 0, .int .i64 0] 71 (0, 0)) z3_2_) : gb163 ≠ gb157))
    have _ := A_ ((by rw [hg]; exact Nat.ne_of_lt (blk_lt (g := gb158) (o := .cells #[.int .i64 0, .int .i64 0] 71 (0, 0)) z3_3_) : gb158 ≠ gb163))
    have _ := A_ ((by rw [hg]; exact Nat.ne_of_gt (blk_lt (g := gb158) (o := .cells #[.int .i64 0, .int .i64 0] 71 (0, 0)) z3_3_) : gb163 ≠ gb158))
    clear BK157 BK158 HB
    rename_i BK157 BK158 HB BK163 GW163 GE163 NB157_163 NB163_157 NB158_163 NB163_158
    clear hb hbox hg
    refine hK.out _ _ ⟨(cel HB.out hw159_0 :), (cel HB.out hw159_1 :), (cel HB.out hw159_2 :), (cel HB.out hw159_3 :)⟩ (fun hHeld => ?_)
    clear hK K
    refine norm_ (a' := ?_) ?_ ?_
    rotate_left
    ·
     show Act.put _ (some 4) _ = _
     simp only [Act.put, sA_, sB_, sC_, i64_w, i32_w]
     rfl
    exact norm_ z3_28_ (hCont (gb163) _ ⟨hHeld, z3_2_, z3_3_, z3_7_, GW163.out, GE163.out, NB157_163.out, NB163_157.out, NB158_163.out, NB163_158.out, z3_4_⟩)
   ·
    skip
    refine box_step ?hg (N := 4) ?hd (cs := #[.int .i64 0, .int .i64 0]) (t := 71) ?hr ?_; (case hd => rfl); (case hg => rfl); (case hr => first | (go_simp; done) | (go_simp; rfl))
    intro gb163 hg w10 hbox hb
    have _ := A_ (blk_below (g := gb157) (o := .cells #[.int .i64 0, .int .i64 0] 71 (0, 0)) z3_2_ hb)
    have _ := A_ (blk_below (g := gb158) (o := .cells #[.int .i64 0, .int .i64 0] 71 (0, 0)) z3_3_ hb)
    have _ := A_ (below_step z3_10_ hb)
    have _ := A_ (hbox)
    have _ := A_ ((by rw [hg]; exact (below_size z3_10_) : w.heap.size ≤ gb163))
    have _ := A_ ((by rw [hg]; exact (below_size z3_10_) : w.heap.size ≤ gb163))
    have _ := A_ ((by rw [hg]; exact Nat.ne_of_lt (blk_lt (g := gb157) (o := .cells #[.int .i64 0, .int .i64 0] 71 (0, 0)) z3_2_) : gb157 ≠ gb163))
    have _ := A_ ((by rw [hg]; exact Nat.ne_of_gt (blk_lt (g := gb157) (o := .cells #[.int .i64 0, .int .i64 0] 71 (0, 0)) z3_2_) : gb163 ≠ gb157))
    have _ := A_ ((by rw [hg]; exact Nat.ne_of_lt (blk_lt (g := gb158) (o := .cells #[.int .i64 0, .int .i64 0] 71 (0, 0)) z3_3_) : gb158 ≠ gb163))
    have _ := A_ ((by rw [hg]; exact Nat.ne_of_gt (blk_lt (g := gb158) (o := .cells #[.int .i64 0, .int .i64 0] 71 (0, 0)) z3_3_) : gb163 ≠ gb158))
    clear BK157 BK158 HB
    rename_i BK157 BK158 HB BK163 GW163 GE163 NB157_163 NB163_157 NB158_163 NB163_158
    clear hb hbox hg
    refine hK.out _ _ ⟨(cel HB.out hw159_0 :), (cel HB.out hw159_1 :), (cel HB.out hw159_2 :), (cel HB.out hw159_3 :)⟩ (fun hHeld => ?_)
    clear hK K
    refine norm_ (a' := ?_) ?_ ?_
    rotate_left
    ·
     show Act.put _ (some 4) _ = _
     simp only [Act.put, sA_, sB_, sC_, i64_w, i32_w]
     rfl
    refine one_ (i := 18) (N := some 27) #[true, true, true, true, true, true, true, true, true, true, true, true, true, true, true, true, true, true, true, false, false, false, true, false, false] rfl rfl (one_of HT_.out (by kernel_rfl)) (by decide) (fun K hK => ?_)
    refine goes_ Try.func106 (by kernel_rfl) rfl #[.int .i64 (wrap64 (((rd_T60 l0 0).f1) - ((rd_T60 l0 0).f0))), .int .i64 (wrap64 (((rd_T60 l0 0).f3) - ((rd_T60 l0 0).f2)))] (by rfl) rfl rfl z3_6_ ?_
    with_reducible refine (spec_l03Make.calls k (wrap64 (((rd_T60 l0 0).f1) - ((rd_T60 l0 0).f0))) (wrap64 (((rd_T60 l0 0).f3) - ((rd_T60 l0 0).f2))) t160 t161 t162 _ A3.out).mono ?_
    rintro e w11 ⟨rfl, hb⟩
    refine ⟨_, rfl, ?_⟩
    have _ := A_ (blk_below (g := gb157) (o := .cells #[.int .i64 0, .int .i64 0] 71 (0, 0)) z3_2_ hb)
    have _ := A_ (blk_below (g := gb158) (o := .cells #[.int .i64 0, .int .i64 0] 71 (0, 0)) z3_3_ hb)
    have _ := A_ (blk_below (g := gb163) (o := .cells #[.int .i64 0, .int .i64 0] 71 (0, 0)) z3_7_ hb)
    have _ := A_ (below_step z3_4_ hb)
    clear BK157 BK158 BK163 HB
    rename_i BK157 BK158 BK163 HB
    (try clear hb)
    (try clear hb2)
    (try clear hk)
    (try clear hi)
    refine hK.out _ _ ⟨(cel HB.out hw159_0 :), (cel HB.out hw159_1 :), (cel HB.out hw159_2 :), (cel HB.out hw159_3 :)⟩ (fun hHeld => ?_)
    clear hK K
    refine norm_ (a' := ?_) ?_ ?_
    rotate_left
    ·
     show Act.put _ (some 27) _ = _
     simp only [Act.put, sA_, sB_, sC_, i64_w, i32_w]
     rfl
    refine pure_ (i := 19) (N := some 8) (v := ?_) (a' := ?_) #[true, true, true, true, true, true, true, true, true, true, true, true, true, true, true, true, true, true, true, true, false, false, true, false, false] rfl rfl (any_of HT_.out (by kernel_rfl)) (fun _ _ _ h => h) (Or.inl ⟨by rfl, ?_⟩) ?_ ?_
    rotate_left
    ·
     intro w'
     go_simp
     with_reducible rfl
    rotate_left
    ·
     simp only [Act.put, sA_, sB_, sC_, i64_w, i32_w]
     rfl
    refine pure_ (i := 20) (N := some 28) (v := ?_) (a' := ?_) #[true, true, true, true, true, true, true, true, true, true, true, true, true, true, true, true, true, true, true, true, true, false, true, false, false] rfl rfl (any_of HT_.out (by kernel_rfl)) (fun _ _ _ h => h) (Or.inl ⟨by rfl, ?_⟩) ?_ ?_
    rotate_left
    ·
     intro w'
     go_simp
     with_reducible rfl
    rotate_left
    ·
     simp only [Act.put, sA_, sB_, sC_, i64_w, i32_w]
     rfl
    refine pure_ (i := 21) (N := some 29) (v := ?_) (a' := ?_) #[true, true, true, true, true, true, true, true, true, true, true, true, true, true, true, true, true, true, true, true, true, true, true, false, false] rfl rfl (any_of HT_.out (by kernel_rfl)) (fun _ _ _ h => h) (Or.inl ⟨by rfl, ?_⟩) ?_ ?_
    rotate_left
    ·
     intro w'
     go_simp
     with_reducible rfl
    rotate_left
    ·
     simp only [Act.put, sA_, sB_, sC_, i64_w, i32_w]
     rfl
    exact norm_ z3_28_ (hCont (gb163) _ ⟨hHeld, z3_2_, z3_3_, z3_7_, GW163.out, GE163.out, NB157_163.out, NB163_157.out, NB158_163.out, NB163_158.out, z3_4_⟩)
  rintro gb163 w12 ⟨hS_, h0_, h1_, h2_, h3_, h4_, h5_, h6_, h7_, h8_, h9_⟩
  have n0_ : Aside0 (w12.heap[gb157]? = some (.cells #[.int .i64 0, .int .i64 0] 71 (0, 0))) := ⟨h0_⟩
  have n1_ : Aside0 (w12.heap[gb158]? = some (.cells #[.int .i64 0, .int .i64 0] 71 (0, 0))) := ⟨h1_⟩
  have n2_ : Aside0 (w12.heap[gb163]? = some (.cells #[.int .i64 0, .int .i64 0] 71 (0, 0))) := ⟨h2_⟩
  have n3_ : Aside0 (w.heap.size ≤ gb163) := ⟨h3_⟩
  have n4_ : Aside0 (w.heap.size ≤ gb163) := ⟨h4_⟩
  have n5_ : Aside0 (gb157 ≠ gb163) := ⟨h5_⟩
  have n6_ : Aside0 (gb163 ≠ gb157) := ⟨h6_⟩
  have n7_ : Aside0 (gb158 ≠ gb163) := ⟨h7_⟩
  have n8_ : Aside0 (gb163 ≠ gb158) := ⟨h8_⟩
  have n9_ : Aside0 (Below w.heap.size w w12) := ⟨h9_⟩
  clear BK157
  clear BK158
  clear HB
  clear h0_ h1_ h2_ h3_ h4_ h5_ h6_ h7_ h8_ h9_
  have BK157 := n0_
  have BK158 := n1_
  have BK163 := n2_
  have GW163 := n3_
  have GE163 := n4_
  have NB157_163 := n5_
  have NB163_157 := n6_
  have NB158_163 := n7_
  have NB163_158 := n8_
  have HB := n9_
  clear n0_ n1_ n2_ n3_ n4_ n5_ n6_ n7_ n8_ n9_
  have hHeld : w12.cell? ad159 = some (.int .i64 ((rd_T60 l0 0).f0)) ∧ w12.cell? ⟨ad159.block, ad159.off + 1, none⟩ = some (.int .i64 ((rd_T60 l0 0).f1)) ∧ w12.cell? ⟨ad159.block, ad159.off + 2, none⟩ = some (.int .i64 ((rd_T60 l0 0).f2)) ∧ w12.cell? ⟨ad159.block, ad159.off + 3, none⟩ = some (.int .i64 ((rd_T60 l0 0).f3)) := hS_
  refine norm_ (a' := ?_) ?_ ?_
  rotate_left
  ·
   simp only [putAll, Act.put, sA_, sB_, sC_]
   rfl
  refine one_ (i := 23) (N := none) #[true, true, true, true, true, true, true, true, true, true, true, true, true, true, true, true, true, true, true, true, true, true, true, true, false] rfl rfl (one_of HT_.out (by kernel_rfl)) (by decide) (fun K hK => ?_)
  have hs13 : w12.cell? ⟨gb163, 0, none⟩ = some (.int .i64 0) := (blk_cell BK163.out 0).trans rfl
  have hfs13 := blk_frozen BK163.out 0
  have hns13_0 := NB157_163.out
  have hns13_1 := NB158_163.out
  have hms13_0 := NB163_157.out
  have hms13_1 := NB163_158.out
  have hs14 : w12.cell? ⟨gb163, 1, none⟩ = some (.int .i64 0) := (blk_cell BK163.out 1).trans rfl
  have hfs14 := blk_frozen BK163.out 1
  have hns14_0 := NB157_163.out
  have hns14_1 := NB158_163.out
  have hms14_0 := NB163_157.out
  have hms14_1 := NB163_158.out
  refine skip_ (w1 := ?_) (by rfl) rfl ?_ ?_
  rotate_left
  ·
   go_simp
   rfl
  refine hK.out _ _ ⟨((cell_far (p := ⟨gb163, _, none⟩) z3_20_ _).trans (((cell_far (p := ⟨gb163, _, none⟩) z3_20_ _).trans (hHeld.1)))), ((cell_far (p := ⟨gb163, _, none⟩) z3_19_ _).trans (((cell_far (p := ⟨gb163, _, none⟩) z3_19_ _).trans (hHeld.2.1)))), ((cell_far (p := ⟨gb163, _, none⟩) z3_18_ _).trans (((cell_far (p := ⟨gb163, _, none⟩) z3_18_ _).trans (hHeld.2.2.1)))), ((cell_far (p := ⟨gb163, _, none⟩) z3_17_ _).trans (((cell_far (p := ⟨gb163, _, none⟩) z3_17_ _).trans (hHeld.2.2.2))))⟩ (fun hHeld => ?_)
  clear hK K
  refine pure_ (i := 24) (N := some 5) (v := ?_) (a' := ?_) #[true, true, true, true, true, true, true, true, true, true, true, true, true, true, true, true, true, true, true, true, true, true, true, true, true] rfl rfl (any_of HT_.out (by kernel_rfl)) (fun _ _ _ h => h) (Or.inl ⟨by rfl, ?_⟩) ?_ ?_
  rotate_left
  ·
   intro w'
   go_simp
   with_reducible rfl
  rotate_left
  ·
   simp only [Act.put, sA_, sB_, sC_, i64_w, i32_w]
   rfl
  refine done_ (done_of HT_.out (by kernel_rfl)) ?_
  try go_wp2
  have n0_ : Aside0 (((w12.setCell ⟨gb163, 0, none⟩ (.int .i64 t160)).setCell ⟨gb163, 1, none⟩ (.int .i64 t161)).heap[gb157]? = some (.cells #[.int .i64 0, .int .i64 0] 71 (0, 0))) := ⟨(by (with_reducible repeat (first | refine blk_drewN ?_ _ | refine blk_drew ?_ | refine blk_alloc ?_ _)); refine blk_far ?_ NB157_163.out _; (with_reducible repeat (first | refine blk_drewN ?_ _ | refine blk_drew ?_ | refine blk_alloc ?_ _)); refine blk_far ?_ NB157_163.out _; (with_reducible repeat (first | refine blk_drewN ?_ _ | refine blk_drew ?_ | refine blk_alloc ?_ _)); exact BK157.out)⟩
  have n1_ : Aside0 (((w12.setCell ⟨gb163, 0, none⟩ (.int .i64 t160)).setCell ⟨gb163, 1, none⟩ (.int .i64 t161)).heap[gb158]? = some (.cells #[.int .i64 0, .int .i64 0] 71 (0, 0))) := ⟨(by (with_reducible repeat (first | refine blk_drewN ?_ _ | refine blk_drew ?_ | refine blk_alloc ?_ _)); refine blk_far ?_ NB158_163.out _; (with_reducible repeat (first | refine blk_drewN ?_ _ | refine blk_drew ?_ | refine blk_alloc ?_ _)); refine blk_far ?_ NB158_163.out _; (with_reducible repeat (first | refine blk_drewN ?_ _ | refine blk_drew ?_ | refine blk_alloc ?_ _)); exact BK158.out)⟩
  have n2_ : Aside0 (((w12.setCell ⟨gb163, 0, none⟩ (.int .i64 t160)).setCell ⟨gb163, 1, none⟩ (.int .i64 t161)).heap[gb163]? = some (.cells #[.int .i64 t160, .int .i64 t161] 71 (0, 0))) := ⟨(by (with_reducible repeat (first | refine blk_drewN ?_ _ | refine blk_drew ?_ | refine blk_alloc ?_ _)); refine blk_put (cs := #[.int .i64 t160, .int .i64 0]) ?_ 1 _ rfl; (with_reducible repeat (first | refine blk_drewN ?_ _ | refine blk_drew ?_ | refine blk_alloc ?_ _)); refine blk_put (cs := #[.int .i64 0, .int .i64 0]) ?_ 0 _ rfl; (with_reducible repeat (first | refine blk_drewN ?_ _ | refine blk_drew ?_ | refine blk_alloc ?_ _)); exact BK163.out)⟩
  have n3_ : Aside0 (Below w.heap.size w ((w12.setCell ⟨gb163, 0, none⟩ (.int .i64 t160)).setCell ⟨gb163, 1, none⟩ (.int .i64 t161))) := ⟨z3_4_⟩
  (try clear BK157)
  (try clear BK158)
  (try clear BK163)
  (try clear HB)
  generalize ((w12.setCell ⟨gb163, 0, none⟩ (.int .i64 t160)).setCell ⟨gb163, 1, none⟩ (.int .i64 t161)) = w15 at n0_ n1_ n2_ n3_ ⊢
  have BK157 := n0_
  have BK158 := n1_
  have BK163 := n2_
  have HB := n3_
  clear n0_ n1_ n2_ n3_
  have _ := A_ (blk_drew BK157.out)
  have _ := A_ (blk_drew BK158.out)
  have _ := A_ (blk_drew BK163.out)
  have _ := A_ (below_drew1 HB.out)
  clear BK157 BK158 BK163 HB
  rename_i BK157 BK158 BK163 HB
  have q164 : 0 < (l0.length : Int) := of_decide_eq_true (by assumption)
  obtain ⟨ad164, e164, hx164_0, hx164_1, hx164_2, hx164_3⟩ := rp_T60 HR0.out q164
  have hw164_3 := hx164_3
  have hw164_2 := hx164_2
  have hw164_1 := hx164_1
  have hw164_0 := hx164_0
  obtain rfl : ad159 = ad164 := (by injection e164)
  replace hx164_0 := cel HB.out hx164_0
  replace hx164_1 := cel HB.out hx164_1
  replace hx164_2 := cel HB.out hx164_2
  replace hx164_3 := cel HB.out hx164_3
  refine start_ (n := 25) (S := fun w' => w'.cell? ad159 = some (.int .i64 ((rd_T60 l0 0).f0)) ∧ w'.cell? ⟨ad159.block, ad159.off + 1, none⟩ = some (.int .i64 ((rd_T60 l0 0).f1)) ∧ w'.cell? ⟨ad159.block, ad159.off + 2, none⟩ = some (.int .i64 ((rd_T60 l0 0).f2)) ∧ w'.cell? ⟨ad159.block, ad159.off + 3, none⟩ = some (.int .i64 ((rd_T60 l0 0).f3))) (ds := []) #[false, false, false, false, false, false, false, false, false, false, false, false, false, false, false, false, false, false, false, false, false, false, false, false, false] (by kernel_rfl) rfl rfl ⟨(cel HB.out hw164_0 :), (cel HB.out hw164_1 :), (cel HB.out hw164_2 :), (cel HB.out hw164_3 :)⟩ (fun hHeld => ?_); refine with_tabW spec_l03Image.tab2 spec_l03Image.bits2 (fun HT_ HW_ => ?_)
  generalize w15.drew = w16 at BK157 BK158 BK163 HB hx164_0 hx164_1 hx164_2 hx164_3 hHeld ⊢
  refine pure_ (i := 0) (N := some 31) (v := ?_) (a' := ?_) #[true, false, false, false, false, false, false, false, false, false, false, false, false, false, false, false, false, false, false, false, false, false, false, false, false] rfl rfl (any_of HT_.out (by kernel_rfl)) (fun _ _ _ h => h) (Or.inl ⟨by rfl, ?_⟩) ?_ ?_
  rotate_left
  ·
   intro w'
   go_simp
   with_reducible rfl
  rotate_left
  ·
   simp only [Act.put, sA_, sB_, sC_, i64_w, i32_w]
   rfl
  refine pure_ (i := 1) (N := some 32) (v := ?_) (a' := ?_) #[true, true, false, false, false, false, false, false, false, false, false, false, false, false, false, false, false, false, false, false, false, false, false, false, false] rfl rfl (any_of HT_.out (by kernel_rfl)) (fun _ _ _ h => h) (Or.inl ⟨by rfl, ?_⟩) ?_ ?_
  rotate_left
  ·
   intro w'
   go_simp
   with_reducible rfl
  rotate_left
  ·
   simp only [Act.put, sA_, sB_, sC_, i64_w, i32_w]
   rfl
  refine pure_ (i := 2) (N := some 33) (v := ?_) (a' := ?_) #[true, true, true, false, false, false, false, false, false, false, false, false, false, false, false, false, false, false, false, false, false, false, false, false, false] rfl rfl (any_of HT_.out (by kernel_rfl)) (fun _ _ _ h => h) (Or.inl ⟨by rfl, ?_⟩) ?_ ?_
  rotate_left
  ·
   intro w'
   go_simp
   with_reducible rfl
  rotate_left
  ·
   simp only [Act.put, sA_, sB_, sC_, i64_w, i32_w]
   rfl
  refine pure_ (i := 4) (N := some 35) (v := ?_) (a' := ?_) #[true, true, true, false, true, false, false, false, false, false, false, false, false, false, false, false, false, false, false, false, false, false, false, false, false] rfl rfl (any_of HT_.out (by kernel_rfl)) (fun _ _ _ h => h) (Or.inl ⟨by rfl, ?_⟩) ?_ ?_
  rotate_left
  ·
   intro w'
   go_simp
   with_reducible rfl
  rotate_left
  ·
   simp only [Act.put, sA_, sB_, sC_, i64_w, i32_w]
   rfl
  refine pure_ (i := 5) (N := some 36) (v := ?_) (a' := ?_) #[true, true, true, false, true, true, false, false, false, false, false, false, false, false, false, false, false, false, false, false, false, false, false, false, false] rfl rfl (any_of HT_.out (by kernel_rfl)) (fun _ _ _ h => h) (Or.inl ⟨by rfl, ?_⟩) ?_ ?_
  rotate_left
  ·
   intro w'
   go_simp
   with_reducible rfl
  rotate_left
  ·
   simp only [Act.put, sA_, sB_, sC_, i64_w, i32_w]
   rfl
  refine pure_ (i := 6) (N := some 37) (v := ?_) (a' := ?_) #[true, true, true, false, true, true, true, false, false, false, false, false, false, false, false, false, false, false, false, false, false, false, false, false, false] rfl rfl (any_of HT_.out (by kernel_rfl)) (fun _ _ _ h => h) (Or.inl ⟨by rfl, ?_⟩) ?_ ?_
  rotate_left
  ·
   intro w'
   go_simp
   with_reducible rfl
  rotate_left
  ·
   simp only [Act.put, sA_, sB_, sC_, i64_w, i32_w]
   rfl
  refine pure_ (i := 9) (N := some 40) (v := ?_) (a' := ?_) #[true, true, true, false, true, true, true, false, false, true, false, false, false, false, false, false, false, false, false, false, false, false, false, false, false] rfl rfl (any_of HT_.out (by kernel_rfl)) (fun _ _ _ h => h) (Or.inl ⟨by rfl, ?_⟩) ?_ ?_
  rotate_left
  ·
   intro w'
   go_simp
   with_reducible rfl
  rotate_left
  ·
   simp only [Act.put, sA_, sB_, sC_, i64_w, i32_w]
   rfl
  refine pure_ (i := 10) (N := some 41) (v := ?_) (a' := ?_) #[true, true, true, false, true, true, true, false, false, true, true, false, false, false, false, false, false, false, false, false, false, false, false, false, false] rfl rfl (any_of HT_.out (by kernel_rfl)) (fun _ _ _ h => h) (Or.inl ⟨by rfl, ?_⟩) ?_ ?_
  rotate_left
  ·
   intro w'
   go_simp
   with_reducible rfl
  rotate_left
  ·
   simp only [Act.put, sA_, sB_, sC_, i64_w, i32_w]
   rfl
  refine pure_ (i := 11) (N := some 42) (v := ?_) (a' := ?_) #[true, true, true, false, true, true, true, false, false, true, true, true, false, false, false, false, false, false, false, false, false, false, false, false, false] rfl rfl (any_of HT_.out (by kernel_rfl)) (fun _ _ _ h => h) (Or.inl ⟨by rfl, ?_⟩) ?_ ?_
  rotate_left
  ·
   intro w'
   go_simp
   with_reducible rfl
  rotate_left
  ·
   simp only [Act.put, sA_, sB_, sC_, i64_w, i32_w]
   rfl
  refine pure_ (i := 13) (N := some 44) (v := ?_) (a' := ?_) #[true, true, true, false, true, true, true, false, false, true, true, true, false, true, false, false, false, false, false, false, false, false, false, false, false] rfl rfl (any_of HT_.out (by kernel_rfl)) (fun _ _ _ h => h) (Or.inl ⟨by rfl, ?_⟩) ?_ ?_
  rotate_left
  ·
   intro w'
   go_simp
   with_reducible rfl
  rotate_left
  ·
   simp only [Act.put, sA_, sB_, sC_, i64_w, i32_w]
   rfl
  refine pure_ (i := 14) (N := some 45) (v := ?_) (a' := ?_) #[true, true, true, false, true, true, true, false, false, true, true, true, false, true, true, false, false, false, false, false, false, false, false, false, false] rfl rfl (any_of HT_.out (by kernel_rfl)) (fun _ _ _ h => h) (Or.inl ⟨by rfl, ?_⟩) ?_ ?_
  rotate_left
  ·
   intro w'
   go_simp
   with_reducible rfl
  rotate_left
  ·
   simp only [Act.put, sA_, sB_, sC_, i64_w, i32_w]
   rfl
  refine pure_ (i := 15) (N := some 46) (v := ?_) (a' := ?_) #[true, true, true, false, true, true, true, false, false, true, true, true, false, true, true, true, false, false, false, false, false, false, false, false, false] rfl rfl (any_of HT_.out (by kernel_rfl)) (fun _ _ _ h => h) (Or.inl ⟨by rfl, ?_⟩) ?_ ?_
  rotate_left
  ·
   intro w'
   go_simp
   with_reducible rfl
  rotate_left
  ·
   simp only [Act.put, sA_, sB_, sC_, i64_w, i32_w]
   rfl
  refine take_ (i := 3) (N := some 34) (v := ?_) (a' := ?_) #[true, true, true, true, true, true, true, false, false, true, true, true, false, true, true, true, false, false, false, false, false, false, false, false, false] rfl rfl (take_ofW HT_.out HW_.out (by kernel_rfl)) (fun _ _ _ h => h) (Or.inl ⟨by rfl, ?_⟩) hHeld ?_ ?_
  rotate_left
  ·
   rintro w' ⟨s0, s1, s2, s3⟩
   go_simp
   with_reducible rfl
  rotate_left
  ·
   simp only [Act.put, sA_, sB_, sC_, i64_w, i32_w]
   rfl
  refine take_ (i := 7) (N := some 38) (v := ?_) (a' := ?_) #[true, true, true, true, true, true, true, true, false, true, true, true, false, true, true, true, false, false, false, false, false, false, false, false, false] rfl rfl (take_ofW HT_.out HW_.out (by kernel_rfl)) (fun _ _ _ h => h) (Or.inl ⟨by rfl, ?_⟩) hHeld ?_ ?_
  rotate_left
  ·
   rintro w' ⟨s0, s1, s2, s3⟩
   go_simp
   with_reducible rfl
  rotate_left
  ·
   simp only [Act.put, sA_, sB_, sC_, i64_w, i32_w]
   rfl
  refine pure_ (i := 8) (N := some 39) (v := ?_) (a' := ?_) #[true, true, true, true, true, true, true, true, true, true, true, true, false, true, true, true, false, false, false, false, false, false, false, false, false] rfl rfl (any_of HT_.out (by kernel_rfl)) (fun _ _ _ h => h) (Or.inl ⟨by rfl, ?_⟩) ?_ ?_
  rotate_left
  ·
   intro w'
   go_simp
   with_reducible rfl
  rotate_left
  ·
   simp only [Act.put, sA_, sB_, sC_, i64_w, i32_w]
   rfl
  refine take_ (i := 12) (N := some 43) (v := ?_) (a' := ?_) #[true, true, true, true, true, true, true, true, true, true, true, true, true, true, true, true, false, false, false, false, false, false, false, false, false] rfl rfl (take_ofW HT_.out HW_.out (by kernel_rfl)) (fun _ _ _ h => h) (Or.inl ⟨by rfl, ?_⟩) hHeld ?_ ?_
  rotate_left
  ·
   rintro w' ⟨s0, s1, s2, s3⟩
   go_simp
   with_reducible rfl
  rotate_left
  ·
   simp only [Act.put, sA_, sB_, sC_, i64_w, i32_w]
   rfl
  refine take_ (i := 16) (N := some 47) (v := ?_) (a' := ?_) #[true, true, true, true, true, true, true, true, true, true, true, true, true, true, true, true, true, false, false, false, false, false, false, false, false] rfl rfl (take_ofW HT_.out HW_.out (by kernel_rfl)) (fun _ _ _ h => h) (Or.inl ⟨by rfl, ?_⟩) hHeld ?_ ?_
  rotate_left
  ·
   rintro w' ⟨s0, s1, s2, s3⟩
   go_simp
   with_reducible rfl
  rotate_left
  ·
   simp only [Act.put, sA_, sB_, sC_, i64_w, i32_w]
   rfl
  refine pure_ (i := 17) (N := some 48) (v := ?_) (a' := ?_) #[true, true, true, true, true, true, true, true, true, true, true, true, true, true, true, true, true, true, false, false, false, false, false, false, false] rfl rfl (any_of HT_.out (by kernel_rfl)) (fun _ _ _ h => h) (Or.inl ⟨by rfl, ?_⟩) ?_ ?_
  rotate_left
  ·
   intro w'
   go_simp
   with_reducible rfl
  rotate_left
  ·
   simp only [Act.put, sA_, sB_, sC_, i64_w, i32_w]
   rfl
  refine join_ (σ := Nat) 2 #[true, true, true, true, true, true, true, true, true, true, true, true, true, true, true, true, true, true, true, true, true, true, true, false, false] (fun s_ => [(49, .tuple #[.agg #[.int .i64 t165, .int .i64 t166], .int .i64 t167]), (6, .pointer (some ⟨s_, 0, none⟩)), (30, .tuple #[.agg #[.int .i64 t165, .int .i64 t166], .int .i64 t167]), (50, .agg #[.int .i64 t165, .int .i64 t166]), (51, .int .i64 t167)]) (fun s_ w' => (w'.cell? ad159 = some (.int .i64 ((rd_T60 l0 0).f0)) ∧ w'.cell? ⟨ad159.block, ad159.off + 1, none⟩ = some (.int .i64 ((rd_T60 l0 0).f1)) ∧ w'.cell? ⟨ad159.block, ad159.off + 2, none⟩ = some (.int .i64 ((rd_T60 l0 0).f2)) ∧ w'.cell? ⟨ad159.block, ad159.off + 3, none⟩ = some (.int .i64 ((rd_T60 l0 0).f3))) ∧ (w'.heap[gb157]? = some (.cells #[.int .i64 0, .int .i64 0] 71 (0, 0))) ∧ (w'.heap[gb158]? = some (.cells #[.int .i64 0, .int .i64 0] 71 (0, 0))) ∧ (w'.heap[gb163]? = some (.cells #[.int .i64 t160, .int .i64 t161] 71 (0, 0))) ∧ (w'.heap[s_]? = some (.cells #[.int .i64 0, .int .i64 0] 71 (0, 0))) ∧ (w.heap.size ≤ s_) ∧ (w.heap.size ≤ s_) ∧ (gb157 ≠ s_) ∧ (s_ ≠ gb157) ∧ (gb158 ≠ s_) ∧ (s_ ≠ gb158) ∧ (gb163 ≠ s_) ∧ (s_ ≠ gb163) ∧ (Below w.heap.size w w')) ?_ ?_
  rotate_left
  ·
   intro hCont
   refine two_ (i := 18) (j := 22) (Ni := some 49) (Nj := some 6) #[true, true, true, true, true, true, true, true, true, true, true, true, true, true, true, true, true, true, true, false, false, false, false, false, false] #[true, true, true, true, true, true, true, true, true, true, true, true, true, true, true, true, true, true, false, false, false, false, true, false, false] rfl rfl rfl rfl (two_of HT_.out (by kernel_rfl)) (by decide) (by decide) (fun K hK => ?_) (fun K hK => ?_)
   ·
    skip
    refine goes_ Try.func106 (by kernel_rfl) rfl #[.int .i64 (wrap64 (((rd_T60 l0 0).f1) + ((rd_T60 l0 0).f0))), .int .i64 (wrap64 (((rd_T60 l0 0).f3) + ((rd_T60 l0 0).f2)))] (by rfl) rfl rfl z3_6_ ?_
    with_reducible refine (spec_l03Make.calls k (wrap64 (((rd_T60 l0 0).f1) + ((rd_T60 l0 0).f0))) (wrap64 (((rd_T60 l0 0).f3) + ((rd_T60 l0 0).f2))) t165 t166 t167 _ A4.out).mono ?_
    rintro e w17 ⟨rfl, hb⟩
    refine ⟨_, rfl, ?_⟩
    have _ := A_ (blk_below (g := gb157) (o := .cells #[.int .i64 0, .int .i64 0] 71 (0, 0)) z3_2_ hb)
    have _ := A_ (blk_below (g := gb158) (o := .cells #[.int .i64 0, .int .i64 0] 71 (0, 0)) z3_3_ hb)
    have _ := A_ (blk_below (g := gb163) (o := .cells #[.int .i64 t160, .int .i64 t161] 71 (0, 0)) z3_7_ hb)
    have _ := A_ (below_step z3_4_ hb)
    clear BK157 BK158 BK163 HB
    rename_i BK157 BK158 BK163 HB
    (try clear hb)
    (try clear hb2)
    (try clear hk)
    (try clear hi)
    refine hK.out _ _ ⟨(cel HB.out hw164_0 :), (cel HB.out hw164_1 :), (cel HB.out hw164_2 :), (cel HB.out hw164_3 :)⟩ (fun hHeld => ?_)
    clear hK K
    refine norm_ (a' := ?_) ?_ ?_
    rotate_left
    ·
     show Act.put _ (some 49) _ = _
     simp only [Act.put, sA_, sB_, sC_, i64_w, i32_w]
     rfl
    refine pure_ (i := 19) (N := some 30) (v := ?_) (a' := ?_) #[true, true, true, true, true, true, true, true, true, true, true, true, true, true, true, true, true, true, true, true, false, false, false, false, false] rfl rfl (any_of HT_.out (by kernel_rfl)) (fun _ _ _ h => h) (Or.inl ⟨by rfl, ?_⟩) ?_ ?_
    rotate_left
    ·
     intro w'
     go_simp
     with_reducible rfl
    rotate_left
    ·
     simp only [Act.put, sA_, sB_, sC_, i64_w, i32_w]
     rfl
    refine pure_ (i := 20) (N := some 50) (v := ?_) (a' := ?_) #[true, true, true, true, true, true, true, true, true, true, true, true, true, true, true, true, true, true, true, true, true, false, false, false, false] rfl rfl (any_of HT_.out (by kernel_rfl)) (fun _ _ _ h => h) (Or.inl ⟨by rfl, ?_⟩) ?_ ?_
    rotate_left
    ·
     intro w'
     go_simp
     with_reducible rfl
    rotate_left
    ·
     simp only [Act.put, sA_, sB_, sC_, i64_w, i32_w]
     rfl
    refine pure_ (i := 21) (N := some 51) (v := ?_) (a' := ?_) #[true, true, true, true, true, true, true, true, true, true, true, true, true, true, true, true, true, true, true, true, true, true, false, false, false] rfl rfl (any_of HT_.out (by kernel_rfl)) (fun _ _ _ h => h) (Or.inl ⟨by rfl, ?_⟩) ?_ ?_
    rotate_left
    ·
     intro w'
     go_simp
     with_reducible rfl
    rotate_left
    ·
     simp only [Act.put, sA_, sB_, sC_, i64_w, i32_w]
     rfl
    refine one_ (i := 22) (N := some 6) #[true, true, true, true, true, true, true, true, true, true, true, true, true, true, true, true, true, true, true, true, true, true, true, false, false] rfl rfl (one_of HT_.out (by kernel_rfl)) (by decide) (fun K hK => ?_)
    refine box_step ?hg (N := 6) ?hd (cs := #[.int .i64 0, .int .i64 0]) (t := 71) ?hr ?_; (case hd => rfl); (case hg => rfl); (case hr => first | (go_simp; done) | (go_simp; rfl))
    intro gb168 hg w18 hbox hb
    have _ := A_ (blk_below (g := gb157) (o := .cells #[.int .i64 0, .int .i64 0] 71 (0, 0)) z3_2_ hb)
    have _ := A_ (blk_below (g := gb158) (o := .cells #[.int .i64 0, .int .i64 0] 71 (0, 0)) z3_3_ hb)
    have _ := A_ (blk_below (g := gb163) (o := .cells #[.int .i64 t160, .int .i64 t161] 71 (0, 0)) z3_7_ hb)
    have _ := A_ (below_step z3_4_ hb)
    have _ := A_ (hbox)
    have _ := A_ ((by rw [hg]; exact (below_size z3_4_) : w.heap.size ≤ gb168))
    have _ := A_ ((by rw [hg]; exact (below_size z3_4_) : w.heap.size ≤ gb168))
    have _ := A_ ((by rw [hg]; exact Nat.ne_of_lt (blk_lt (g := gb157) (o := .cells #[.int .i64 0, .int .i64 0] 71 (0, 0)) z3_2_) : gb157 ≠ gb168))
    have _ := A_ ((by rw [hg]; exact Nat.ne_of_gt (blk_lt (g := gb157) (o := .cells #[.int .i64 0, .int .i64 0] 71 (0, 0)) z3_2_) : gb168 ≠ gb157))
    have _ := A_ ((by rw [hg]; exact Nat.ne_of_lt (blk_lt (g := gb158) (o := .cells #[.int .i64 0, .int .i64 0] 71 (0, 0)) z3_3_) : gb158 ≠ gb168))
    have _ := A_ ((by rw [hg]; exact Nat.ne_of_gt (blk_lt (g := gb158) (o := .cells #[.int .i64 0, .int .i64 0] 71 (0, 0)) z3_3_) : gb168 ≠ gb158))
    have _ := A_ ((by rw [hg]; exact Nat.ne_of_lt (blk_lt (g := gb163) (o := .cells #[.int .i64 t160, .int .i64 t161] 71 (0, 0)) z3_7_) : gb163 ≠ gb168))
    have _ := A_ ((by rw [hg]; exact Nat.ne_of_gt (blk_lt (g := gb163) (o := .cells #[.int .i64 t160, .int .i64 t161] 71 (0, 0)) z3_7_) : gb168 ≠ gb163))
    clear BK157 BK158 BK163 HB
    rename_i BK157 BK158 BK163 HB BK168 GW168 GE168 NB157_168 NB168_157 NB158_168 NB168_158 NB163_168 NB168_163
    clear hb hbox hg
    refine hK.out _ _ ⟨(cel HB.out hw164_0 :), (cel HB.out hw164_1 :), (cel HB.out hw164_2 :), (cel HB.out hw164_3 :)⟩ (fun hHeld => ?_)
    clear hK K
    refine norm_ (a' := ?_) ?_ ?_
    rotate_left
    ·
     show Act.put _ (some 6) _ = _
     simp only [Act.put, sA_, sB_, sC_, i64_w, i32_w]
     rfl
    exact norm_ z3_28_ (hCont (gb168) _ ⟨hHeld, z3_2_, z3_3_, z3_7_, z3_22_, GW168.out, GE168.out, NB157_168.out, NB168_157.out, NB158_168.out, NB168_158.out, NB163_168.out, NB168_163.out, z3_5_⟩)
   ·
    skip
    refine box_step ?hg (N := 6) ?hd (cs := #[.int .i64 0, .int .i64 0]) (t := 71) ?hr ?_; (case hd => rfl); (case hg => rfl); (case hr => first | (go_simp; done) | (go_simp; rfl))
    intro gb168 hg w17 hbox hb
    have _ := A_ (blk_below (g := gb157) (o := .cells #[.int .i64 0, .int .i64 0] 71 (0, 0)) z3_2_ hb)
    have _ := A_ (blk_below (g := gb158) (o := .cells #[.int .i64 0, .int .i64 0] 71 (0, 0)) z3_3_ hb)
    have _ := A_ (blk_below (g := gb163) (o := .cells #[.int .i64 t160, .int .i64 t161] 71 (0, 0)) z3_7_ hb)
    have _ := A_ (below_step z3_4_ hb)
    have _ := A_ (hbox)
    have _ := A_ ((by rw [hg]; exact (below_size z3_4_) : w.heap.size ≤ gb168))
    have _ := A_ ((by rw [hg]; exact (below_size z3_4_) : w.heap.size ≤ gb168))
    have _ := A_ ((by rw [hg]; exact Nat.ne_of_lt (blk_lt (g := gb157) (o := .cells #[.int .i64 0, .int .i64 0] 71 (0, 0)) z3_2_) : gb157 ≠ gb168))
    have _ := A_ ((by rw [hg]; exact Nat.ne_of_gt (blk_lt (g := gb157) (o := .cells #[.int .i64 0, .int .i64 0] 71 (0, 0)) z3_2_) : gb168 ≠ gb157))
    have _ := A_ ((by rw [hg]; exact Nat.ne_of_lt (blk_lt (g := gb158) (o := .cells #[.int .i64 0, .int .i64 0] 71 (0, 0)) z3_3_) : gb158 ≠ gb168))
    have _ := A_ ((by rw [hg]; exact Nat.ne_of_gt (blk_lt (g := gb158) (o := .cells #[.int .i64 0, .int .i64 0] 71 (0, 0)) z3_3_) : gb168 ≠ gb158))
    have _ := A_ ((by rw [hg]; exact Nat.ne_of_lt (blk_lt (g := gb163) (o := .cells #[.int .i64 t160, .int .i64 t161] 71 (0, 0)) z3_7_) : gb163 ≠ gb168))
    have _ := A_ ((by rw [hg]; exact Nat.ne_of_gt (blk_lt (g := gb163) (o := .cells #[.int .i64 t160, .int .i64 t161] 71 (0, 0)) z3_7_) : gb168 ≠ gb163))
    clear BK157 BK158 BK163 HB
    rename_i BK157 BK158 BK163 HB BK168 GW168 GE168 NB157_168 NB168_157 NB158_168 NB168_158 NB163_168 NB168_163
    clear hb hbox hg
    refine hK.out _ _ ⟨(cel HB.out hw164_0 :), (cel HB.out hw164_1 :), (cel HB.out hw164_2 :), (cel HB.out hw164_3 :)⟩ (fun hHeld => ?_)
    clear hK K
    refine norm_ (a' := ?_) ?_ ?_
    rotate_left
    ·
     show Act.put _ (some 6) _ = _
     simp only [Act.put, sA_, sB_, sC_, i64_w, i32_w]
     rfl
    refine one_ (i := 18) (N := some 49) #[true, true, true, true, true, true, true, true, true, true, true, true, true, true, true, true, true, true, true, false, false, false, true, false, false] rfl rfl (one_of HT_.out (by kernel_rfl)) (by decide) (fun K hK => ?_)
    refine goes_ Try.func106 (by kernel_rfl) rfl #[.int .i64 (wrap64 (((rd_T60 l0 0).f1) + ((rd_T60 l0 0).f0))), .int .i64 (wrap64 (((rd_T60 l0 0).f3) + ((rd_T60 l0 0).f2)))] (by rfl) rfl rfl z3_6_ ?_
    with_reducible refine (spec_l03Make.calls k (wrap64 (((rd_T60 l0 0).f1) + ((rd_T60 l0 0).f0))) (wrap64 (((rd_T60 l0 0).f3) + ((rd_T60 l0 0).f2))) t165 t166 t167 _ A4.out).mono ?_
    rintro e w18 ⟨rfl, hb⟩
    refine ⟨_, rfl, ?_⟩
    have _ := A_ (blk_below (g := gb157) (o := .cells #[.int .i64 0, .int .i64 0] 71 (0, 0)) z3_2_ hb)
    have _ := A_ (blk_below (g := gb158) (o := .cells #[.int .i64 0, .int .i64 0] 71 (0, 0)) z3_3_ hb)
    have _ := A_ (blk_below (g := gb163) (o := .cells #[.int .i64 t160, .int .i64 t161] 71 (0, 0)) z3_7_ hb)
    have _ := A_ (blk_below (g := gb168) (o := .cells #[.int .i64 0, .int .i64 0] 71 (0, 0)) z3_22_ hb)
    have _ := A_ (below_step z3_5_ hb)
    clear BK157 BK158 BK163 BK168 HB
    rename_i BK157 BK158 BK163 BK168 HB
    (try clear hb)
    (try clear hb2)
    (try clear hk)
    (try clear hi)
    refine hK.out _ _ ⟨(cel HB.out hw164_0 :), (cel HB.out hw164_1 :), (cel HB.out hw164_2 :), (cel HB.out hw164_3 :)⟩ (fun hHeld => ?_)
    clear hK K
    refine norm_ (a' := ?_) ?_ ?_
    rotate_left
    ·
     show Act.put _ (some 49) _ = _
     simp only [Act.put, sA_, sB_, sC_, i64_w, i32_w]
     rfl
    refine pure_ (i := 19) (N := some 30) (v := ?_) (a' := ?_) #[true, true, true, true, true, true, true, true, true, true, true, true, true, true, true, true, true, true, true, true, false, false, true, false, false] rfl rfl (any_of HT_.out (by kernel_rfl)) (fun _ _ _ h => h) (Or.inl ⟨by rfl, ?_⟩) ?_ ?_
    rotate_left
    ·
     intro w'
     go_simp
     with_reducible rfl
    rotate_left
    ·
     simp only [Act.put, sA_, sB_, sC_, i64_w, i32_w]
     rfl
    refine pure_ (i := 20) (N := some 50) (v := ?_) (a' := ?_) #[true, true, true, true, true, true, true, true, true, true, true, true, true, true, true, true, true, true, true, true, true, false, true, false, false] rfl rfl (any_of HT_.out (by kernel_rfl)) (fun _ _ _ h => h) (Or.inl ⟨by rfl, ?_⟩) ?_ ?_
    rotate_left
    ·
     intro w'
     go_simp
     with_reducible rfl
    rotate_left
    ·
     simp only [Act.put, sA_, sB_, sC_, i64_w, i32_w]
     rfl
    refine pure_ (i := 21) (N := some 51) (v := ?_) (a' := ?_) #[true, true, true, true, true, true, true, true, true, true, true, true, true, true, true, true, true, true, true, true, true, true, true, false, false] rfl rfl (any_of HT_.out (by kernel_rfl)) (fun _ _ _ h => h) (Or.inl ⟨by rfl, ?_⟩) ?_ ?_
    rotate_left
    ·
     intro w'
     go_simp
     with_reducible rfl
    rotate_left
    ·
     simp only [Act.put, sA_, sB_, sC_, i64_w, i32_w]
     rfl
    exact norm_ z3_28_ (hCont (gb168) _ ⟨hHeld, z3_2_, z3_3_, z3_7_, z3_22_, GW168.out, GE168.out, NB157_168.out, NB168_157.out, NB158_168.out, NB168_158.out, NB163_168.out, NB168_163.out, z3_5_⟩)
  rintro gb168 w19 ⟨hS_, h0_, h1_, h2_, h3_, h4_, h5_, h6_, h7_, h8_, h9_, h10_, h11_, h12_⟩
  have n0_ : Aside0 (w19.heap[gb157]? = some (.cells #[.int .i64 0, .int .i64 0] 71 (0, 0))) := ⟨h0_⟩
  have n1_ : Aside0 (w19.heap[gb158]? = some (.cells #[.int .i64 0, .int .i64 0] 71 (0, 0))) := ⟨h1_⟩
  have n2_ : Aside0 (w19.heap[gb163]? = some (.cells #[.int .i64 t160, .int .i64 t161] 71 (0, 0))) := ⟨h2_⟩
  have n3_ : Aside0 (w19.heap[gb168]? = some (.cells #[.int .i64 0, .int .i64 0] 71 (0, 0))) := ⟨h3_⟩
  have n4_ : Aside0 (w.heap.size ≤ gb168) := ⟨h4_⟩
  have n5_ : Aside0 (w.heap.size ≤ gb168) := ⟨h5_⟩
  have n6_ : Aside0 (gb157 ≠ gb168) := ⟨h6_⟩
  have n7_ : Aside0 (gb168 ≠ gb157) := ⟨h7_⟩
  have n8_ : Aside0 (gb158 ≠ gb168) := ⟨h8_⟩
  have n9_ : Aside0 (gb168 ≠ gb158) := ⟨h9_⟩
  have n10_ : Aside0 (gb163 ≠ gb168) := ⟨h10_⟩
  have n11_ : Aside0 (gb168 ≠ gb163) := ⟨h11_⟩
  have n12_ : Aside0 (Below w.heap.size w w19) := ⟨h12_⟩
  clear BK157
  clear BK158
  clear BK163
  clear HB
  clear h0_ h1_ h2_ h3_ h4_ h5_ h6_ h7_ h8_ h9_ h10_ h11_ h12_
  have BK157 := n0_
  have BK158 := n1_
  have BK163 := n2_
  have BK168 := n3_
  have GW168 := n4_
  have GE168 := n5_
  have NB157_168 := n6_
  have NB168_157 := n7_
  have NB158_168 := n8_
  have NB168_158 := n9_
  have NB163_168 := n10_
  have NB168_163 := n11_
  have HB := n12_
  clear n0_ n1_ n2_ n3_ n4_ n5_ n6_ n7_ n8_ n9_ n10_ n11_ n12_
  have hHeld : w19.cell? ad159 = some (.int .i64 ((rd_T60 l0 0).f0)) ∧ w19.cell? ⟨ad159.block, ad159.off + 1, none⟩ = some (.int .i64 ((rd_T60 l0 0).f1)) ∧ w19.cell? ⟨ad159.block, ad159.off + 2, none⟩ = some (.int .i64 ((rd_T60 l0 0).f2)) ∧ w19.cell? ⟨ad159.block, ad159.off + 3, none⟩ = some (.int .i64 ((rd_T60 l0 0).f3)) := hS_
  refine norm_ (a' := ?_) ?_ ?_
  rotate_left
  ·
   simp only [putAll, Act.put, sA_, sB_, sC_]
   rfl
  refine one_ (i := 23) (N := none) #[true, true, true, true, true, true, true, true, true, true, true, true, true, true, true, true, true, true, true, true, true, true, true, true, false] rfl rfl (one_of HT_.out (by kernel_rfl)) (by decide) (fun K hK => ?_)
  have hs20 : w19.cell? ⟨gb168, 0, none⟩ = some (.int .i64 0) := (blk_cell BK168.out 0).trans rfl
  have hfs20 := blk_frozen BK168.out 0
  have hns20_0 := NB157_168.out
  have hns20_1 := NB158_168.out
  have hns20_2 := NB163_168.out
  have hms20_0 := NB168_157.out
  have hms20_1 := NB168_158.out
  have hms20_2 := NB168_163.out
  have hs21 : w19.cell? ⟨gb168, 1, none⟩ = some (.int .i64 0) := (blk_cell BK168.out 1).trans rfl
  have hfs21 := blk_frozen BK168.out 1
  have hns21_0 := NB157_168.out
  have hns21_1 := NB158_168.out
  have hns21_2 := NB163_168.out
  have hms21_0 := NB168_157.out
  have hms21_1 := NB168_158.out
  have hms21_2 := NB168_163.out
  refine skip_ (w1 := ?_) (by rfl) rfl ?_ ?_
  rotate_left
  ·
   go_simp
   rfl
  refine hK.out _ _ ⟨((cell_far (p := ⟨gb168, _, none⟩) z3_16_ _).trans (((cell_far (p := ⟨gb168, _, none⟩) z3_16_ _).trans (hHeld.1)))), ((cell_far (p := ⟨gb168, _, none⟩) z3_15_ _).trans (((cell_far (p := ⟨gb168, _, none⟩) z3_15_ _).trans (hHeld.2.1)))), ((cell_far (p := ⟨gb168, _, none⟩) z3_14_ _).trans (((cell_far (p := ⟨gb168, _, none⟩) z3_14_ _).trans (hHeld.2.2.1)))), ((cell_far (p := ⟨gb168, _, none⟩) z3_13_ _).trans (((cell_far (p := ⟨gb168, _, none⟩) z3_13_ _).trans (hHeld.2.2.2))))⟩ (fun hHeld => ?_)
  clear hK K
  refine pure_ (i := 24) (N := some 7) (v := ?_) (a' := ?_) #[true, true, true, true, true, true, true, true, true, true, true, true, true, true, true, true, true, true, true, true, true, true, true, true, true] rfl rfl (any_of HT_.out (by kernel_rfl)) (fun _ _ _ h => h) (Or.inl ⟨by rfl, ?_⟩) ?_ ?_
  rotate_left
  ·
   intro w'
   go_simp
   with_reducible rfl
  rotate_left
  ·
   simp only [Act.put, sA_, sB_, sC_, i64_w, i32_w]
   rfl
  refine done_ (done_of HT_.out (by kernel_rfl)) ?_
  have H := HZ_.out
  clear HZ_
  by_cases c6 : t171 < 0
  ·
   rw [if_pos c6] at H
   have c6b0 := decide_eq_true c6
   clear c6
   simp only [Option.some.injEq, Prod.mk.injEq] at H
   obtain ⟨rfl, rfl, rfl, rfl⟩ := H
   try go_wp2_with (first | ((with_reducible refine gate_callee (f := 154) rfl ?_); refine goesL_ (some 52) rfl rfl Try.func154 (by kernel_rfl) rfl #[.pointer (some ⟨gb168, 0, none⟩), .pointer (some ⟨gb163, 0, none⟩)] rfl z3_6_ ?_; (with_reducible refine (spec_l03Order.calls _ ([(⟨t165, t166⟩ : S71)]).length [(⟨t165, t166⟩ : S71)] _ ([(⟨t160, t161⟩ : S71)]).length [(⟨t160, t161⟩ : S71)] t171 _ ?side1 ?side2 ?side3 ?side4 A5.out).mono ?_); (case side1 => refine Kd.C_block k71 (g := gb168) (cs := #[.int .i64 t165, .int .i64 t166]) (T := 71) z3_8_ (show Kd.K k71 _ (⟨t165, t166⟩ : S71) [.int .i64 t165, .int .i64 t166] from k71_mk _ _) (by decide)); (case side2 => exact Nat.le_refl _); (case side3 => refine Kd.C_block k71 (g := gb163) (cs := #[.int .i64 t160, .int .i64 t161]) (T := 71) z3_11_ (show Kd.K k71 _ (⟨t160, t161⟩ : S71) [.int .i64 t160, .int .i64 t161] from k71_mk _ _) (by decide)); (case side4 => exact Nat.le_refl _); rintro e w' ⟨rfl, ⟨nd, rfl⟩⟩; refine ⟨_, rfl, ?_⟩))
   have n0_ : Aside0 (((w19.setCell ⟨gb168, 0, none⟩ (.int .i64 t165)).setCell ⟨gb168, 1, none⟩ (.int .i64 t166)).heap[gb157]? = some (.cells #[.int .i64 0, .int .i64 0] 71 (0, 0))) := ⟨z3_25_⟩
   have n1_ : Aside0 (((w19.setCell ⟨gb168, 0, none⟩ (.int .i64 t165)).setCell ⟨gb168, 1, none⟩ (.int .i64 t166)).heap[gb158]? = some (.cells #[.int .i64 0, .int .i64 0] 71 (0, 0))) := ⟨z3_24_⟩
   have n2_ : Aside0 (((w19.setCell ⟨gb168, 0, none⟩ (.int .i64 t165)).setCell ⟨gb168, 1, none⟩ (.int .i64 t166)).heap[gb163]? = some (.cells #[.int .i64 t160, .int .i64 t161] 71 (0, 0))) := ⟨z3_11_⟩
   have n3_ : Aside0 (((w19.setCell ⟨gb168, 0, none⟩ (.int .i64 t165)).setCell ⟨gb168, 1, none⟩ (.int .i64 t166)).heap[gb168]? = some (.cells #[.int .i64 t165, .int .i64 t166] 71 (0, 0))) := ⟨z3_8_⟩
   have n4_ : Aside0 (Below w.heap.size w ((w19.setCell ⟨gb168, 0, none⟩ (.int .i64 t165)).setCell ⟨gb168, 1, none⟩ (.int .i64 t166))) := ⟨z3_5_⟩
   (try clear BK157)
   (try clear BK158)
   (try clear BK163)
   (try clear BK168)
   (try clear HB)
   generalize ((w19.setCell ⟨gb168, 0, none⟩ (.int .i64 t165)).setCell ⟨gb168, 1, none⟩ (.int .i64 t166)) = w22 at n0_ n1_ n2_ n3_ n4_ ⊢
   have BK157 := n0_
   have BK158 := n1_
   have BK163 := n2_
   have BK168 := n3_
   have HB := n4_
   clear n0_ n1_ n2_ n3_ n4_
   (try (rw [drewN_self w22]; generalize hq_ : World.drewN w22 _ = w22; have n0_ : Aside0 (w22.heap[gb157]? = some (.cells #[.int .i64 0, .int .i64 0] 71 (0, 0))) := ⟨(by rw [← hq_]; exact z3_2_)⟩; have n1_ : Aside0 (w22.heap[gb158]? = some (.cells #[.int .i64 0, .int .i64 0] 71 (0, 0))) := ⟨(by rw [← hq_]; exact z3_3_)⟩; have n2_ : Aside0 (w22.heap[gb163]? = some (.cells #[.int .i64 t160, .int .i64 t161] 71 (0, 0))) := ⟨(by rw [← hq_]; exact z3_7_)⟩; have n3_ : Aside0 (w22.heap[gb168]? = some (.cells #[.int .i64 t165, .int .i64 t166] 71 (0, 0))) := ⟨(by rw [← hq_]; exact z3_22_)⟩; have n4_ : Aside0 (Below w.heap.size w w22) := ⟨(by rw [← hq_]; exact z3_5_)⟩; clear BK157 BK158 BK163 BK168 HB hq_; have BK157 := n0_; have BK158 := n1_; have BK163 := n2_; have BK168 := n3_; have HB := n4_; clear n0_ n1_ n2_ n3_ n4_))
   have _ := A_ (blk_drew BK157.out)
   have _ := A_ (blk_drew BK158.out)
   have _ := A_ (blk_drew BK163.out)
   have _ := A_ (blk_drew BK168.out)
   have _ := A_ (below_drew1 HB.out)
   clear BK157 BK158 BK163 BK168 HB
   rename_i BK157 BK158 BK163 BK168 HB
   refine start_ (n := 4) (S := fun w' => w'.cell? ⟨gb168, 0, none⟩ = some (.int .i64 t165) ∧ w'.cell? ⟨gb168, 1, none⟩ = some (.int .i64 t166) ∧ w'.cell? ⟨gb163, 0, none⟩ = some (.int .i64 t160) ∧ w'.cell? ⟨gb163, 1, none⟩ = some (.int .i64 t161)) (ds := []) #[false, false, false, false] (by kernel_rfl) rfl rfl ⟨(blk_cell BK168.out 0).trans rfl, (blk_cell BK168.out 1).trans rfl, (blk_cell BK163.out 0).trans rfl, (blk_cell BK163.out 1).trans rfl⟩ (fun hHeld => ?_)
   generalize w22.drew = w23 at BK157 BK158 BK163 BK168 HB hHeld ⊢
   refine take_ (i := 0) (N := some 54) (v := ?_) (a' := ?_) #[true, false, false, false] rfl rfl (by kernel_rfl) (fun _ _ _ h => h) (Or.inl ⟨by rfl, ?_⟩) hHeld ?_ ?_
   rotate_left
   ·
    rintro w' ⟨s0, s1, s2, s3⟩
    go_simp
    with_reducible rfl
   rotate_left
   ·
    simp only [Act.put, sA_, sB_, sC_, i64_w, i32_w]
    rfl
   refine take_ (i := 1) (N := some 55) (v := ?_) (a' := ?_) #[true, true, false, false] rfl rfl (by kernel_rfl) (fun _ _ _ h => h) (Or.inl ⟨by rfl, ?_⟩) hHeld ?_ ?_
   rotate_left
   ·
    rintro w' ⟨s0, s1, s2, s3⟩
    go_simp
    with_reducible rfl
   rotate_left
   ·
    simp only [Act.put, sA_, sB_, sC_, i64_w, i32_w]
    rfl
   refine one_ (i := 2) (N := none) #[true, true, true, false] rfl rfl (by kernel_rfl) (by decide) (fun K hK => ?_)
   have hs24 : w23.cell? ⟨gb157, 0, none⟩ = some (.int .i64 0) := (blk_cell BK157.out 0).trans rfl
   have hfs24 := blk_frozen BK157.out 0
   have hns24_1 := NB158_157.out
   have hns24_2 := NB163_157.out
   have hns24_3 := NB168_157.out
   have hms24_1 := NB157_158.out
   have hms24_2 := NB157_163.out
   have hms24_3 := NB157_168.out
   have hs25 : w23.cell? ⟨gb157, 1, none⟩ = some (.int .i64 0) := (blk_cell BK157.out 1).trans rfl
   have hfs25 := blk_frozen BK157.out 1
   have hns25_1 := NB158_157.out
   have hns25_2 := NB163_157.out
   have hns25_3 := NB168_157.out
   have hms25_1 := NB157_158.out
   have hms25_2 := NB157_163.out
   have hms25_3 := NB157_168.out
   refine skip_ (w1 := ?_) (by rfl) rfl ?_ ?_
   rotate_left
   ·
    go_simp
    rfl
   refine hK.out _ _ ⟨((cell_far (p := ⟨gb157, _, none⟩) NB168_157.out _).trans (((cell_far (p := ⟨gb157, _, none⟩) NB168_157.out _).trans (hHeld.1)))), ((cell_far (p := ⟨gb157, _, none⟩) NB168_157.out _).trans (((cell_far (p := ⟨gb157, _, none⟩) NB168_157.out _).trans (hHeld.2.1)))), ((cell_far (p := ⟨gb157, _, none⟩) NB163_157.out _).trans (((cell_far (p := ⟨gb157, _, none⟩) NB163_157.out _).trans (hHeld.2.2.1)))), ((cell_far (p := ⟨gb157, _, none⟩) NB163_157.out _).trans (((cell_far (p := ⟨gb157, _, none⟩) NB163_157.out _).trans (hHeld.2.2.2))))⟩ (fun hHeld => ?_)
   clear hK K
   refine one_ (i := 3) (N := none) #[true, true, true, true] rfl rfl (by kernel_rfl) (by decide) (fun K hK => ?_)
   have hs26 : w23.cell? ⟨gb158, 0, none⟩ = some (.int .i64 0) := (blk_cell BK158.out 0).trans rfl
   have hfs26 := blk_frozen BK158.out 0
   have hns26_0 := NB157_158.out
   have hns26_2 := NB163_158.out
   have hns26_3 := NB168_158.out
   have hms26_0 := NB158_157.out
   have hms26_2 := NB158_163.out
   have hms26_3 := NB158_168.out
   have hs27 : w23.cell? ⟨gb158, 1, none⟩ = some (.int .i64 0) := (blk_cell BK158.out 1).trans rfl
   have hfs27 := blk_frozen BK158.out 1
   have hns27_0 := NB157_158.out
   have hns27_2 := NB163_158.out
   have hns27_3 := NB168_158.out
   have hms27_0 := NB158_157.out
   have hms27_2 := NB158_163.out
   have hms27_3 := NB158_168.out
   refine skip_ (w1 := ?_) (by rfl) rfl ?_ ?_
   rotate_left
   ·
    go_simp
    rfl
   refine hK.out _ _ ⟨((cell_far (p := ⟨gb158, _, none⟩) NB168_158.out _).trans (((cell_far (p := ⟨gb158, _, none⟩) NB168_158.out _).trans (hHeld.1)))), ((cell_far (p := ⟨gb158, _, none⟩) NB168_158.out _).trans (((cell_far (p := ⟨gb158, _, none⟩) NB168_158.out _).trans (hHeld.2.1)))), ((cell_far (p := ⟨gb158, _, none⟩) NB163_158.out _).trans (((cell_far (p := ⟨gb158, _, none⟩) NB163_158.out _).trans (hHeld.2.2.1)))), ((cell_far (p := ⟨gb158, _, none⟩) NB163_158.out _).trans (((cell_far (p := ⟨gb158, _, none⟩) NB163_158.out _).trans (hHeld.2.2.2))))⟩ (fun hHeld => ?_)
   clear hK K
   refine done_ (by kernel_rfl) ?_
   try go_wp2
   refine bodyPost_ret (results_cc rfl _ _ gb157 gb158 71 71 #[.int .i64 t165, .int .i64 t166] #[.int .i64 t160, .int .i64 t161] (0, 0) (0, 0) _ _ rfl (by (with_reducible repeat (first | refine blk_drewN ?_ _ | refine blk_drew ?_ | refine blk_alloc ?_ _)); refine blk_far ?_ NB157_158.out _; (with_reducible repeat (first | refine blk_drewN ?_ _ | refine blk_drew ?_ | refine blk_alloc ?_ _)); refine blk_far ?_ NB157_158.out _; (with_reducible repeat (first | refine blk_drewN ?_ _ | refine blk_drew ?_ | refine blk_alloc ?_ _)); refine blk_put (cs := #[.int .i64 t165, .int .i64 0]) ?_ 1 _ rfl; (with_reducible repeat (first | refine blk_drewN ?_ _ | refine blk_drew ?_ | refine blk_alloc ?_ _)); refine blk_put (cs := #[.int .i64 0, .int .i64 0]) ?_ 0 _ rfl; (with_reducible repeat (first | refine blk_drewN ?_ _ | refine blk_drew ?_ | refine blk_alloc ?_ _)); exact BK157.out) Try.underlying71 rfl (by kernel_rfl) rfl (by (with_reducible repeat (first | refine blk_drewN ?_ _ | refine blk_drew ?_ | refine blk_alloc ?_ _)); refine blk_put (cs := #[.int .i64 t160, .int .i64 0]) ?_ 1 _ rfl; (with_reducible repeat (first | refine blk_drewN ?_ _ | refine blk_drew ?_ | refine blk_alloc ?_ _)); refine blk_put (cs := #[.int .i64 0, .int .i64 0]) ?_ 0 _ rfl; (with_reducible repeat (first | refine blk_drewN ?_ _ | refine blk_drew ?_ | refine blk_alloc ?_ _)); refine blk_far ?_ NB158_157.out _; (with_reducible repeat (first | refine blk_drewN ?_ _ | refine blk_drew ?_ | refine blk_alloc ?_ _)); refine blk_far ?_ NB158_157.out _; (with_reducible repeat (first | refine blk_drewN ?_ _ | refine blk_drew ?_ | refine blk_alloc ?_ _)); exact BK158.out) Try.underlying71 rfl (by kernel_rfl)) rfl ?_
   exact ⟨z3_21_, z3_5_⟩
  ·
   rw [if_neg c6] at H
   have c6b0 := decide_eq_false c6
   clear c6
   simp only [Option.some.injEq, Prod.mk.injEq] at H
   obtain ⟨rfl, rfl, rfl, rfl⟩ := H
   try go_wp2_with (first | ((with_reducible refine gate_callee (f := 154) rfl ?_); refine goesL_ (some 52) rfl rfl Try.func154 (by kernel_rfl) rfl #[.pointer (some ⟨gb168, 0, none⟩), .pointer (some ⟨gb163, 0, none⟩)] rfl z3_6_ ?_; (with_reducible refine (spec_l03Order.calls _ ([(⟨t165, t166⟩ : S71)]).length [(⟨t165, t166⟩ : S71)] _ ([(⟨t160, t161⟩ : S71)]).length [(⟨t160, t161⟩ : S71)] t171 _ ?side1 ?side2 ?side3 ?side4 A5.out).mono ?_); (case side1 => refine Kd.C_block k71 (g := gb168) (cs := #[.int .i64 t165, .int .i64 t166]) (T := 71) z3_8_ (show Kd.K k71 _ (⟨t165, t166⟩ : S71) [.int .i64 t165, .int .i64 t166] from k71_mk _ _) (by decide)); (case side2 => exact Nat.le_refl _); (case side3 => refine Kd.C_block k71 (g := gb163) (cs := #[.int .i64 t160, .int .i64 t161]) (T := 71) z3_11_ (show Kd.K k71 _ (⟨t160, t161⟩ : S71) [.int .i64 t160, .int .i64 t161] from k71_mk _ _) (by decide)); (case side4 => exact Nat.le_refl _); rintro e w' ⟨rfl, ⟨nd, rfl⟩⟩; refine ⟨_, rfl, ?_⟩))
   have n0_ : Aside0 (((w19.setCell ⟨gb168, 0, none⟩ (.int .i64 t165)).setCell ⟨gb168, 1, none⟩ (.int .i64 t166)).heap[gb157]? = some (.cells #[.int .i64 0, .int .i64 0] 71 (0, 0))) := ⟨z3_25_⟩
   have n1_ : Aside0 (((w19.setCell ⟨gb168, 0, none⟩ (.int .i64 t165)).setCell ⟨gb168, 1, none⟩ (.int .i64 t166)).heap[gb158]? = some (.cells #[.int .i64 0, .int .i64 0] 71 (0, 0))) := ⟨z3_24_⟩
   have n2_ : Aside0 (((w19.setCell ⟨gb168, 0, none⟩ (.int .i64 t165)).setCell ⟨gb168, 1, none⟩ (.int .i64 t166)).heap[gb163]? = some (.cells #[.int .i64 t160, .int .i64 t161] 71 (0, 0))) := ⟨z3_11_⟩
   have n3_ : Aside0 (((w19.setCell ⟨gb168, 0, none⟩ (.int .i64 t165)).setCell ⟨gb168, 1, none⟩ (.int .i64 t166)).heap[gb168]? = some (.cells #[.int .i64 t165, .int .i64 t166] 71 (0, 0))) := ⟨z3_8_⟩
   have n4_ : Aside0 (Below w.heap.size w ((w19.setCell ⟨gb168, 0, none⟩ (.int .i64 t165)).setCell ⟨gb168, 1, none⟩ (.int .i64 t166))) := ⟨z3_5_⟩
   (try clear BK157)
   (try clear BK158)
   (try clear BK163)
   (try clear BK168)
   (try clear HB)
   generalize ((w19.setCell ⟨gb168, 0, none⟩ (.int .i64 t165)).setCell ⟨gb168, 1, none⟩ (.int .i64 t166)) = w43 at n0_ n1_ n2_ n3_ n4_ ⊢
   have BK157 := n0_
   have BK158 := n1_
   have BK163 := n2_
   have BK168 := n3_
   have HB := n4_
   clear n0_ n1_ n2_ n3_ n4_
   (try (rw [drewN_self w43]; generalize hq_ : World.drewN w43 _ = w43; have n0_ : Aside0 (w43.heap[gb157]? = some (.cells #[.int .i64 0, .int .i64 0] 71 (0, 0))) := ⟨(by rw [← hq_]; exact z3_2_)⟩; have n1_ : Aside0 (w43.heap[gb158]? = some (.cells #[.int .i64 0, .int .i64 0] 71 (0, 0))) := ⟨(by rw [← hq_]; exact z3_3_)⟩; have n2_ : Aside0 (w43.heap[gb163]? = some (.cells #[.int .i64 t160, .int .i64 t161] 71 (0, 0))) := ⟨(by rw [← hq_]; exact z3_7_)⟩; have n3_ : Aside0 (w43.heap[gb168]? = some (.cells #[.int .i64 t165, .int .i64 t166] 71 (0, 0))) := ⟨(by rw [← hq_]; exact z3_22_)⟩; have n4_ : Aside0 (Below w.heap.size w w43) := ⟨(by rw [← hq_]; exact z3_5_)⟩; clear BK157 BK158 BK163 BK168 HB hq_; have BK157 := n0_; have BK158 := n1_; have BK163 := n2_; have BK168 := n3_; have HB := n4_; clear n0_ n1_ n2_ n3_ n4_))
   have _ := A_ (blk_drew BK157.out)
   have _ := A_ (blk_drew BK158.out)
   have _ := A_ (blk_drew BK163.out)
   have _ := A_ (blk_drew BK168.out)
   have _ := A_ (below_drew1 HB.out)
   clear BK157 BK158 BK163 BK168 HB
   rename_i BK157 BK158 BK163 BK168 HB
   refine start_ (n := 4) (S := fun w' => w'.cell? ⟨gb163, 0, none⟩ = some (.int .i64 t160) ∧ w'.cell? ⟨gb163, 1, none⟩ = some (.int .i64 t161) ∧ w'.cell? ⟨gb168, 0, none⟩ = some (.int .i64 t165) ∧ w'.cell? ⟨gb168, 1, none⟩ = some (.int .i64 t166)) (ds := []) #[false, false, false, false] (by kernel_rfl) rfl rfl ⟨(blk_cell BK163.out 0).trans rfl, (blk_cell BK163.out 1).trans rfl, (blk_cell BK168.out 0).trans rfl, (blk_cell BK168.out 1).trans rfl⟩ (fun hHeld => ?_)
   generalize w43.drew = w44 at BK157 BK158 BK163 BK168 HB hHeld ⊢
   refine take_ (i := 0) (N := some 56) (v := ?_) (a' := ?_) #[true, false, false, false] rfl rfl (by kernel_rfl) (fun _ _ _ h => h) (Or.inl ⟨by rfl, ?_⟩) hHeld ?_ ?_
   rotate_left
   ·
    rintro w' ⟨s0, s1, s2, s3⟩
    go_simp
    with_reducible rfl
   rotate_left
   ·
    simp only [Act.put, sA_, sB_, sC_, i64_w, i32_w]
    rfl
   refine take_ (i := 1) (N := some 57) (v := ?_) (a' := ?_) #[true, true, false, false] rfl rfl (by kernel_rfl) (fun _ _ _ h => h) (Or.inl ⟨by rfl, ?_⟩) hHeld ?_ ?_
   rotate_left
   ·
    rintro w' ⟨s0, s1, s2, s3⟩
    go_simp
    with_reducible rfl
   rotate_left
   ·
    simp only [Act.put, sA_, sB_, sC_, i64_w, i32_w]
    rfl
   refine one_ (i := 2) (N := none) #[true, true, true, false] rfl rfl (by kernel_rfl) (by decide) (fun K hK => ?_)
   have hs45 : w44.cell? ⟨gb157, 0, none⟩ = some (.int .i64 0) := (blk_cell BK157.out 0).trans rfl
   have hfs45 := blk_frozen BK157.out 0
   have hns45_1 := NB158_157.out
   have hns45_2 := NB163_157.out
   have hns45_3 := NB168_157.out
   have hms45_1 := NB157_158.out
   have hms45_2 := NB157_163.out
   have hms45_3 := NB157_168.out
   have hs46 : w44.cell? ⟨gb157, 1, none⟩ = some (.int .i64 0) := (blk_cell BK157.out 1).trans rfl
   have hfs46 := blk_frozen BK157.out 1
   have hns46_1 := NB158_157.out
   have hns46_2 := NB163_157.out
   have hns46_3 := NB168_157.out
   have hms46_1 := NB157_158.out
   have hms46_2 := NB157_163.out
   have hms46_3 := NB157_168.out
   refine skip_ (w1 := ?_) (by rfl) rfl ?_ ?_
   rotate_left
   ·
    go_simp
    rfl
   refine hK.out _ _ ⟨((cell_far (p := ⟨gb157, _, none⟩) NB163_157.out _).trans (((cell_far (p := ⟨gb157, _, none⟩) NB163_157.out _).trans (hHeld.1)))), ((cell_far (p := ⟨gb157, _, none⟩) NB163_157.out _).trans (((cell_far (p := ⟨gb157, _, none⟩) NB163_157.out _).trans (hHeld.2.1)))), ((cell_far (p := ⟨gb157, _, none⟩) NB168_157.out _).trans (((cell_far (p := ⟨gb157, _, none⟩) NB168_157.out _).trans (hHeld.2.2.1)))), ((cell_far (p := ⟨gb157, _, none⟩) NB168_157.out _).trans (((cell_far (p := ⟨gb157, _, none⟩) NB168_157.out _).trans (hHeld.2.2.2))))⟩ (fun hHeld => ?_)
   clear hK K
   refine one_ (i := 3) (N := none) #[true, true, true, true] rfl rfl (by kernel_rfl) (by decide) (fun K hK => ?_)
   have hs47 : w44.cell? ⟨gb158, 0, none⟩ = some (.int .i64 0) := (blk_cell BK158.out 0).trans rfl
   have hfs47 := blk_frozen BK158.out 0
   have hns47_0 := NB157_158.out
   have hns47_2 := NB163_158.out
   have hns47_3 := NB168_158.out
   have hms47_0 := NB158_157.out
   have hms47_2 := NB158_163.out
   have hms47_3 := NB158_168.out
   have hs48 : w44.cell? ⟨gb158, 1, none⟩ = some (.int .i64 0) := (blk_cell BK158.out 1).trans rfl
   have hfs48 := blk_frozen BK158.out 1
   have hns48_0 := NB157_158.out
   have hns48_2 := NB163_158.out
   have hns48_3 := NB168_158.out
   have hms48_0 := NB158_157.out
   have hms48_2 := NB158_163.out
   have hms48_3 := NB158_168.out
   refine skip_ (w1 := ?_) (by rfl) rfl ?_ ?_
   rotate_left
   ·
    go_simp
    rfl
   refine hK.out _ _ ⟨((cell_far (p := ⟨gb158, _, none⟩) NB163_158.out _).trans (((cell_far (p := ⟨gb158, _, none⟩) NB163_158.out _).trans (hHeld.1)))), ((cell_far (p := ⟨gb158, _, none⟩) NB163_158.out _).trans (((cell_far (p := ⟨gb158, _, none⟩) NB163_158.out _).trans (hHeld.2.1)))), ((cell_far (p := ⟨gb158, _, none⟩) NB168_158.out _).trans (((cell_far (p := ⟨gb158, _, none⟩) NB168_158.out _).trans (hHeld.2.2.1)))), ((cell_far (p := ⟨gb158, _, none⟩) NB168_158.out _).trans (((cell_far (p := ⟨gb158, _, none⟩) NB168_158.out _).trans (hHeld.2.2.2))))⟩ (fun hHeld => ?_)
   clear hK K
   refine done_ (by kernel_rfl) ?_
   try go_wp2
   refine bodyPost_ret (results_cc rfl _ _ gb157 gb158 71 71 #[.int .i64 t160, .int .i64 t161] #[.int .i64 t165, .int .i64 t166] (0, 0) (0, 0) _ _ rfl (by (with_reducible repeat (first | refine blk_drewN ?_ _ | refine blk_drew ?_ | refine blk_alloc ?_ _)); refine blk_far ?_ NB157_158.out _; (with_reducible repeat (first | refine blk_drewN ?_ _ | refine blk_drew ?_ | refine blk_alloc ?_ _)); refine blk_far ?_ NB157_158.out _; (with_reducible repeat (first | refine blk_drewN ?_ _ | refine blk_drew ?_ | refine blk_alloc ?_ _)); refine blk_put (cs := #[.int .i64 t160, .int .i64 0]) ?_ 1 _ rfl; (with_reducible repeat (first | refine blk_drewN ?_ _ | refine blk_drew ?_ | refine blk_alloc ?_ _)); refine blk_put (cs := #[.int .i64 0, .int .i64 0]) ?_ 0 _ rfl; (with_reducible repeat (first | refine blk_drewN ?_ _ | refine blk_drew ?_ | refine blk_alloc ?_ _)); exact BK157.out) Try.underlying71 rfl (by kernel_rfl) rfl (by (with_reducible repeat (first | refine blk_drewN ?_ _ | refine blk_drew ?_ | refine blk_alloc ?_ _)); refine blk_put (cs := #[.int .i64 t165, .int .i64 0]) ?_ 1 _ rfl; (with_reducible repeat (first | refine blk_drewN ?_ _ | refine blk_drew ?_ | refine blk_alloc ?_ _)); refine blk_put (cs := #[.int .i64 0, .int .i64 0]) ?_ 0 _ rfl; (with_reducible repeat (first | refine blk_drewN ?_ _ | refine blk_drew ?_ | refine blk_alloc ?_ _)); refine blk_far ?_ NB158_157.out _; (with_reducible repeat (first | refine blk_drewN ?_ _ | refine blk_drew ?_ | refine blk_alloc ?_ _)); refine blk_far ?_ NB158_157.out _; (with_reducible repeat (first | refine blk_drewN ?_ _ | refine blk_drew ?_ | refine blk_alloc ?_ _)); exact BK158.out) Try.underlying71 rfl (by kernel_rfl)) rfl ?_
   exact ⟨z3_21_, z3_5_⟩
 ·
  rw [if_neg c2] at H
  exact absurd H (by simp)
/-! ### spec_l03Asked: function 81 -/
def spec_l03Asked.j0 : Nat → List (S60) → Int → Bool → Option (Int)
 | 0, _, _, _ => none
 | k + 1, x0, x2, x16 => if x16 = true then (some 1) else ((spec_l00In.f x2 0 60).bind fun t174 => (if t174 = true then ((spec_l03Image.f k x0).bind fun bt175 => (if bt175.1 < (wrap64 (-bt175.2.1)) then (some 4) else (if bt175.2.2.1 > bt175.2.2.2 then (some 4) else (some 0)))) else (some 2)))
def spec_l03Asked.f (k : Nat) (l0 : List (S60)) (l1 : List (S36)) (a2 : Int) : Option (Int) := (spec_l03Machine.f l0).bind fun t172 => (if t172 = true then ((spec_l03Ok.f k l1).bind fun t173 => (spec_l03Asked.j0 k l0 a2 (!t173))) else (spec_l03Asked.j0 k l0 a2 true))
theorem spec_l03Asked.mono_l : ∀ k, (∀ y0 y1 y2, LeO (spec_l03Asked.j0 k y0 y1 y2) (spec_l03Asked.j0 (k + 1) y0 y1 y2))
 | 0 => fun _ _ _ r h => by simp [spec_l03Asked.j0] at h
 | k + 1 => by
  have ih0 := spec_l03Asked.mono_l k
  ·
   intro y0 y1 y2
   unfold spec_l03Asked.j0
   repeat' first
   | (with_reducible exact ih0 _ _ _)
   | (with_reducible exact spec_l03Image.mono _ _)
   | (with_reducible exact spec_l03Ok.mono _ _)
   | (with_reducible exact LeO.refl _)
   | (with_reducible exact LeO.none _)
   | (with_reducible refine LeO.ite ?_ ?_)
   | (with_reducible refine LeO.bind ?_ (fun _ => ?_))
   | exact ih0 _ _ _
   | exact LeO.none _
   | refine LeO.ite ?_ ?_
   | refine LeO.bind ?_ (fun _ => ?_)
theorem spec_l03Asked.mono : ∀ a0 a1 a2 k, LeO (spec_l03Asked.f k a0 a1 a2) (spec_l03Asked.f (k + 1) a0 a1 a2) := by
 intro a0 a1 a2 k
 have ih0 := spec_l03Asked.mono_l k
 unfold spec_l03Asked.f
 repeat' first
   | (with_reducible exact ih0 _ _ _)
   | (with_reducible exact spec_l03Image.mono _ _)
   | (with_reducible exact spec_l03Ok.mono _ _)
   | (with_reducible exact LeO.refl _)
   | (with_reducible exact LeO.none _)
   | (with_reducible refine LeO.ite ?_ ?_)
   | (with_reducible refine LeO.bind ?_ (fun _ => ?_))
   | exact ih0 _ _ _
   | exact LeO.none _
   | refine LeO.ite ?_ ?_
   | refine LeO.bind ?_ (fun _ => ?_)
set_option maxHeartbeats 8000000 in
set_option maxRecDepth 100000 in
theorem spec_l03Asked.calls (k : Nat) (A0 : Option Addr) (c0 : Nat) (l0 : List (S60)) (A1 : Option Addr) (c1 : Nat) (l1 : List (S36)) (a2 : Int) (r : Int) (w : World) (hr0 : Kd.C k60 w A0 l0.length l0) (hc0 : l0.length ≤ c0) (hr1 : Kd.C k36 w A1 l1.length l1) (hc1 : l1.length ≤ c1) (h : spec_l03Asked.f k l0 l1 a2 = some r) :
  Calls Try.prog 81 #[.pointer A0, .pointer A1, .int .i64 a2] w fun e w' => e = .returned (.int .i64 r) ∧ Below w.heap.size w w' := by
 have hu71 := Try.underlying71
 have HR0 := A_ hr0
 have HC0 := A_ hc0
 clear hr0 hc0
 have HR1 := A_ hr1
 have HC1 := A_ hc1
 clear hr1 hc1
 have HB := A_ (Below.refl w.heap.size w)
 have H : ((spec_l03Machine.f l0).bind fun t172 => (if t172 = true then ((spec_l03Ok.f k l1).bind fun t173 => (spec_l03Asked.j0 k l0 a2 (!t173))) else (spec_l03Asked.j0 k l0 a2 true))) = some r := h
 clear h
 have HC4 := A_ H
 clear H
 go_enter Try.func81, Try.ntmps81
 go_upto_region 1 with (fail)
 go_cut [16] (fun v16 wc => ∃ (kq : Nat) (x16_3 : Bool), v16 = .bool x16_3 ∧ Aside0 (spec_l03Asked.j0 kq l0 a2 x16_3 = some r) ∧ Aside0 (kq ≤ k) ∧ Aside0 (Below w.heap.size w wc))
 case first =>
  have H := HC4.out
  clear HC4
  replace H := Option.bind_eq_some_iff.mp H
  obtain ⟨t172, A50, H⟩ := H
  try dsimp only at H
  have A5 := A_ A50
  clear A50
  by_cases c6 : t172 = true
  ·
   subst c6
   have H1 := H; rw [if_pos rfl] at H1
   clear H
   have H := H1
   clear H1
   replace H := Option.bind_eq_some_iff.mp H
   obtain ⟨t173, A70, H⟩ := H
   try dsimp only at H
   have A7 := A_ A70
   clear A70
   have H' := A_ H
   clear H
   go_wp2_with (first | ((with_reducible refine gate_callee (f := 128) rfl ?_); refine goesL_ (some 10) rfl rfl Try.func128 (by kernel_rfl) rfl #[.pointer A0] rfl z3_6_ ?_; (with_reducible refine (spec_l03Machine.calls _ (l0).length l0 true _ ?side1 ?side2 A5.out).mono ?_); (case side1 => have hx_ := (Kd.C_below HR0.out HB.out); exact kc_); (case side2 => exact Nat.le_refl _); rintro e w' ⟨rfl, ⟨nd, rfl⟩⟩; refine ⟨_, rfl, ?_⟩) | (go_at_call 98; (with_reducible refine (spec_l03Ok.calls k _ (l1).length l1 t173 _ ?side1 ?side2 A7.out).mono ?_); (case side1 => repeat (first | exact (Kd.C_below HR1.out z3_1_) | (with_reducible refine Kd.C_alloc ?_ _) | (with_reducible refine Kd.C_drewN ?_ _) | (with_reducible refine Kd.C_drew ?_))); (case side2 => exact Nat.le_refl _); rintro e w' ⟨rfl, ⟨nd, rfl⟩⟩))
   go_meet
   case rel => exact ⟨_, (!t173), z3_27_, H', ⟨(by first | omega | exact Nat.le_refl _)⟩, ⟨z3_1_⟩⟩
  ·
   replace c6 := Bool.eq_false_iff.mpr c6
   subst c6
   have H1 := H; rw [if_neg (show ¬ (false = true) by decide)] at H1
   clear H
   have H := H1
   clear H1
   have H' := A_ H
   clear H
   go_wp2_with (first | ((with_reducible refine gate_callee (f := 128) rfl ?_); refine goesL_ (some 10) rfl rfl Try.func128 (by kernel_rfl) rfl #[.pointer A0] rfl z3_6_ ?_; (with_reducible refine (spec_l03Machine.calls _ (l0).length l0 false _ ?side1 ?side2 A5.out).mono ?_); (case side1 => have hx_ := (Kd.C_below HR0.out HB.out); exact kc_); (case side2 => exact Nat.le_refl _); rintro e w' ⟨rfl, ⟨nd, rfl⟩⟩; refine ⟨_, rfl, ?_⟩))
   go_meet
   case rel => exact ⟨_, (true), z3_27_, H', ⟨(by first | omega | exact Nat.le_refl _)⟩, ⟨z3_1_⟩⟩
 case rest =>
  clear HC4
  try clear c1
  try clear p2
  try clear c6
  obtain ⟨kq, x16_3, rfl, HA, HJ3, HB⟩ := hcut
  cases kq with
  | zero => exact absurd HA.out (by simp [spec_l03Asked.j0])
  | succ kj3 =>
   have H := HA.out
   clear HA
   simp only [spec_l03Asked.j0] at H
   by_cases c8 : x16_3 = true
   ·
    subst c8
    have H1 := H; rw [if_pos rfl] at H1
    clear H
    have H := H1
    clear H1
    obtain rfl := Option.some.inj H
    go_wp2
    go_ret
    exact ⟨z3_21_, z3_1_⟩
   ·
    replace c8 := Bool.eq_false_iff.mpr c8
    subst c8
    have H1 := H; rw [if_neg (show ¬ (false = true) by decide)] at H1
    clear H
    have H := H1
    clear H1
    replace H := Option.bind_eq_some_iff.mp H
    obtain ⟨t174, A90, H⟩ := H
    try dsimp only at H
    have A9 := A_ A90
    clear A90
    by_cases c10 : t174 = true
    ·
     subst c10
     have H1 := H; rw [if_pos rfl] at H1
     clear H
     have H := H1
     clear H1
     replace H := Option.bind_eq_some_iff.mp H
     obtain ⟨⟨t175, t176, t177, t178⟩, A110, H⟩ := H
     try dsimp only at H
     have A11 := A_ A110
     clear A110
     by_cases c12 : t175 < (wrap64 (-t176))
     ·
      rw [if_pos c12] at H
      have c12b0 := decide_eq_true c12
      clear c12
      obtain rfl := Option.some.inj H
      go_wp2_with (first | ((with_reducible refine gate_callee (f := 109) rfl ?_); refine goesL_ (some 18) rfl rfl Try.func109 (by kernel_rfl) rfl #[.int .i64 a2, .int .i64 0, .int .i64 60] rfl z3_6_ ?_; (with_reducible refine (spec_l00In.calls a2 0 60 true _ A9.out).mono ?_); rintro e w' ⟨rfl, ⟨nd, rfl⟩⟩; refine ⟨_, rfl, ?_⟩; (try (rw [drewN_self wc]; generalize hq_ : World.drewN wc _ = wc; have n0_ : Aside0 (Below w.heap.size w wc) := ⟨(by rw [← hq_]; exact z3_1_)⟩; clear HB hq_; have HB := n0_; clear n0_))) | ((with_reducible refine gate_callee (f := 129) rfl ?_); refine goesL_ (some 22) rfl rfl Try.func129 (by kernel_rfl) rfl #[.pointer A0] rfl z3_6_ ?_; (with_reducible refine (spec_l03Image.calls kj3 _ (l0).length l0 t175 t176 t177 t178 _ ?side1 ?side2 A11.out).mono ?_); (case side1 => have hx_ := (Kd.C_below HR0.out HB.out); exact kc_); (case side2 => exact Nat.le_refl _); rintro e w13 ⟨rfl, hb⟩; refine ⟨_, rfl, ?_⟩; have _ := A_ (below_step z3_1_ hb); clear HB; rename_i HB; (try clear hb)) | ((with_reducible refine gate_dst (N := 7) rfl ?_); refine box_event ?hg (N := 7) ?hd (cs := #[.int .i64 0, .int .i64 0]) (t := 71) ?hr ?_; (case hd => rfl); (case hg => rfl); (case hr => first | (go_simp; done) | (go_simp; rfl)); intro gb179 hg w14 hbox hb; have _ := A_ (below_step z3_1_ hb); have _ := A_ (hbox); have _ := A_ ((by rw [hg]; exact (below_size z3_1_) : w.heap.size ≤ gb179)); have _ := A_ ((by rw [hg]; exact (below_size z3_1_) : w.heap.size ≤ gb179)); clear HB; rename_i HB BK179 GW179 GE179; clear hb hbox hg) | ((with_reducible refine gate_dst (N := 8) rfl ?_); refine box_event ?hg (N := 8) ?hd (cs := #[.int .i64 0, .int .i64 0]) (t := 71) ?hr ?_; (case hd => rfl); (case hg => rfl); (case hr => first | (go_simp; done) | (go_simp; rfl)); intro gb180 hg w15 hbox hb; have _ := A_ (blk_below (g := gb179) (o := .cells #[.int .i64 0, .int .i64 0] 71 (0, 0)) z3_12_ hb); have _ := A_ (below_step z3_9_ hb); have _ := A_ (hbox); have _ := A_ ((by rw [hg]; exact (below_size z3_9_) : w.heap.size ≤ gb180)); have _ := A_ ((by rw [hg]; exact (below_size z3_9_) : w.heap.size ≤ gb180)); have _ := A_ ((by rw [hg]; exact Nat.ne_of_lt (blk_lt (g := gb179) (o := .cells #[.int .i64 0, .int .i64 0] 71 (0, 0)) z3_12_) : gb179 ≠ gb180)); have _ := A_ ((by rw [hg]; exact Nat.ne_of_gt (blk_lt (g := gb179) (o := .cells #[.int .i64 0, .int .i64 0] 71 (0, 0)) z3_12_) : gb180 ≠ gb179)); clear BK179 HB; rename_i BK179 HB BK180 GW180 GE180 NB179_180 NB180_179; clear hb hbox hg; have hnb16 := NB179_180.out; have hnc16 := NB180_179.out; obtain ⟨hcz17_0, hcz17_1⟩ := bc2 BK179.out; obtain ⟨hfz17_0, hfz17_1⟩ := bf2 BK179.out; obtain ⟨hcz18_0, hcz18_1⟩ := bc2 BK180.out; obtain ⟨hfz18_0, hfz18_1⟩ := bf2 BK180.out))
      go_ret
      exact ⟨z3_21_, z3_23_⟩
     ·
      rw [if_neg c12] at H
      have c12b0 := decide_eq_false c12
      clear c12
      by_cases c19 : t177 > t178
      ·
       rw [if_pos c19] at H
       have c19b0 := decide_eq_true c19
       clear c19
       obtain rfl := Option.some.inj H
       go_wp2_with (first | ((with_reducible refine gate_callee (f := 109) rfl ?_); refine goesL_ (some 18) rfl rfl Try.func109 (by kernel_rfl) rfl #[.int .i64 a2, .int .i64 0, .int .i64 60] rfl z3_6_ ?_; (with_reducible refine (spec_l00In.calls a2 0 60 true _ A9.out).mono ?_); rintro e w' ⟨rfl, ⟨nd, rfl⟩⟩; refine ⟨_, rfl, ?_⟩; (try (rw [drewN_self wc]; generalize hq_ : World.drewN wc _ = wc; have n0_ : Aside0 (Below w.heap.size w wc) := ⟨(by rw [← hq_]; exact z3_1_)⟩; clear HB hq_; have HB := n0_; clear n0_))) | ((with_reducible refine gate_callee (f := 129) rfl ?_); refine goesL_ (some 22) rfl rfl Try.func129 (by kernel_rfl) rfl #[.pointer A0] rfl z3_6_ ?_; (with_reducible refine (spec_l03Image.calls kj3 _ (l0).length l0 t175 t176 t177 t178 _ ?side1 ?side2 A11.out).mono ?_); (case side1 => have hx_ := (Kd.C_below HR0.out HB.out); exact kc_); (case side2 => exact Nat.le_refl _); rintro e w20 ⟨rfl, hb⟩; refine ⟨_, rfl, ?_⟩; have _ := A_ (below_step z3_1_ hb); clear HB; rename_i HB; (try clear hb)) | ((with_reducible refine gate_dst (N := 7) rfl ?_); refine box_event ?hg (N := 7) ?hd (cs := #[.int .i64 0, .int .i64 0]) (t := 71) ?hr ?_; (case hd => rfl); (case hg => rfl); (case hr => first | (go_simp; done) | (go_simp; rfl)); intro gb179 hg w21 hbox hb; have _ := A_ (below_step z3_1_ hb); have _ := A_ (hbox); have _ := A_ ((by rw [hg]; exact (below_size z3_1_) : w.heap.size ≤ gb179)); have _ := A_ ((by rw [hg]; exact (below_size z3_1_) : w.heap.size ≤ gb179)); clear HB; rename_i HB BK179 GW179 GE179; clear hb hbox hg) | ((with_reducible refine gate_dst (N := 8) rfl ?_); refine box_event ?hg (N := 8) ?hd (cs := #[.int .i64 0, .int .i64 0]) (t := 71) ?hr ?_; (case hd => rfl); (case hg => rfl); (case hr => first | (go_simp; done) | (go_simp; rfl)); intro gb180 hg w22 hbox hb; have _ := A_ (blk_below (g := gb179) (o := .cells #[.int .i64 0, .int .i64 0] 71 (0, 0)) z3_12_ hb); have _ := A_ (below_step z3_9_ hb); have _ := A_ (hbox); have _ := A_ ((by rw [hg]; exact (below_size z3_9_) : w.heap.size ≤ gb180)); have _ := A_ ((by rw [hg]; exact (below_size z3_9_) : w.heap.size ≤ gb180)); have _ := A_ ((by rw [hg]; exact Nat.ne_of_lt (blk_lt (g := gb179) (o := .cells #[.int .i64 0, .int .i64 0] 71 (0, 0)) z3_12_) : gb179 ≠ gb180)); have _ := A_ ((by rw [hg]; exact Nat.ne_of_gt (blk_lt (g := gb179) (o := .cells #[.int .i64 0, .int .i64 0] 71 (0, 0)) z3_12_) : gb180 ≠ gb179)); clear BK179 HB; rename_i BK179 HB BK180 GW180 GE180 NB179_180 NB180_179; clear hb hbox hg; have hnb23 := NB179_180.out; have hnc23 := NB180_179.out; obtain ⟨hcz24_0, hcz24_1⟩ := bc2 BK179.out; obtain ⟨hfz24_0, hfz24_1⟩ := bf2 BK179.out; obtain ⟨hcz25_0, hcz25_1⟩ := bc2 BK180.out; obtain ⟨hfz25_0, hfz25_1⟩ := bf2 BK180.out))
       go_ret
       exact ⟨z3_21_, z3_23_⟩
      ·
       rw [if_neg c19] at H
       have c19b0 := decide_eq_false c19
       clear c19
       obtain rfl := Option.some.inj H
       go_wp2_with (first | ((with_reducible refine gate_callee (f := 109) rfl ?_); refine goesL_ (some 18) rfl rfl Try.func109 (by kernel_rfl) rfl #[.int .i64 a2, .int .i64 0, .int .i64 60] rfl z3_6_ ?_; (with_reducible refine (spec_l00In.calls a2 0 60 true _ A9.out).mono ?_); rintro e w' ⟨rfl, ⟨nd, rfl⟩⟩; refine ⟨_, rfl, ?_⟩; (try (rw [drewN_self wc]; generalize hq_ : World.drewN wc _ = wc; have n0_ : Aside0 (Below w.heap.size w wc) := ⟨(by rw [← hq_]; exact z3_1_)⟩; clear HB hq_; have HB := n0_; clear n0_))) | ((with_reducible refine gate_callee (f := 129) rfl ?_); refine goesL_ (some 22) rfl rfl Try.func129 (by kernel_rfl) rfl #[.pointer A0] rfl z3_6_ ?_; (with_reducible refine (spec_l03Image.calls kj3 _ (l0).length l0 t175 t176 t177 t178 _ ?side1 ?side2 A11.out).mono ?_); (case side1 => have hx_ := (Kd.C_below HR0.out HB.out); exact kc_); (case side2 => exact Nat.le_refl _); rintro e w26 ⟨rfl, hb⟩; refine ⟨_, rfl, ?_⟩; have _ := A_ (below_step z3_1_ hb); clear HB; rename_i HB; (try clear hb)) | ((with_reducible refine gate_dst (N := 7) rfl ?_); refine box_event ?hg (N := 7) ?hd (cs := #[.int .i64 0, .int .i64 0]) (t := 71) ?hr ?_; (case hd => rfl); (case hg => rfl); (case hr => first | (go_simp; done) | (go_simp; rfl)); intro gb179 hg w27 hbox hb; have _ := A_ (below_step z3_1_ hb); have _ := A_ (hbox); have _ := A_ ((by rw [hg]; exact (below_size z3_1_) : w.heap.size ≤ gb179)); have _ := A_ ((by rw [hg]; exact (below_size z3_1_) : w.heap.size ≤ gb179)); clear HB; rename_i HB BK179 GW179 GE179; clear hb hbox hg) | ((with_reducible refine gate_dst (N := 8) rfl ?_); refine box_event ?hg (N := 8) ?hd (cs := #[.int .i64 0, .int .i64 0]) (t := 71) ?hr ?_; (case hd => rfl); (case hg => rfl); (case hr => first | (go_simp; done) | (go_simp; rfl)); intro gb180 hg w28 hbox hb; have _ := A_ (blk_below (g := gb179) (o := .cells #[.int .i64 0, .int .i64 0] 71 (0, 0)) z3_12_ hb); have _ := A_ (below_step z3_9_ hb); have _ := A_ (hbox); have _ := A_ ((by rw [hg]; exact (below_size z3_9_) : w.heap.size ≤ gb180)); have _ := A_ ((by rw [hg]; exact (below_size z3_9_) : w.heap.size ≤ gb180)); have _ := A_ ((by rw [hg]; exact Nat.ne_of_lt (blk_lt (g := gb179) (o := .cells #[.int .i64 0, .int .i64 0] 71 (0, 0)) z3_12_) : gb179 ≠ gb180)); have _ := A_ ((by rw [hg]; exact Nat.ne_of_gt (blk_lt (g := gb179) (o := .cells #[.int .i64 0, .int .i64 0] 71 (0, 0)) z3_12_) : gb180 ≠ gb179)); clear BK179 HB; rename_i BK179 HB BK180 GW180 GE180 NB179_180 NB180_179; clear hb hbox hg; have hnb29 := NB179_180.out; have hnc29 := NB180_179.out; obtain ⟨hcz30_0, hcz30_1⟩ := bc2 BK179.out; obtain ⟨hfz30_0, hfz30_1⟩ := bf2 BK179.out; obtain ⟨hcz31_0, hcz31_1⟩ := bc2 BK180.out; obtain ⟨hfz31_0, hfz31_1⟩ := bf2 BK180.out))
       go_ret
       exact ⟨z3_21_, z3_23_⟩
    ·
     replace c10 := Bool.eq_false_iff.mpr c10
     subst c10
     have H1 := H; rw [if_neg (show ¬ (false = true) by decide)] at H1
     clear H
     have H := H1
     clear H1
     obtain rfl := Option.some.inj H
     go_wp2_with (first | ((with_reducible refine gate_callee (f := 109) rfl ?_); refine goesL_ (some 18) rfl rfl Try.func109 (by kernel_rfl) rfl #[.int .i64 a2, .int .i64 0, .int .i64 60] rfl z3_6_ ?_; (with_reducible refine (spec_l00In.calls a2 0 60 false _ A9.out).mono ?_); rintro e w' ⟨rfl, ⟨nd, rfl⟩⟩; refine ⟨_, rfl, ?_⟩))
     go_ret
     exact ⟨z3_21_, z3_1_⟩
/-! ### spec_l03Four: function 130 -/
def spec_l03Four.f (k : Nat) (l0 : List (S60)) : Option (Int) := if 0 < (l0.length : Int) then ((spec_l03Common.f k ((rd_T60 l0 0).f0) ((rd_T60 l0 0).f1)).bind fun t182 => ((spec_l03Common.f k ((rd_T60 l0 0).f2) ((rd_T60 l0 0).f3)).bind fun t183 => ((spec_l03Common.f k t182 t183).bind fun t184 => (some t184)))) else (none)
theorem spec_l03Four.mono : ∀ a0 k, LeO (spec_l03Four.f k a0) (spec_l03Four.f (k + 1) a0) := by
 intro a0 k
 unfold spec_l03Four.f
 repeat' first
   | (with_reducible exact spec_l03Common.mono _ _ _)
   | (with_reducible exact LeO.refl _)
   | (with_reducible exact LeO.none _)
   | (with_reducible refine LeO.ite ?_ ?_)
   | (with_reducible refine LeO.bind ?_ (fun _ => ?_))
   | exact LeO.none _
   | refine LeO.ite ?_ ?_
   | refine LeO.bind ?_ (fun _ => ?_)
set_option maxHeartbeats 8000000 in
set_option maxRecDepth 100000 in
theorem spec_l03Four.calls (k : Nat) (A0 : Option Addr) (c0 : Nat) (l0 : List (S60)) (r : Int) (w : World) (hr0 : Kd.C k60 w A0 l0.length l0) (hc0 : l0.length ≤ c0) (h : spec_l03Four.f k l0 = some r) :
  Calls Try.prog 130 #[.pointer A0] w fun e w' => e = .returned (.int .i64 r) ∧ Drawn0 w w' := by
 have HR0 := A_ hr0
 have HC0 := A_ hc0
 clear hr0 hc0
 have H : (if 0 < (l0.length : Int) then ((spec_l03Common.f k ((rd_T60 l0 0).f0) ((rd_T60 l0 0).f1)).bind fun t182 => ((spec_l03Common.f k ((rd_T60 l0 0).f2) ((rd_T60 l0 0).f3)).bind fun t183 => ((spec_l03Common.f k t182 t183).bind fun t184 => (some t184)))) else (none)) = some r := h
 clear h
 by_cases c2 : 0 < (l0.length : Int)
 ·
  rw [if_pos c2] at H
  have c2b0 := decide_eq_true c2
  have c2b1 : decide (0 < l0.length) = true := decide_eq_true (by omega)
  clear c2
  replace H := Option.bind_eq_some_iff.mp H
  obtain ⟨t182, A30, H⟩ := H
  try dsimp only at H
  have A3 := A_ A30
  clear A30
  replace H := Option.bind_eq_some_iff.mp H
  obtain ⟨t183, A40, H⟩ := H
  try dsimp only at H
  have A4 := A_ A40
  clear A40
  replace H := Option.bind_eq_some_iff.mp H
  obtain ⟨t184, A50, H⟩ := H
  try dsimp only at H
  have A5 := A_ A50
  clear A50
  obtain rfl := Option.some.inj H
  have q181 : 0 < (l0.length : Int) := of_decide_eq_true (by assumption)
  obtain ⟨ad181, e181, hx181_0, hx181_1, hx181_2, hx181_3⟩ := rp_T60 HR0.out q181
  cases e181
  go_enter Try.func130, Try.ntmps130
  go_wp2_with (first | (go_at_call 143; (with_reducible refine (spec_l03Common.calls k ((rd_T60 l0 0).f0) ((rd_T60 l0 0).f1) t182 _ A3.out).mono ?_); rintro e w' ⟨rfl, ⟨nd, rfl⟩⟩; (try first | exact ⟨rfl, _, World.drewN_drewN _ _ _⟩ | exact ⟨rfl, _, Eq.trans (World.drewN_drewN _ _ _) (congrArg (World.drewN _) (Nat.add_assoc _ _ _))⟩)) | (go_at_call 143; (with_reducible refine (spec_l03Common.calls k ((rd_T60 l0 0).f2) ((rd_T60 l0 0).f3) t183 _ A4.out).mono ?_); rintro e w' ⟨rfl, ⟨nd, rfl⟩⟩; (try first | exact ⟨rfl, _, World.drewN_drewN _ _ _⟩ | exact ⟨rfl, _, Eq.trans (World.drewN_drewN _ _ _) (congrArg (World.drewN _) (Nat.add_assoc _ _ _))⟩)) | (go_at_call 143; (with_reducible refine (spec_l03Common.calls k t182 t183 t184 _ A5.out).mono ?_); rintro e w' ⟨rfl, ⟨nd, rfl⟩⟩; (try first | exact ⟨rfl, _, World.drewN_drewN _ _ _⟩ | exact ⟨rfl, _, Eq.trans (World.drewN_drewN _ _ _) (congrArg (World.drewN _) (Nat.add_assoc _ _ _))⟩)))
  repeat (go_quiet (first | (go_at_call 143; (with_reducible refine (spec_l03Common.calls k ((rd_T60 l0 0).f0) ((rd_T60 l0 0).f1) t182 _ A3.out).mono ?_); rintro e w' ⟨rfl, ⟨nd, rfl⟩⟩; (try first | exact ⟨rfl, _, World.drewN_drewN _ _ _⟩ | exact ⟨rfl, _, Eq.trans (World.drewN_drewN _ _ _) (congrArg (World.drewN _) (Nat.add_assoc _ _ _))⟩)) | (go_at_call 143; (with_reducible refine (spec_l03Common.calls k ((rd_T60 l0 0).f2) ((rd_T60 l0 0).f3) t183 _ A4.out).mono ?_); rintro e w' ⟨rfl, ⟨nd, rfl⟩⟩; (try first | exact ⟨rfl, _, World.drewN_drewN _ _ _⟩ | exact ⟨rfl, _, Eq.trans (World.drewN_drewN _ _ _) (congrArg (World.drewN _) (Nat.add_assoc _ _ _))⟩)) | (go_at_call 143; (with_reducible refine (spec_l03Common.calls k t182 t183 t184 _ A5.out).mono ?_); rintro e w' ⟨rfl, ⟨nd, rfl⟩⟩; (try first | exact ⟨rfl, _, World.drewN_drewN _ _ _⟩ | exact ⟨rfl, _, Eq.trans (World.drewN_drewN _ _ _) (congrArg (World.drewN _) (Nat.add_assoc _ _ _))⟩))); try go_wp2_with (first | (go_at_call 143; (with_reducible refine (spec_l03Common.calls k ((rd_T60 l0 0).f0) ((rd_T60 l0 0).f1) t182 _ A3.out).mono ?_); rintro e w' ⟨rfl, ⟨nd, rfl⟩⟩; (try first | exact ⟨rfl, _, World.drewN_drewN _ _ _⟩ | exact ⟨rfl, _, Eq.trans (World.drewN_drewN _ _ _) (congrArg (World.drewN _) (Nat.add_assoc _ _ _))⟩)) | (go_at_call 143; (with_reducible refine (spec_l03Common.calls k ((rd_T60 l0 0).f2) ((rd_T60 l0 0).f3) t183 _ A4.out).mono ?_); rintro e w' ⟨rfl, ⟨nd, rfl⟩⟩; (try first | exact ⟨rfl, _, World.drewN_drewN _ _ _⟩ | exact ⟨rfl, _, Eq.trans (World.drewN_drewN _ _ _) (congrArg (World.drewN _) (Nat.add_assoc _ _ _))⟩)) | (go_at_call 143; (with_reducible refine (spec_l03Common.calls k t182 t183 t184 _ A5.out).mono ?_); rintro e w' ⟨rfl, ⟨nd, rfl⟩⟩; (try first | exact ⟨rfl, _, World.drewN_drewN _ _ _⟩ | exact ⟨rfl, _, Eq.trans (World.drewN_drewN _ _ _) (congrArg (World.drewN _) (Nat.add_assoc _ _ _))⟩))))
  go_ret
  exact ⟨z3_27_, (by repeat (first | exact Drawn0.refl _ | apply Drawn0.step))⟩
 ·
  rw [if_neg c2] at H
  exact absurd H (by simp)
end Go.Proofs.Ytpfnohdnaocpdaa.PT

import Derived.Test.YtififhihgkbafaaPMx0
import Derived.Test.YtififhihgkbafaaPMx1
namespace Go.Proofs.Ytififhihgkbafaa.PM
open Go.RowKit Go.Proofs.YtififhihgkbafaaW.PrintWords Go.Proofs.YtififhihgkbafaaW.PrintLast Go.Proofs.YtififhihgkbafaaW.PrintMore Go.Proofs.YtififhihgkbafaaRP
attribute [local go_sem] max2_int min2_int max_two min_two max_three min_three max_four min_four Go.Proofs.YtififhihgkbafaaRP.max_eight Go.Proofs.YtififhihgkbafaaRP.tmod_len   -- for this text's walks alone
set_option linter.unusedVariables false
set_option linter.unusedSimpArgs false
theorem z2_1_ {P : Prop} (h : P := by (with_reducible repeat (first | refine blk_drewN ?_ _ | refine blk_drew ?_ | refine blk_alloc ?_ _)); exact BK117.out) : P := h
theorem z2_2_ {P : Prop} (h : P := by (with_reducible repeat (first | refine blk_drewN ?_ _ | refine blk_drew ?_ | refine blk_alloc ?_ _)); exact BK118.out) : P := h
theorem z2_3_ {P : Prop} (h : P := by repeat (first | (with_reducible first | exact HB.out | apply below_alloc | apply pw_below_drewN | apply below_drew1 | refine below_set ?_ GE117.out | refine below_set ?_ GE118.out | refine below_set ?_ GE123.out) | exact HB.out)) : P := h
theorem z2_4_ {P : Prop} (h : P := by repeat (first | (with_reducible first | exact HB.out | apply below_alloc | apply pw_below_drewN | apply below_drew1 | refine below_set ?_ GE117.out | refine below_set ?_ GE118.out | refine below_set ?_ GE123.out | refine below_set ?_ GE128.out) | exact HB.out)) : P := h
theorem z2_5_ {P : Prop} (h : P := by (with_reducible repeat (first | refine blk_drewN ?_ _ | refine blk_drew ?_ | refine blk_alloc ?_ _)); exact BK123.out) : P := h
theorem z2_6_ {P : Prop} (h : P := by (with_reducible repeat (first | refine blk_drewN ?_ _ | refine blk_drew ?_ | refine blk_alloc ?_ _)); refine blk_put (cs := #[.int .i64 t125, .int .i64 0]) ?_ 1 _ rfl; (with_reducible repeat (first | refine blk_drewN ?_ _ | refine blk_drew ?_ | refine blk_alloc ?_ _)); refine blk_put (cs := #[.int .i64 0, .int .i64 0]) ?_ 0 _ rfl; (with_reducible repeat (first | refine blk_drewN ?_ _ | refine blk_drew ?_ | refine blk_alloc ?_ _)); exact BK128.out) : P := h
theorem z2_7_ {P : Prop} (h : P := by (try simp only [List.map_toArray, List.map_cons, List.map_nil]); first | done | rfl | (simp only [List.length_drop, List.length_take]; rfl)) : P := h
theorem z2_8_ {P : Prop} (h : P := by repeat (first | (with_reducible first | exact HB.out | apply below_alloc | apply pw_below_drewN | apply below_drew1 | refine below_set ?_ GE117.out | refine below_set ?_ GE118.out) | exact HB.out)) : P := h
theorem z2_9_ {P : Prop} (h : P := by (with_reducible repeat (first | refine blk_drewN ?_ _ | refine blk_drew ?_ | refine blk_alloc ?_ _)); refine blk_far ?_ NB123_128.out _; (with_reducible repeat (first | refine blk_drewN ?_ _ | refine blk_drew ?_ | refine blk_alloc ?_ _)); refine blk_far ?_ NB123_128.out _; (with_reducible repeat (first | refine blk_drewN ?_ _ | refine blk_drew ?_ | refine blk_alloc ?_ _)); exact BK123.out) : P := h
theorem z2_10_ {P : Prop} (h : P := by first | rfl | (simp; done) | (simp [*]; done) | (simp [isE_]; done)) : P := h
theorem z2_11_ {P : Prop} (h : P := by repeat (first | exact Drawn0.refl _ | apply Drawn0.step)) : P := h
theorem z2_12_ {P : Prop} (h : P := by first | exact Nat.ne_of_lt (Nat.lt_of_lt_of_le (by have := World.block_lt_of_cell? _ _ hw124_3; first | rwa [add_block] at this | exact this) GW128.out) | (rw [add_block]; exact Nat.ne_of_lt (Nat.lt_of_lt_of_le (by have := World.block_lt_of_cell? _ _ hw124_3; first | rwa [add_block] at this | exact this) GW128.out)) | (show (Addr.add _ _).block ≠ _; rw [add_block]; exact Nat.ne_of_lt (Nat.lt_of_lt_of_le (by have := World.block_lt_of_cell? _ _ hw124_3; first | rwa [add_block] at this | exact this) GW128.out)) | (dsimp only; exact Nat.ne_of_lt (Nat.lt_of_lt_of_le (by have := World.block_lt_of_cell? _ _ hw124_3; first | rwa [add_block] at this | exact this) GW128.out))) : P := h
theorem z2_13_ {P : Prop} (h : P := by first | exact Nat.ne_of_lt (Nat.lt_of_lt_of_le (by have := World.block_lt_of_cell? _ _ hw124_2; first | rwa [add_block] at this | exact this) GW128.out) | (rw [add_block]; exact Nat.ne_of_lt (Nat.lt_of_lt_of_le (by have := World.block_lt_of_cell? _ _ hw124_2; first | rwa [add_block] at this | exact this) GW128.out)) | (show (Addr.add _ _).block ≠ _; rw [add_block]; exact Nat.ne_of_lt (Nat.lt_of_lt_of_le (by have := World.block_lt_of_cell? _ _ hw124_2; first | rwa [add_block] at this | exact this) GW128.out)) | (dsimp only; exact Nat.ne_of_lt (Nat.lt_of_lt_of_le (by have := World.block_lt_of_cell? _ _ hw124_2; first | rwa [add_block] at this | exact this) GW128.out))) : P := h
theorem z2_14_ {P : Prop} (h : P := by first | exact Nat.ne_of_lt (Nat.lt_of_lt_of_le (by have := World.block_lt_of_cell? _ _ hw124_1; first | rwa [add_block] at this | exact this) GW128.out) | (rw [add_block]; exact Nat.ne_of_lt (Nat.lt_of_lt_of_le (by have := World.block_lt_of_cell? _ _ hw124_1; first | rwa [add_block] at this | exact this) GW128.out)) | (show (Addr.add _ _).block ≠ _; rw [add_block]; exact Nat.ne_of_lt (Nat.lt_of_lt_of_le (by have := World.block_lt_of_cell? _ _ hw124_1; first | rwa [add_block] at this | exact this) GW128.out)) | (dsimp only; exact Nat.ne_of_lt (Nat.lt_of_lt_of_le (by have := World.block_lt_of_cell? _ _ hw124_1; first | rwa [add_block] at this | exact this) GW128.out))) : P := h
theorem z2_15_ {P : Prop} (h : P := by first | exact Nat.ne_of_lt (Nat.lt_of_lt_of_le (by have := World.block_lt_of_cell? _ _ hw124_0; first | rwa [add_block] at this | exact this) GW128.out) | (rw [add_block]; exact Nat.ne_of_lt (Nat.lt_of_lt_of_le (by have := World.block_lt_of_cell? _ _ hw124_0; first | rwa [add_block] at this | exact this) GW128.out)) | (show (Addr.add _ _).block ≠ _; rw [add_block]; exact Nat.ne_of_lt (Nat.lt_of_lt_of_le (by have := World.block_lt_of_cell? _ _ hw124_0; first | rwa [add_block] at this | exact this) GW128.out)) | (dsimp only; exact Nat.ne_of_lt (Nat.lt_of_lt_of_le (by have := World.block_lt_of_cell? _ _ hw124_0; first | rwa [add_block] at this | exact this) GW128.out))) : P := h
theorem z2_16_ {P : Prop} (h : P := by first | exact Nat.ne_of_lt (Nat.lt_of_lt_of_le (by have := World.block_lt_of_cell? _ _ hw119_3; first | rwa [add_block] at this | exact this) GW123.out) | (rw [add_block]; exact Nat.ne_of_lt (Nat.lt_of_lt_of_le (by have := World.block_lt_of_cell? _ _ hw119_3; first | rwa [add_block] at this | exact this) GW123.out)) | (show (Addr.add _ _).block ≠ _; rw [add_block]; exact Nat.ne_of_lt (Nat.lt_of_lt_of_le (by have := World.block_lt_of_cell? _ _ hw119_3; first | rwa [add_block] at this | exact this) GW123.out)) | (dsimp only; exact Nat.ne_of_lt (Nat.lt_of_lt_of_le (by have := World.block_lt_of_cell? _ _ hw119_3; first | rwa [add_block] at this | exact this) GW123.out))) : P := h
theorem z2_17_ {P : Prop} (h : P := by first | exact Nat.ne_of_lt (Nat.lt_of_lt_of_le (by have := World.block_lt_of_cell? _ _ hw119_2; first | rwa [add_block] at this | exact this) GW123.out) | (rw [add_block]; exact Nat.ne_of_lt (Nat.lt_of_lt_of_le (by have := World.block_lt_of_cell? _ _ hw119_2; first | rwa [add_block] at this | exact this) GW123.out)) | (show (Addr.add _ _).block ≠ _; rw [add_block]; exact Nat.ne_of_lt (Nat.lt_of_lt_of_le (by have := World.block_lt_of_cell? _ _ hw119_2; first | rwa [add_block] at this | exact this) GW123.out)) | (dsimp only; exact Nat.ne_of_lt (Nat.lt_of_lt_of_le (by have := World.block_lt_of_cell? _ _ hw119_2; first | rwa [add_block] at this | exact this) GW123.out))) : P := h
theorem z2_18_ {P : Prop} (h : P := by first | exact Nat.ne_of_lt (Nat.lt_of_lt_of_le (by have := World.block_lt_of_cell? _ _ hw119_1; first | rwa [add_block] at this | exact this) GW123.out) | (rw [add_block]; exact Nat.ne_of_lt (Nat.lt_of_lt_of_le (by have := World.block_lt_of_cell? _ _ hw119_1; first | rwa [add_block] at this | exact this) GW123.out)) | (show (Addr.add _ _).block ≠ _; rw [add_block]; exact Nat.ne_of_lt (Nat.lt_of_lt_of_le (by have := World.block_lt_of_cell? _ _ hw119_1; first | rwa [add_block] at this | exact this) GW123.out)) | (dsimp only; exact Nat.ne_of_lt (Nat.lt_of_lt_of_le (by have := World.block_lt_of_cell? _ _ hw119_1; first | rwa [add_block] at this | exact this) GW123.out))) : P := h
theorem z2_19_ {P : Prop} (h : P := by first | exact Nat.ne_of_lt (Nat.lt_of_lt_of_le (by have := World.block_lt_of_cell? _ _ hw119_0; first | rwa [add_block] at this | exact this) GW123.out) | (rw [add_block]; exact Nat.ne_of_lt (Nat.lt_of_lt_of_le (by have := World.block_lt_of_cell? _ _ hw119_0; first | rwa [add_block] at this | exact this) GW123.out)) | (show (Addr.add _ _).block ≠ _; rw [add_block]; exact Nat.ne_of_lt (Nat.lt_of_lt_of_le (by have := World.block_lt_of_cell? _ _ hw119_0; first | rwa [add_block] at this | exact this) GW123.out)) | (dsimp only; exact Nat.ne_of_lt (Nat.lt_of_lt_of_le (by have := World.block_lt_of_cell? _ _ hw119_0; first | rwa [add_block] at this | exact this) GW123.out))) : P := h
theorem z2_20_ {P : Prop} (h : P := by (with_reducible repeat (first | refine blk_drewN ?_ _ | refine blk_drew ?_ | refine blk_alloc ?_ _)); exact BK128.out) : P := h
theorem z2_21_ {P : Prop} (h : P := by (with_reducible repeat (first | refine blk_drewN ?_ _ | refine blk_drew ?_ | refine blk_alloc ?_ _)); refine blk_far ?_ NB118_128.out _; (with_reducible repeat (first | refine blk_drewN ?_ _ | refine blk_drew ?_ | refine blk_alloc ?_ _)); refine blk_far ?_ NB118_128.out _; (with_reducible repeat (first | refine blk_drewN ?_ _ | refine blk_drew ?_ | refine blk_alloc ?_ _)); exact BK118.out) : P := h
theorem z2_22_ {P : Prop} (h : P := by (with_reducible repeat (first | refine blk_drewN ?_ _ | refine blk_drew ?_ | refine blk_alloc ?_ _)); refine blk_far ?_ NB117_128.out _; (with_reducible repeat (first | refine blk_drewN ?_ _ | refine blk_drew ?_ | refine blk_alloc ?_ _)); refine blk_far ?_ NB117_128.out _; (with_reducible repeat (first | refine blk_drewN ?_ _ | refine blk_drew ?_ | refine blk_alloc ?_ _)); exact BK117.out) : P := h
theorem z2_23_ {P : Prop} (h : P := by repeat (first | (with_reducible first | exact HB.out | apply below_alloc | apply pw_below_drewN | apply below_drew1 | refine below_set ?_ GE117.out) | exact HB.out)) : P := h
theorem z2_24_ {P : Prop} (h : P := by repeat (first | (with_reducible first | exact HB.out | apply below_alloc | apply pw_below_drewN | apply below_drew1) | exact HB.out)) : P := h
theorem z2_25_ {P : Prop} (h : P := by simp only [putAll, Act.put, sA_, sB_, sC_]) : P := h
theorem z2_26_ {P : Prop} (h : P := by first | rfl | (simp [errW_none, errW_some] <;> rfl) | (simp [*, errW_none, errW_some] <;> rfl)) : P := h
/-! ### spec_l03Image: function 47 -/
def spec_l03Image.f (k : Nat) (l0 : List (S31)) : Option (Int × Int × Int × Int) := if 0 < (l0.length : Int) then ((spec_l03Make.f k (wrap64 (((rd_T31 l0 0).f1) - ((rd_T31 l0 0).f0))) (wrap64 (((rd_T31 l0 0).f3) - ((rd_T31 l0 0).f2)))).bind fun bt120 => ((spec_l03Make.f k (wrap64 (((rd_T31 l0 0).f1) + ((rd_T31 l0 0).f0))) (wrap64 (((rd_T31 l0 0).f3) + ((rd_T31 l0 0).f2)))).bind fun bt125 => ((spec_l03Order.f [(⟨bt125.1, bt125.2.1⟩ : S55)] [(⟨bt120.1, bt120.2.1⟩ : S55)]).bind fun t131 => (if t131 < 0 then (some (bt125.1, bt125.2.1, bt120.1, bt120.2.1)) else (some (bt120.1, bt120.2.1, bt125.1, bt125.2.1)))))) else (none)
theorem spec_l03Image.mono : ∀ a0 k, LeO (spec_l03Image.f k a0) (spec_l03Image.f (k + 1) a0) := by
 intro a0 k
 unfold spec_l03Image.f
 repeat' first
   | (with_reducible exact spec_l03Make.mono _ _ _)
   | (with_reducible exact LeO.refl _)
   | (with_reducible exact LeO.none _)
   | (with_reducible refine LeO.ite ?_ ?_)
   | (with_reducible refine LeO.bind ?_ (fun _ => ?_))
   | exact LeO.none _
   | refine LeO.ite ?_ ?_
   | refine LeO.bind ?_ (fun _ => ?_)
def spec_l03Image.T1 : Bool × List (List Nat × List Nat) := (true, [([], []), ([0], [0]), ([1], [1]), ([2], [2]), ([], []), ([4], [4]), ([5], [5]), ([6], [6]), ([3, 7], [3, 7]), ([], []), ([9], [9]), ([10], [10]), ([11], [11]), ([], []), ([13], [13]), ([14], [14]), ([15], [15]), ([12, 16], [12, 16]), ([8, 17], [8, 17]), ([18], [18]), ([19], [19]), ([19], [19]), ([], []), ([22, 20, 18, 0, 1, 2, 3, 4, 5, 6, 7, 8, 9, 10, 11, 12, 13, 14, 15, 16, 17, 18, 19, 20, 22], [20, 22]), ([21, 23, 0, 1, 2, 3, 4, 5, 6, 7, 8, 9, 10, 11, 12, 13, 14, 15, 16, 17, 18, 19, 20, 21, 22, 23], [21])])
def spec_l03Image.B1 : List Nat := [0, 1, 3, 7, 0, 16, 48, 112, 255, 0, 512, 1536, 3584, 0, 8192, 24576, 57344, 130560, 262143, 524287, 1048575, 1048575, 0, 6291455, 16777215]
theorem spec_l03Image.tab1 : rtab .any (opsOf Try.f47 1) = spec_l03Image.T1 := by kernel_rfl
theorem spec_l03Image.bits1 : waitsOk spec_l03Image.T1.2 spec_l03Image.B1 = true := by kernel_rfl
def spec_l03Image.T2 : Bool × List (List Nat × List Nat) := (true, [([], []), ([0], [0]), ([1], [1]), ([2], [2]), ([], []), ([4], [4]), ([5], [5]), ([6], [6]), ([3, 7], [3, 7]), ([], []), ([9], [9]), ([10], [10]), ([11], [11]), ([], []), ([13], [13]), ([14], [14]), ([15], [15]), ([12, 16], [12, 16]), ([8, 17], [8, 17]), ([18], [18]), ([19], [19]), ([19], [19]), ([], []), ([22, 20, 18, 0, 1, 2, 3, 4, 5, 6, 7, 8, 9, 10, 11, 12, 13, 14, 15, 16, 17, 18, 19, 20, 22], [20, 22]), ([21, 23, 0, 1, 2, 3, 4, 5, 6, 7, 8, 9, 10, 11, 12, 13, 14, 15, 16, 17, 18, 19, 20, 21, 22, 23], [21])])
def spec_l03Image.B2 : List Nat := [0, 1, 3, 7, 0, 16, 48, 112, 255, 0, 512, 1536, 3584, 0, 8192, 24576, 57344, 130560, 262143, 524287, 1048575, 1048575, 0, 6291455, 16777215]
theorem spec_l03Image.tab2 : rtab .any (opsOf Try.f47 2) = spec_l03Image.T2 := by kernel_rfl
theorem spec_l03Image.bits2 : waitsOk spec_l03Image.T2.2 spec_l03Image.B2 = true := by kernel_rfl
set_option maxHeartbeats 8000000 in
set_option maxRecDepth 100000 in
theorem spec_l03Image.calls (k : Nat) (A0 : Option Addr) (c0 : Nat) (l0 : List (S31)) (r1 : Int) (r2 : Int) (r3 : Int) (r4 : Int) (w : World) (hr0 : Kd.C k31 w A0 l0.length l0) (hc0 : l0.length ≤ c0) (h : spec_l03Image.f k l0 = some (r1, r2, r3, r4)) :
  Calls Try.prog 47 #[.pointer A0] w fun e w' => e = .returned (.tuple #[.agg #[.int .i64 r1, .int .i64 r2], .agg #[.int .i64 r3, .int .i64 r4]]) ∧ Below w.heap.size w w' := by
 have hu55 := Try.underlying55
 have HR0 := A_ hr0
 have HC0 := A_ hc0
 clear hr0 hc0
 have HB := A_ (Below.refl w.heap.size w)
 have H : (if 0 < (l0.length : Int) then ((spec_l03Make.f k (wrap64 (((rd_T31 l0 0).f1) - ((rd_T31 l0 0).f0))) (wrap64 (((rd_T31 l0 0).f3) - ((rd_T31 l0 0).f2)))).bind fun bt120 => ((spec_l03Make.f k (wrap64 (((rd_T31 l0 0).f1) + ((rd_T31 l0 0).f0))) (wrap64 (((rd_T31 l0 0).f3) + ((rd_T31 l0 0).f2)))).bind fun bt125 => ((spec_l03Order.f [(⟨bt125.1, bt125.2.1⟩ : S55)] [(⟨bt120.1, bt120.2.1⟩ : S55)]).bind fun t131 => (if t131 < 0 then (some (bt125.1, bt125.2.1, bt120.1, bt120.2.1)) else (some (bt120.1, bt120.2.1, bt125.1, bt125.2.1)))))) else (none)) = some (r1, r2, r3, r4) := h
 clear h
 by_cases c2 : 0 < (l0.length : Int)
 ·
  rw [if_pos c2] at H
  have c2b0 := decide_eq_true c2
  have c2b1 : decide (0 < l0.length) = true := decide_eq_true (by omega)
  clear c2
  replace H := Option.bind_eq_some_iff.mp H
  obtain ⟨⟨t120, t121, t122⟩, A30, H⟩ := H
  try dsimp only at H
  have A3 := A_ A30
  clear A30
  replace H := Option.bind_eq_some_iff.mp H
  obtain ⟨⟨t125, t126, t127⟩, A40, H⟩ := H
  try dsimp only at H
  have A4 := A_ A40
  clear A40
  replace H := Option.bind_eq_some_iff.mp H
  obtain ⟨t131, A50, H⟩ := H
  try dsimp only at H
  have A5 := A_ A50
  clear A50
  have HZ_ := A_ H
  clear H
  go_enter Try.func47, Try.ntmps47
  try go_wp2_with (first | ((with_reducible refine gate_dst (N := 2) rfl ?_); refine box_event ?hg (N := 2) ?hd (cs := #[.int .i64 0, .int .i64 0]) (t := 55) ?hr ?_; (case hd => rfl); (case hg => rfl); (case hr => first | (go_simp; done) | (go_simp; rfl)); intro gb117 hg w7 hbox hb; have _ := A_ (below_step z2_24_ hb); have _ := A_ (hbox); have _ := A_ ((by rw [hg]; exact (below_size z2_24_) : w.heap.size ≤ gb117)); have _ := A_ ((by rw [hg]; exact (below_size z2_24_) : w.heap.size ≤ gb117)); clear HB; rename_i HB BK117 GW117 GE117; clear hb hbox hg) | ((with_reducible refine gate_dst (N := 3) rfl ?_); refine box_event ?hg (N := 3) ?hd (cs := #[.int .i64 0, .int .i64 0]) (t := 55) ?hr ?_; (case hd => rfl); (case hg => rfl); (case hr => first | (go_simp; done) | (go_simp; rfl)); intro gb118 hg w8 hbox hb; have _ := A_ (blk_below (g := gb117) (o := .cells #[.int .i64 0, .int .i64 0] 55 (0, 0)) z2_1_ hb); have _ := A_ (below_step z2_23_ hb); have _ := A_ (hbox); have _ := A_ ((by rw [hg]; exact (below_size z2_23_) : w.heap.size ≤ gb118)); have _ := A_ ((by rw [hg]; exact (below_size z2_23_) : w.heap.size ≤ gb118)); have _ := A_ ((by rw [hg]; exact Nat.ne_of_lt (blk_lt (g := gb117) (o := .cells #[.int .i64 0, .int .i64 0] 55 (0, 0)) z2_1_) : gb117 ≠ gb118)); have _ := A_ ((by rw [hg]; exact Nat.ne_of_gt (blk_lt (g := gb117) (o := .cells #[.int .i64 0, .int .i64 0] 55 (0, 0)) z2_1_) : gb118 ≠ gb117)); clear BK117 HB; rename_i BK117 HB BK118 GW118 GE118 NB117_118 NB118_117; clear hb hbox hg))
  have _ := A_ (blk_drew BK117.out)
  have _ := A_ (blk_drew BK118.out)
  have _ := A_ (below_drew1 HB.out)
  clear BK117 BK118 HB
  rename_i BK117 BK118 HB
  have q119 : 0 < (l0.length : Int) := of_decide_eq_true (by assumption)
  obtain ⟨ad119, e119, hx119_0, hx119_1, hx119_2, hx119_3⟩ := rp_T31 HR0.out q119
  have hw119_3 := hx119_3
  have hw119_2 := hx119_2
  have hw119_1 := hx119_1
  have hw119_0 := hx119_0
  cases e119
  replace hx119_0 := cel HB.out hx119_0
  replace hx119_1 := cel HB.out hx119_1
  replace hx119_2 := cel HB.out hx119_2
  replace hx119_3 := cel HB.out hx119_3
  refine start_ (n := 25) (S := fun w' => w'.cell? ad119 = some (.int .i64 ((rd_T31 l0 0).f0)) ∧ w'.cell? ⟨ad119.block, ad119.off + 1, none⟩ = some (.int .i64 ((rd_T31 l0 0).f1)) ∧ w'.cell? ⟨ad119.block, ad119.off + 2, none⟩ = some (.int .i64 ((rd_T31 l0 0).f2)) ∧ w'.cell? ⟨ad119.block, ad119.off + 3, none⟩ = some (.int .i64 ((rd_T31 l0 0).f3))) (ds := []) #[false, false, false, false, false, false, false, false, false, false, false, false, false, false, false, false, false, false, false, false, false, false, false, false, false] (by kernel_rfl) rfl rfl ⟨(cel HB.out hw119_0 :), (cel HB.out hw119_1 :), (cel HB.out hw119_2 :), (cel HB.out hw119_3 :)⟩ (fun hHeld => ?_); refine with_tabW spec_l03Image.tab1 spec_l03Image.bits1 (fun HT_ HW_ => ?_)
  generalize w8.drew = w9 at BK117 BK118 HB hx119_0 hx119_1 hx119_2 hx119_3 hHeld ⊢
  refine pure_ (i := 0) (N := some 9) (v := ?_) (a' := ?_) #[true, false, false, false, false, false, false, false, false, false, false, false, false, false, false, false, false, false, false, false, false, false, false, false, false] rfl rfl (any_of HT_.out (by kernel_rfl)) (fun _ _ _ h => h) (Or.inl ⟨by rfl, ?_⟩) ?_ ?_
  rotate_left
  ·
   intro w'
   go_simp
   with_reducible rfl
  rotate_left
  ·
   simp only [Act.put, sA_, sB_, sC_, i64_w, i32_w]
   rfl
  refine pure_ (i := 1) (N := some 10) (v := ?_) (a' := ?_) #[true, true, false, false, false, false, false, false, false, false, false, false, false, false, false, false, false, false, false, false, false, false, false, false, false] rfl rfl (any_of HT_.out (by kernel_rfl)) (fun _ _ _ h => h) (Or.inl ⟨by rfl, ?_⟩) ?_ ?_
  rotate_left
  ·
   intro w'
   go_simp
   with_reducible rfl
  rotate_left
  ·
   simp only [Act.put, sA_, sB_, sC_, i64_w, i32_w]
   rfl
  refine pure_ (i := 2) (N := some 11) (v := ?_) (a' := ?_) #[true, true, true, false, false, false, false, false, false, false, false, false, false, false, false, false, false, false, false, false, false, false, false, false, false] rfl rfl (any_of HT_.out (by kernel_rfl)) (fun _ _ _ h => h) (Or.inl ⟨by rfl, ?_⟩) ?_ ?_
  rotate_left
  ·
   intro w'
   go_simp
   with_reducible rfl
  rotate_left
  ·
   simp only [Act.put, sA_, sB_, sC_, i64_w, i32_w]
   rfl
  refine pure_ (i := 4) (N := some 13) (v := ?_) (a' := ?_) #[true, true, true, false, true, false, false, false, false, false, false, false, false, false, false, false, false, false, false, false, false, false, false, false, false] rfl rfl (any_of HT_.out (by kernel_rfl)) (fun _ _ _ h => h) (Or.inl ⟨by rfl, ?_⟩) ?_ ?_
  rotate_left
  ·
   intro w'
   go_simp
   with_reducible rfl
  rotate_left
  ·
   simp only [Act.put, sA_, sB_, sC_, i64_w, i32_w]
   rfl
  refine pure_ (i := 5) (N := some 14) (v := ?_) (a' := ?_) #[true, true, true, false, true, true, false, false, false, false, false, false, false, false, false, false, false, false, false, false, false, false, false, false, false] rfl rfl (any_of HT_.out (by kernel_rfl)) (fun _ _ _ h => h) (Or.inl ⟨by rfl, ?_⟩) ?_ ?_
  rotate_left
  ·
   intro w'
   go_simp
   with_reducible rfl
  rotate_left
  ·
   simp only [Act.put, sA_, sB_, sC_, i64_w, i32_w]
   rfl
  refine pure_ (i := 6) (N := some 15) (v := ?_) (a' := ?_) #[true, true, true, false, true, true, true, false, false, false, false, false, false, false, false, false, false, false, false, false, false, false, false, false, false] rfl rfl (any_of HT_.out (by kernel_rfl)) (fun _ _ _ h => h) (Or.inl ⟨by rfl, ?_⟩) ?_ ?_
  rotate_left
  ·
   intro w'
   go_simp
   with_reducible rfl
  rotate_left
  ·
   simp only [Act.put, sA_, sB_, sC_, i64_w, i32_w]
   rfl
  refine pure_ (i := 9) (N := some 18) (v := ?_) (a' := ?_) #[true, true, true, false, true, true, true, false, false, true, false, false, false, false, false, false, false, false, false, false, false, false, false, false, false] rfl rfl (any_of HT_.out (by kernel_rfl)) (fun _ _ _ h => h) (Or.inl ⟨by rfl, ?_⟩) ?_ ?_
  rotate_left
  ·
   intro w'
   go_simp
   with_reducible rfl
  rotate_left
  ·
   simp only [Act.put, sA_, sB_, sC_, i64_w, i32_w]
   rfl
  refine pure_ (i := 10) (N := some 19) (v := ?_) (a' := ?_) #[true, true, true, false, true, true, true, false, false, true, true, false, false, false, false, false, false, false, false, false, false, false, false, false, false] rfl rfl (any_of HT_.out (by kernel_rfl)) (fun _ _ _ h => h) (Or.inl ⟨by rfl, ?_⟩) ?_ ?_
  rotate_left
  ·
   intro w'
   go_simp
   with_reducible rfl
  rotate_left
  ·
   simp only [Act.put, sA_, sB_, sC_, i64_w, i32_w]
   rfl
  refine pure_ (i := 11) (N := some 20) (v := ?_) (a' := ?_) #[true, true, true, false, true, true, true, false, false, true, true, true, false, false, false, false, false, false, false, false, false, false, false, false, false] rfl rfl (any_of HT_.out (by kernel_rfl)) (fun _ _ _ h => h) (Or.inl ⟨by rfl, ?_⟩) ?_ ?_
  rotate_left
  ·
   intro w'
   go_simp
   with_reducible rfl
  rotate_left
  ·
   simp only [Act.put, sA_, sB_, sC_, i64_w, i32_w]
   rfl
  refine pure_ (i := 13) (N := some 22) (v := ?_) (a' := ?_) #[true, true, true, false, true, true, true, false, false, true, true, true, false, true, false, false, false, false, false, false, false, false, false, false, false] rfl rfl (any_of HT_.out (by kernel_rfl)) (fun _ _ _ h => h) (Or.inl ⟨by rfl, ?_⟩) ?_ ?_
  rotate_left
  ·
   intro w'
   go_simp
   with_reducible rfl
  rotate_left
  ·
   simp only [Act.put, sA_, sB_, sC_, i64_w, i32_w]
   rfl
  refine pure_ (i := 14) (N := some 23) (v := ?_) (a' := ?_) #[true, true, true, false, true, true, true, false, false, true, true, true, false, true, true, false, false, false, false, false, false, false, false, false, false] rfl rfl (any_of HT_.out (by kernel_rfl)) (fun _ _ _ h => h) (Or.inl ⟨by rfl, ?_⟩) ?_ ?_
  rotate_left
  ·
   intro w'
   go_simp
   with_reducible rfl
  rotate_left
  ·
   simp only [Act.put, sA_, sB_, sC_, i64_w, i32_w]
   rfl
  refine pure_ (i := 15) (N := some 24) (v := ?_) (a' := ?_) #[true, true, true, false, true, true, true, false, false, true, true, true, false, true, true, true, false, false, false, false, false, false, false, false, false] rfl rfl (any_of HT_.out (by kernel_rfl)) (fun _ _ _ h => h) (Or.inl ⟨by rfl, ?_⟩) ?_ ?_
  rotate_left
  ·
   intro w'
   go_simp
   with_reducible rfl
  rotate_left
  ·
   simp only [Act.put, sA_, sB_, sC_, i64_w, i32_w]
   rfl
  refine take_ (i := 3) (N := some 12) (v := ?_) (a' := ?_) #[true, true, true, true, true, true, true, false, false, true, true, true, false, true, true, true, false, false, false, false, false, false, false, false, false] rfl rfl (take_ofW HT_.out HW_.out (by kernel_rfl)) (fun _ _ _ h => h) (Or.inl ⟨by rfl, ?_⟩) hHeld ?_ ?_
  rotate_left
  ·
   rintro w' ⟨s0, s1, s2, s3⟩
   go_simp
   with_reducible rfl
  rotate_left
  ·
   simp only [Act.put, sA_, sB_, sC_, i64_w, i32_w]
   rfl
  refine take_ (i := 7) (N := some 16) (v := ?_) (a' := ?_) #[true, true, true, true, true, true, true, true, false, true, true, true, false, true, true, true, false, false, false, false, false, false, false, false, false] rfl rfl (take_ofW HT_.out HW_.out (by kernel_rfl)) (fun _ _ _ h => h) (Or.inl ⟨by rfl, ?_⟩) hHeld ?_ ?_
  rotate_left
  ·
   rintro w' ⟨s0, s1, s2, s3⟩
   go_simp
   with_reducible rfl
  rotate_left
  ·
   simp only [Act.put, sA_, sB_, sC_, i64_w, i32_w]
   rfl
  refine pure_ (i := 8) (N := some 17) (v := ?_) (a' := ?_) #[true, true, true, true, true, true, true, true, true, true, true, true, false, true, true, true, false, false, false, false, false, false, false, false, false] rfl rfl (any_of HT_.out (by kernel_rfl)) (fun _ _ _ h => h) (Or.inl ⟨by rfl, ?_⟩) ?_ ?_
  rotate_left
  ·
   intro w'
   go_simp
   with_reducible rfl
  rotate_left
  ·
   simp only [Act.put, sA_, sB_, sC_, i64_w, i32_w]
   rfl
  refine take_ (i := 12) (N := some 21) (v := ?_) (a' := ?_) #[true, true, true, true, true, true, true, true, true, true, true, true, true, true, true, true, false, false, false, false, false, false, false, false, false] rfl rfl (take_ofW HT_.out HW_.out (by kernel_rfl)) (fun _ _ _ h => h) (Or.inl ⟨by rfl, ?_⟩) hHeld ?_ ?_
  rotate_left
  ·
   rintro w' ⟨s0, s1, s2, s3⟩
   go_simp
   with_reducible rfl
  rotate_left
  ·
   simp only [Act.put, sA_, sB_, sC_, i64_w, i32_w]
   rfl
  refine take_ (i := 16) (N := some 25) (v := ?_) (a' := ?_) #[true, true, true, true, true, true, true, true, true, true, true, true, true, true, true, true, true, false, false, false, false, false, false, false, false] rfl rfl (take_ofW HT_.out HW_.out (by kernel_rfl)) (fun _ _ _ h => h) (Or.inl ⟨by rfl, ?_⟩) hHeld ?_ ?_
  rotate_left
  ·
   rintro w' ⟨s0, s1, s2, s3⟩
   go_simp
   with_reducible rfl
  rotate_left
  ·
   simp only [Act.put, sA_, sB_, sC_, i64_w, i32_w]
   rfl
  refine pure_ (i := 17) (N := some 26) (v := ?_) (a' := ?_) #[true, true, true, true, true, true, true, true, true, true, true, true, true, true, true, true, true, true, false, false, false, false, false, false, false] rfl rfl (any_of HT_.out (by kernel_rfl)) (fun _ _ _ h => h) (Or.inl ⟨by rfl, ?_⟩) ?_ ?_
  rotate_left
  ·
   intro w'
   go_simp
   with_reducible rfl
  rotate_left
  ·
   simp only [Act.put, sA_, sB_, sC_, i64_w, i32_w]
   rfl
  refine join_ (σ := Nat) 2 #[true, true, true, true, true, true, true, true, true, true, true, true, true, true, true, true, true, true, true, true, true, true, true, false, false] (fun s_ => [(27, .tuple #[.agg #[.int .i64 t120, .int .i64 t121], .int .i64 t122]), (4, .pointer (some ⟨s_, 0, none⟩)), (8, .tuple #[.agg #[.int .i64 t120, .int .i64 t121], .int .i64 t122]), (28, .agg #[.int .i64 t120, .int .i64 t121]), (29, .int .i64 t122)]) (fun s_ w' => (w'.cell? ad119 = some (.int .i64 ((rd_T31 l0 0).f0)) ∧ w'.cell? ⟨ad119.block, ad119.off + 1, none⟩ = some (.int .i64 ((rd_T31 l0 0).f1)) ∧ w'.cell? ⟨ad119.block, ad119.off + 2, none⟩ = some (.int .i64 ((rd_T31 l0 0).f2)) ∧ w'.cell? ⟨ad119.block, ad119.off + 3, none⟩ = some (.int .i64 ((rd_T31 l0 0).f3))) ∧ (w'.heap[gb117]? = some (.cells #[.int .i64 0, .int .i64 0] 55 (0, 0))) ∧ (w'.heap[gb118]? = some (.cells #[.int .i64 0, .int .i64 0] 55 (0, 0))) ∧ (w'.heap[s_]? = some (.cells #[.int .i64 0, .int .i64 0] 55 (0, 0))) ∧ (w.heap.size ≤ s_) ∧ (w.heap.size ≤ s_) ∧ (gb117 ≠ s_) ∧ (s_ ≠ gb117) ∧ (gb118 ≠ s_) ∧ (s_ ≠ gb118) ∧ (Below w.heap.size w w')) ?_ ?_
  rotate_left
  ·
   intro hCont
   refine two_ (i := 18) (j := 22) (Ni := some 27) (Nj := some 4) #[true, true, true, true, true, true, true, true, true, true, true, true, true, true, true, true, true, true, true, false, false, false, false, false, false] #[true, true, true, true, true, true, true, true, true, true, true, true, true, true, true, true, true, true, false, false, false, false, true, false, false] rfl rfl rfl rfl (two_of HT_.out (by kernel_rfl)) (by decide) (by decide) (fun K hK => ?_) (fun K hK => ?_)
   ·
    skip
    refine goes_ Try.func61 (by kernel_rfl) rfl #[.int .i64 (wrap64 (((rd_T31 l0 0).f1) - ((rd_T31 l0 0).f0))), .int .i64 (wrap64 (((rd_T31 l0 0).f3) - ((rd_T31 l0 0).f2)))] (by rfl) rfl rfl z2_7_ ?_
    with_reducible refine (spec_l03Make.calls k (wrap64 (((rd_T31 l0 0).f1) - ((rd_T31 l0 0).f0))) (wrap64 (((rd_T31 l0 0).f3) - ((rd_T31 l0 0).f2))) t120 t121 t122 _ A3.out).mono ?_
    rintro e w10 ⟨rfl, hb⟩
    refine ⟨_, rfl, ?_⟩
    have _ := A_ (blk_below (g := gb117) (o := .cells #[.int .i64 0, .int .i64 0] 55 (0, 0)) z2_1_ hb)
    have _ := A_ (blk_below (g := gb118) (o := .cells #[.int .i64 0, .int .i64 0] 55 (0, 0)) z2_2_ hb)
    have _ := A_ (below_step z2_8_ hb)
    clear BK117 BK118 HB
    rename_i BK117 BK118 HB
    (try clear hb)
    (try clear hb2)
    (try clear hk)
    (try clear hi)
    refine hK.out _ _ ⟨(cel HB.out hw119_0 :), (cel HB.out hw119_1 :), (cel HB.out hw119_2 :), (cel HB.out hw119_3 :)⟩ (fun hHeld => ?_)
    clear hK K
    refine norm_ (a' := ?_) ?_ ?_
    rotate_left
    ·
     show Act.put _ (some 27) _ = _
     simp only [Act.put, sA_, sB_, sC_, i64_w, i32_w]
     rfl
    refine pure_ (i := 19) (N := some 8) (v := ?_) (a' := ?_) #[true, true, true, true, true, true, true, true, true, true, true, true, true, true, true, true, true, true, true, true, false, false, false, false, false] rfl rfl (any_of HT_.out (by kernel_rfl)) (fun _ _ _ h => h) (Or.inl ⟨by rfl, ?_⟩) ?_ ?_
    rotate_left
    ·
     intro w'
     go_simp
     with_reducible rfl
    rotate_left
    ·
     simp only [Act.put, sA_, sB_, sC_, i64_w, i32_w]
     rfl
    refine pure_ (i := 20) (N := some 28) (v := ?_) (a' := ?_) #[true, true, true, true, true, true, true, true, true, true, true, true, true, true, true, true, true, true, true, true, true, false, false, false, false] rfl rfl (any_of HT_.out (by kernel_rfl)) (fun _ _ _ h => h) (Or.inl ⟨by rfl, ?_⟩) ?_ ?_
    rotate_left
    ·
     intro w'
     go_simp
     with_reducible rfl
    rotate_left
    ·
     simp only [Act.put, sA_, sB_, sC_, i64_w, i32_w]
     rfl
    refine pure_ (i := 21) (N := some 29) (v := ?_) (a' := ?_) #[true, true, true, true, true, true, true, true, true, true, true, true, true, true, true, true, true, true, true, true, true, true, false, false, false] rfl rfl (any_of HT_.out (by kernel_rfl)) (fun _ _ _ h => h) (Or.inl ⟨by rfl, ?_⟩) ?_ ?_
    rotate_left
    ·
     intro w'
     go_simp
     with_reducible rfl
    rotate_left
    ·
     simp only [Act.put, sA_, sB_, sC_, i64_w, i32_w]
     rfl
    refine one_ (i := 22) (N := some 4) #[true, true, true, true, true, true, true, true, true, true, true, true, true, true, true, true, true, true, true, true, true, true, true, false, false] rfl rfl (one_of HT_.out (by kernel_rfl)) (by decide) (fun K hK => ?_)
    refine box_step ?hg (N := 4) ?hd (cs := #[.int .i64 0, .int .i64 0]) (t := 55) ?hr ?_; (case hd => rfl); (case hg => rfl); (case hr => first | (go_simp; done) | (go_simp; rfl))
    intro gb123 hg w11 hbox hb
    have _ := A_ (blk_below (g := gb117) (o := .cells #[.int .i64 0, .int .i64 0] 55 (0, 0)) z2_1_ hb)
    have _ := A_ (blk_below (g := gb118) (o := .cells #[.int .i64 0, .int .i64 0] 55 (0, 0)) z2_2_ hb)
    have _ := A_ (below_step z2_8_ hb)
    have _ := A_ (hbox)
    have _ := A_ ((by rw [hg]; exact (below_size z2_8_) : w.heap.size ≤ gb123))
    have _ := A_ ((by rw [hg]; exact (below_size z2_8_) : w.heap.size ≤ gb123))
    have _ := A_ ((by rw [hg]; exact Nat.ne_of_lt (blk_lt (g := gb117) (o := .cells #[.int .i64 0, .int .i64 0] 55 (0, 0)) z2_1_) : gb117 ≠ gb123))
    have _ := A_ ((by rw [hg]; exact Nat.ne_of_gt (blk_lt (g := gb117) (o := .cells #[.int .i64 0, .int .i64 0] 55 (0, 0)) z2_1_) : gb123 ≠ gb117))
    have _ := A_ ((by rw [hg]; exact Nat.ne_of_lt (blk_lt (g := gb118) (o := .cells #[.int .i64 0, .int .i64 0] 55 (0, 0)) z2_2_) : gb118 ≠ gb123))
    have _ := A_ ((by rw [hg]; exact Nat.ne_of_gt (blk_lt (g := gb118) (o := .cells #[.int .i64 0, .int .i64 0] 55 (0, 0)) z2_2_) : gb123 ≠ gb118))
    clear BK117 BK118 HB
    rename_i BK117 BK118 HB BK123 GW123 GE123 NB117_123 NB123_117 NB118_123 NB123_118
    clear hb hbox hg
    refine hK.out _ _ ⟨(cel HB.out hw119_0 :), (cel HB.out hw119_1 :), (cel HB.out hw119_2 :), (cel HB.out hw119_3 :)⟩ (fun hHeld => ?_)
    clear hK K
    refine norm_ (a' := ?_) ?_ ?_
    rotate_left
    ·
     show Act.put _ (some 4) _ = _
     simp only [Act.put, sA_, sB_, sC_, i64_w, i32_w]
     rfl
    exact norm_ z2_25_ (hCont (gb123) _ ⟨hHeld, z2_1_, z2_2_, z2_5_, GW123.out, GE123.out, NB117_123.out, NB123_117.out, NB118_123.out, NB123_118.out, z2_3_⟩)
   ·
    skip
    refine box_step ?hg (N := 4) ?hd (cs := #[.int .i64 0, .int .i64 0]) (t := 55) ?hr ?_; (case hd => rfl); (case hg => rfl); (case hr => first | (go_simp; done) | (go_simp; rfl))
    intro gb123 hg w10 hbox hb
    have _ := A_ (blk_below (g := gb117) (o := .cells #[.int .i64 0, .int .i64 0] 55 (0, 0)) z2_1_ hb)
    have _ := A_ (blk_below (g := gb118) (o := .cells #[.int .i64 0, .int .i64 0] 55 (0, 0)) z2_2_ hb)
    have _ := A_ (below_step z2_8_ hb)
    have _ := A_ (hbox)
    have _ := A_ ((by rw [hg]; exact (below_size z2_8_) : w.heap.size ≤ gb123))
    have _ := A_ ((by rw [hg]; exact (below_size z2_8_) : w.heap.size ≤ gb123))
    have _ := A_ ((by rw [hg]; exact Nat.ne_of_lt (blk_lt (g := gb117) (o := .cells #[.int .i64 0, .int .i64 0] 55 (0, 0)) z2_1_) : gb117 ≠ gb123))
    have _ := A_ ((by rw [hg]; exact Nat.ne_of_gt (blk_lt (g := gb117) (o := .cells #[.int .i64 0, .int .i64 0] 55 (0, 0)) z2_1_) : gb123 ≠ gb117))
    have _ := A_ ((by rw [hg]; exact Nat.ne_of_lt (blk_lt (g := gb118) (o := .cells #[.int .i64 0, .int .i64 0] 55 (0, 0)) z2_2_) : gb118 ≠ gb123))
    have _ := A_ ((by rw [hg]; exact Nat.ne_of_gt (blk_lt (g := gb118) (o := .cells #[.int .i64 0, .int .i64 0] 55 (0, 0)) z2_2_) : gb123 ≠ gb118))
    clear BK117 BK118 HB
    rename_i BK117 BK118 HB BK123 GW123 GE123 NB117_123 NB123_117 NB118_123 NB123_118
    clear hb hbox hg
    refine hK.out _ _ ⟨(cel HB.out hw119_0 :), (cel HB.out hw119_1 :), (cel HB.out hw119_2 :), (cel HB.out hw119_3 :)⟩ (fun hHeld => ?_)
    clear hK K
    refine norm_ (a' := ?_) ?_ ?_
    rotate_left
    ·
     show Act.put _ (some 4) _ = _
     simp only [Act.put, sA_, sB_, sC_, i64_w, i32_w]
     rfl
    refine one_ (i := 18) (N := some 27) #[true, true, true, true, true, true, true, true, true, true, true, true, true, true, true, true, true, true, true, false, false, false, true, false, false] rfl rfl (one_of HT_.out (by kernel_rfl)) (by decide) (fun K hK => ?_)
    refine goes_ Try.func61 (by kernel_rfl) rfl #[.int .i64 (wrap64 (((rd_T31 l0 0).f1) - ((rd_T31 l0 0).f0))), .int .i64 (wrap64 (((rd_T31 l0 0).f3) - ((rd_T31 l0 0).f2)))] (by rfl) rfl rfl z2_7_ ?_
    with_reducible refine (spec_l03Make.calls k (wrap64 (((rd_T31 l0 0).f1) - ((rd_T31 l0 0).f0))) (wrap64 (((rd_T31 l0 0).f3) - ((rd_T31 l0 0).f2))) t120 t121 t122 _ A3.out).mono ?_
    rintro e w11 ⟨rfl, hb⟩
    refine ⟨_, rfl, ?_⟩
    have _ := A_ (blk_below (g := gb117) (o := .cells #[.int .i64 0, .int .i64 0] 55 (0, 0)) z2_1_ hb)
    have _ := A_ (blk_below (g := gb118) (o := .cells #[.int .i64 0, .int .i64 0] 55 (0, 0)) z2_2_ hb)
    have _ := A_ (blk_below (g := gb123) (o := .cells #[.int .i64 0, .int .i64 0] 55 (0, 0)) z2_5_ hb)
    have _ := A_ (below_step z2_3_ hb)
    clear BK117 BK118 BK123 HB
    rename_i BK117 BK118 BK123 HB
    (try clear hb)
    (try clear hb2)
    (try clear hk)
    (try clear hi)
    refine hK.out _ _ ⟨(cel HB.out hw119_0 :), (cel HB.out hw119_1 :), (cel HB.out hw119_2 :), (cel HB.out hw119_3 :)⟩ (fun hHeld => ?_)
    clear hK K
    refine norm_ (a' := ?_) ?_ ?_
    rotate_left
    ·
     show Act.put _ (some 27) _ = _
     simp only [Act.put, sA_, sB_, sC_, i64_w, i32_w]
     rfl
    refine pure_ (i := 19) (N := some 8) (v := ?_) (a' := ?_) #[true, true, true, true, true, true, true, true, true, true, true, true, true, true, true, true, true, true, true, true, false, false, true, false, false] rfl rfl (any_of HT_.out (by kernel_rfl)) (fun _ _ _ h => h) (Or.inl ⟨by rfl, ?_⟩) ?_ ?_
    rotate_left
    ·
     intro w'
     go_simp
     with_reducible rfl
    rotate_left
    ·
     simp only [Act.put, sA_, sB_, sC_, i64_w, i32_w]
     rfl
    refine pure_ (i := 20) (N := some 28) (v := ?_) (a' := ?_) #[true, true, true, true, true, true, true, true, true, true, true, true, true, true, true, true, true, true, true, true, true, false, true, false, false] rfl rfl (any_of HT_.out (by kernel_rfl)) (fun _ _ _ h => h) (Or.inl ⟨by rfl, ?_⟩) ?_ ?_
    rotate_left
    ·
     intro w'
     go_simp
     with_reducible rfl
    rotate_left
    ·
     simp only [Act.put, sA_, sB_, sC_, i64_w, i32_w]
     rfl
    refine pure_ (i := 21) (N := some 29) (v := ?_) (a' := ?_) #[true, true, true, true, true, true, true, true, true, true, true, true, true, true, true, true, true, true, true, true, true, true, true, false, false] rfl rfl (any_of HT_.out (by kernel_rfl)) (fun _ _ _ h => h) (Or.inl ⟨by rfl, ?_⟩) ?_ ?_
    rotate_left
    ·
     intro w'
     go_simp
     with_reducible rfl
    rotate_left
    ·
     simp only [Act.put, sA_, sB_, sC_, i64_w, i32_w]
     rfl
    exact norm_ z2_25_ (hCont (gb123) _ ⟨hHeld, z2_1_, z2_2_, z2_5_, GW123.out, GE123.out, NB117_123.out, NB123_117.out, NB118_123.out, NB123_118.out, z2_3_⟩)
  rintro gb123 w12 ⟨hS_, h0_, h1_, h2_, h3_, h4_, h5_, h6_, h7_, h8_, h9_⟩
  have n0_ : Aside0 (w12.heap[gb117]? = some (.cells #[.int .i64 0, .int .i64 0] 55 (0, 0))) := ⟨h0_⟩
  have n1_ : Aside0 (w12.heap[gb118]? = some (.cells #[.int .i64 0, .int .i64 0] 55 (0, 0))) := ⟨h1_⟩
  have n2_ : Aside0 (w12.heap[gb123]? = some (.cells #[.int .i64 0, .int .i64 0] 55 (0, 0))) := ⟨h2_⟩
  have n3_ : Aside0 (w.heap.size ≤ gb123) := ⟨h3_⟩
  have n4_ : Aside0 (w.heap.size ≤ gb123) := ⟨h4_⟩
  have n5_ : Aside0 (gb117 ≠ gb123) := ⟨h5_⟩
  have n6_ : Aside0 (gb123 ≠ gb117) := ⟨h6_⟩
  have n7_ : Aside0 (gb118 ≠ gb123) := ⟨h7_⟩
  have n8_ : Aside0 (gb123 ≠ gb118) := ⟨h8_⟩
  have n9_ : Aside0 (Below w.heap.size w w12) := ⟨h9_⟩
  clear BK117
  clear BK118
  clear HB
  clear h0_ h1_ h2_ h3_ h4_ h5_ h6_ h7_ h8_ h9_
  have BK117 := n0_
  have BK118 := n1_
  have BK123 := n2_
  have GW123 := n3_
  have GE123 := n4_
  have NB117_123 := n5_
  have NB123_117 := n6_
  have NB118_123 := n7_
  have NB123_118 := n8_
  have HB := n9_
  clear n0_ n1_ n2_ n3_ n4_ n5_ n6_ n7_ n8_ n9_
  have hHeld : w12.cell? ad119 = some (.int .i64 ((rd_T31 l0 0).f0)) ∧ w12.cell? ⟨ad119.block, ad119.off + 1, none⟩ = some (.int .i64 ((rd_T31 l0 0).f1)) ∧ w12.cell? ⟨ad119.block, ad119.off + 2, none⟩ = some (.int .i64 ((rd_T31 l0 0).f2)) ∧ w12.cell? ⟨ad119.block, ad119.off + 3, none⟩ = some (.int .i64 ((rd_T31 l0 0).f3)) := hS_
  refine norm_ (a' := ?_) ?_ ?_
  rotate_left
  ·
   simp only [putAll, Act.put, sA_, sB_, sC_]
   rfl
  refine one_ (i := 23) (N := none) #[true, true, true, true, true, true, true, true, true, true, true, true, true, true, true, true, true, true, true, true, true, true, true, true, false] rfl rfl (one_of HT_.out (by kernel_rfl)) (by decide) (fun K hK => ?_)
  have hs13 : w12.cell? ⟨gb123, 0, none⟩ = some (.int .i64 0) := (blk_cell BK123.out 0).trans rfl
  have hfs13 := blk_frozen BK123.out 0
  have hns13_0 := NB117_123.out
  have hns13_1 := NB118_123.out
  have hms13_0 := NB123_117.out
  have hms13_1 := NB123_118.out
  have hs14 : w12.cell? ⟨gb123, 1, none⟩ = some (.int .i64 0) := (blk_cell BK123.out 1).trans rfl
  have hfs14 := blk_frozen BK123.out 1
  have hns14_0 := NB117_123.out
  have hns14_1 := NB118_123.out
  have hms14_0 := NB123_117.out
  have hms14_1 := NB123_118.out
  refine skip_ (w1 := ?_) (by rfl) rfl ?_ ?_
  rotate_left
  ·
   go_simp
   rfl
  refine hK.out _ _ ⟨((cell_far (p := ⟨gb123, _, none⟩) z2_19_ _).trans (((cell_far (p := ⟨gb123, _, none⟩) z2_19_ _).trans (hHeld.1)))), ((cell_far (p := ⟨gb123, _, none⟩) z2_18_ _).trans (((cell_far (p := ⟨gb123, _, none⟩) z2_18_ _).trans (hHeld.2.1)))), ((cell_far (p := ⟨gb123, _, none⟩) z2_17_ _).trans (((cell_far (p := ⟨gb123, _, none⟩) z2_17_ _).trans (hHeld.2.2.1)))), ((cell_far (p := ⟨gb123, _, none⟩) z2_16_ _).trans (((cell_far (p := ⟨gb123, _, none⟩) z2_16_ _).trans (hHeld.2.2.2))))⟩ (fun hHeld => ?_)
  clear hK K
  refine pure_ (i := 24) (N := some 5) (v := ?_) (a' := ?_) #[true, true, true, true, true, true, true, true, true, true, true, true, true, true, true, true, true, true, true, true, true, true, true, true, true] rfl rfl (any_of HT_.out (by kernel_rfl)) (fun _ _ _ h => h) (Or.inl ⟨by rfl, ?_⟩) ?_ ?_
  rotate_left
  ·
   intro w'
   go_simp
   with_reducible rfl
  rotate_left
  ·
   simp only [Act.put, sA_, sB_, sC_, i64_w, i32_w]
   rfl
  refine done_ (done_of HT_.out (by kernel_rfl)) ?_
  try go_wp2
  have n0_ : Aside0 (((w12.setCell ⟨gb123, 0, none⟩ (.int .i64 t120)).setCell ⟨gb123, 1, none⟩ (.int .i64 t121)).heap[gb117]? = some (.cells #[.int .i64 0, .int .i64 0] 55 (0, 0))) := ⟨(by (with_reducible repeat (first | refine blk_drewN ?_ _ | refine blk_drew ?_ | refine blk_alloc ?_ _)); refine blk_far ?_ NB117_123.out _; (with_reducible repeat (first | refine blk_drewN ?_ _ | refine blk_drew ?_ | refine blk_alloc ?_ _)); refine blk_far ?_ NB117_123.out _; (with_reducible repeat (first | refine blk_drewN ?_ _ | refine blk_drew ?_ | refine blk_alloc ?_ _)); exact BK117.out)⟩
  have n1_ : Aside0 (((w12.setCell ⟨gb123, 0, none⟩ (.int .i64 t120)).setCell ⟨gb123, 1, none⟩ (.int .i64 t121)).heap[gb118]? = some (.cells #[.int .i64 0, .int .i64 0] 55 (0, 0))) := ⟨(by (with_reducible repeat (first | refine blk_drewN ?_ _ | refine blk_drew ?_ | refine blk_alloc ?_ _)); refine blk_far ?_ NB118_123.out _; (with_reducible repeat (first | refine blk_drewN ?_ _ | refine blk_drew ?_ | refine blk_alloc ?_ _)); refine blk_far ?_ NB118_123.out _; (with_reducible repeat (first | refine blk_drewN ?_ _ | refine blk_drew ?_ | refine blk_alloc ?_ _)); exact BK118.out)⟩
  have n2_ : Aside0 (((w12.setCell ⟨gb123, 0, none⟩ (.int .i64 t120)).setCell ⟨gb123, 1, none⟩ (.int .i64 t121)).heap[gb123]? = some (.cells #[.int .i64 t120, .int .i64 t121] 55 (0, 0))) := ⟨(by (with_reducible repeat (first | refine blk_drewN ?_ _ | refine blk_drew ?_ | refine blk_alloc ?_ _)); refine blk_put (cs := #[.int .i64 t120, .int .i64 0]) ?_ 1 _ rfl; (with_reducible repeat (first | refine blk_drewN ?_ _ | refine blk_drew ?_ | refine blk_alloc ?_ _)); refine blk_put (cs := #[.int .i64 0, .int .i64 0]) ?_ 0 _ rfl; (with_reducible repeat (first | refine blk_drewN ?_ _ | refine blk_drew ?_ | refine blk_alloc ?_ _)); exact BK123.out)⟩
  have n3_ : Aside0 (Below w.heap.size w ((w12.setCell ⟨gb123, 0, none⟩ (.int .i64 t120)).setCell ⟨gb123, 1, none⟩ (.int .i64 t121))) := ⟨z2_3_⟩
  (try clear BK117)
  (try clear BK118)
  (try clear BK123)
  (try clear HB)
  generalize ((w12.setCell ⟨gb123, 0, none⟩ (.int .i64 t120)).setCell ⟨gb123, 1, none⟩ (.int .i64 t121)) = w15 at n0_ n1_ n2_ n3_ ⊢
  have BK117 := n0_
  have BK118 := n1_
  have BK123 := n2_
  have HB := n3_
  clear n0_ n1_ n2_ n3_
  have _ := A_ (blk_drew BK117.out)
  have _ := A_ (blk_drew BK118.out)
  have _ := A_ (blk_drew BK123.out)
  have _ := A_ (below_drew1 HB.out)
  clear BK117 BK118 BK123 HB
  rename_i BK117 BK118 BK123 HB
  have q124 : 0 < (l0.length : Int) := of_decide_eq_true (by assumption)
  obtain ⟨ad124, e124, hx124_0, hx124_1, hx124_2, hx124_3⟩ := rp_T31 HR0.out q124
  have hw124_3 := hx124_3
  have hw124_2 := hx124_2
  have hw124_1 := hx124_1
  have hw124_0 := hx124_0
  obtain rfl : ad119 = ad124 := (by injection e124)
  replace hx124_0 := cel HB.out hx124_0
  replace hx124_1 := cel HB.out hx124_1
  replace hx124_2 := cel HB.out hx124_2
  replace hx124_3 := cel HB.out hx124_3
  refine start_ (n := 25) (S := fun w' => w'.cell? ad119 = some (.int .i64 ((rd_T31 l0 0).f0)) ∧ w'.cell? ⟨ad119.block, ad119.off + 1, none⟩ = some (.int .i64 ((rd_T31 l0 0).f1)) ∧ w'.cell? ⟨ad119.block, ad119.off + 2, none⟩ = some (.int .i64 ((rd_T31 l0 0).f2)) ∧ w'.cell? ⟨ad119.block, ad119.off + 3, none⟩ = some (.int .i64 ((rd_T31 l0 0).f3))) (ds := []) #[false, false, false, false, false, false, false, false, false, false, false, false, false, false, false, false, false, false, false, false, false, false, false, false, false] (by kernel_rfl) rfl rfl ⟨(cel HB.out hw124_0 :), (cel HB.out hw124_1 :), (cel HB.out hw124_2 :), (cel HB.out hw124_3 :)⟩ (fun hHeld => ?_); refine with_tabW spec_l03Image.tab2 spec_l03Image.bits2 (fun HT_ HW_ => ?_)
  generalize w15.drew = w16 at BK117 BK118 BK123 HB hx124_0 hx124_1 hx124_2 hx124_3 hHeld ⊢
  refine pure_ (i := 0) (N := some 31) (v := ?_) (a' := ?_) #[true, false, false, false, false, false, false, false, false, false, false, false, false, false, false, false, false, false, false, false, false, false, false, false, false] rfl rfl (any_of HT_.out (by kernel_rfl)) (fun _ _ _ h => h) (Or.inl ⟨by rfl, ?_⟩) ?_ ?_
  rotate_left
  ·
   intro w'
   go_simp
   with_reducible rfl
  rotate_left
  ·
   simp only [Act.put, sA_, sB_, sC_, i64_w, i32_w]
   rfl
  refine pure_ (i := 1) (N := some 32) (v := ?_) (a' := ?_) #[true, true, false, false, false, false, false, false, false, false, false, false, false, false, false, false, false, false, false, false, false, false, false, false, false] rfl rfl (any_of HT_.out (by kernel_rfl)) (fun _ _ _ h => h) (Or.inl ⟨by rfl, ?_⟩) ?_ ?_
  rotate_left
  ·
   intro w'
   go_simp
   with_reducible rfl
  rotate_left
  ·
   simp only [Act.put, sA_, sB_, sC_, i64_w, i32_w]
   rfl
  refine pure_ (i := 2) (N := some 33) (v := ?_) (a' := ?_) #[true, true, true, false, false, false, false, false, false, false, false, false, false, false, false, false, false, false, false, false, false, false, false, false, false] rfl rfl (any_of HT_.out (by kernel_rfl)) (fun _ _ _ h => h) (Or.inl ⟨by rfl, ?_⟩) ?_ ?_
  rotate_left
  ·
   intro w'
   go_simp
   with_reducible rfl
  rotate_left
  ·
   simp only [Act.put, sA_, sB_, sC_, i64_w, i32_w]
   rfl
  refine pure_ (i := 4) (N := some 35) (v := ?_) (a' := ?_) #[true, true, true, false, true, false, false, false, false, false, false, false, false, false, false, false, false, false, false, false, false, false, false, false, false] rfl rfl (any_of HT_.out (by kernel_rfl)) (fun _ _ _ h => h) (Or.inl ⟨by rfl, ?_⟩) ?_ ?_
  rotate_left
  ·
   intro w'
   go_simp
   with_reducible rfl
  rotate_left
  ·
   simp only [Act.put, sA_, sB_, sC_, i64_w, i32_w]
   rfl
  refine pure_ (i := 5) (N := some 36) (v := ?_) (a' := ?_) #[true, true, true, false, true, true, false, false, false, false, false, false, false, false, false, false, false, false, false, false, false, false, false, false, false] rfl rfl (any_of HT_.out (by kernel_rfl)) (fun _ _ _ h => h) (Or.inl ⟨by rfl, ?_⟩) ?_ ?_
  rotate_left
  ·
   intro w'
   go_simp
   with_reducible rfl
  rotate_left
  ·
   simp only [Act.put, sA_, sB_, sC_, i64_w, i32_w]
   rfl
  refine pure_ (i := 6) (N := some 37) (v := ?_) (a' := ?_) #[true, true, true, false, true, true, true, false, false, false, false, false, false, false, false, false, false, false, false, false, false, false, false, false, false] rfl rfl (any_of HT_.out (by kernel_rfl)) (fun _ _ _ h => h) (Or.inl ⟨by rfl, ?_⟩) ?_ ?_
  rotate_left
  ·
   intro w'
   go_simp
   with_reducible rfl
  rotate_left
  ·
   simp only [Act.put, sA_, sB_, sC_, i64_w, i32_w]
   rfl
  refine pure_ (i := 9) (N := some 40) (v := ?_) (a' := ?_) #[true, true, true, false, true, true, true, false, false, true, false, false, false, false, false, false, false, false, false, false, false, false, false, false, false] rfl rfl (any_of HT_.out (by kernel_rfl)) (fun _ _ _ h => h) (Or.inl ⟨by rfl, ?_⟩) ?_ ?_
  rotate_left
  ·
   intro w'
   go_simp
   with_reducible rfl
  rotate_left
  ·
   simp only [Act.put, sA_, sB_, sC_, i64_w, i32_w]
   rfl
  refine pure_ (i := 10) (N := some 41) (v := ?_) (a' := ?_) #[true, true, true, false, true, true, true, false, false, true, true, false, false, false, false, false, false, false, false, false, false, false, false, false, false] rfl rfl (any_of HT_.out (by kernel_rfl)) (fun _ _ _ h => h) (Or.inl ⟨by rfl, ?_⟩) ?_ ?_
  rotate_left
  ·
   intro w'
   go_simp
   with_reducible rfl
  rotate_left
  ·
   simp only [Act.put, sA_, sB_, sC_, i64_w, i32_w]
   rfl
  refine pure_ (i := 11) (N := some 42) (v := ?_) (a' := ?_) #[true, true, true, false, true, true, true, false, false, true, true, true, false, false, false, false, false, false, false, false, false, false, false, false, false] rfl rfl (any_of HT_.out (by kernel_rfl)) (fun _ _ _ h => h) (Or.inl ⟨by rfl, ?_⟩) ?_ ?_
  rotate_left
  ·
   intro w'
   go_simp
   with_reducible rfl
  rotate_left
  ·
   simp only [Act.put, sA_, sB_, sC_, i64_w, i32_w]
   rfl
  refine pure_ (i := 13) (N := some 44) (v := ?_) (a' := ?_) #[true, true, true, false, true, true, true, false, false, true, true, true, false, true, false, false, false, false, false, false, false, false, false, false, false] rfl rfl (any_of HT_.out (by kernel_rfl)) (fun _ _ _ h => h) (Or.inl ⟨by rfl, ?_⟩) ?_ ?_
  rotate_left
  ·
   intro w'
   go_simp
   with_reducible rfl
  rotate_left
  ·
   simp only [Act.put, sA_, sB_, sC_, i64_w, i32_w]
   rfl
  refine pure_ (i := 14) (N := some 45) (v := ?_) (a' := ?_) #[true, true, true, false, true, true, true, false, false, true, true, true, false, true, true, false, false, false, false, false, false, false, false, false, false] rfl rfl (any_of HT_.out (by kernel_rfl)) (fun _ _ _ h => h) (Or.inl ⟨by rfl, ?_⟩) ?_ ?_
  rotate_left
  ·
   intro w'
   go_simp
   with_reducible rfl
  rotate_left
  ·
   simp only [Act.put, sA_, sB_, sC_, i64_w, i32_w]
   rfl
  refine pure_ (i := 15) (N := some 46) (v := ?_) (a' := ?_) #[true, true, true, false, true, true, true, false, false, true, true, true, false, true, true, true, false, false, false, false, false, false, false, false, false] rfl rfl (any_of HT_.out (by kernel_rfl)) (fun _ _ _ h => h) (Or.inl ⟨by rfl, ?_⟩) ?_ ?_
  rotate_left
  ·
   intro w'
   go_simp
   with_reducible rfl
  rotate_left
  ·
   simp only [Act.put, sA_, sB_, sC_, i64_w, i32_w]
   rfl
  refine take_ (i := 3) (N := some 34) (v := ?_) (a' := ?_) #[true, true, true, true, true, true, true, false, false, true, true, true, false, true, true, true, false, false, false, false, false, false, false, false, false] rfl rfl (take_ofW HT_.out HW_.out (by kernel_rfl)) (fun _ _ _ h => h) (Or.inl ⟨by rfl, ?_⟩) hHeld ?_ ?_
  rotate_left
  ·
   rintro w' ⟨s0, s1, s2, s3⟩
   go_simp
   with_reducible rfl
  rotate_left
  ·
   simp only [Act.put, sA_, sB_, sC_, i64_w, i32_w]
   rfl
  refine take_ (i := 7) (N := some 38) (v := ?_) (a' := ?_) #[true, true, true, true, true, true, true, true, false, true, true, true, false, true, true, true, false, false, false, false, false, false, false, false, false] rfl rfl (take_ofW HT_.out HW_.out (by kernel_rfl)) (fun _ _ _ h => h) (Or.inl ⟨by rfl, ?_⟩) hHeld ?_ ?_
  rotate_left
  ·
   rintro w' ⟨s0, s1, s2, s3⟩
   go_simp
   with_reducible rfl
  rotate_left
  ·
   simp only [Act.put, sA_, sB_, sC_, i64_w, i32_w]
   rfl
  refine pure_ (i := 8) (N := some 39) (v := ?_) (a' := ?_) #[true, true, true, true, true, true, true, true, true, true, true, true, false, true, true, true, false, false, false, false, false, false, false, false, false] rfl rfl (any_of HT_.out (by kernel_rfl)) (fun _ _ _ h => h) (Or.inl ⟨by rfl, ?_⟩) ?_ ?_
  rotate_left
  ·
   intro w'
   go_simp
   with_reducible rfl
  rotate_left
  ·
   simp only [Act.put, sA_, sB_, sC_, i64_w, i32_w]
   rfl
  refine take_ (i := 12) (N := some 43) (v := ?_) (a' := ?_) #[true, true, true, true, true, true, true, true, true, true, true, true, true, true, true, true, false, false, false, false, false, false, false, false, false] rfl rfl (take_ofW HT_.out HW_.out (by kernel_rfl)) (fun _ _ _ h => h) (Or.inl ⟨by rfl, ?_⟩) hHeld ?_ ?_
  rotate_left
  ·
   rintro w' ⟨s0, s1, s2, s3⟩
   go_simp
   with_reducible rfl
  rotate_left
  ·
   simp only [Act.put, sA_, sB_, sC_, i64_w, i32_w]
   rfl
  refine take_ (i := 16) (N := some 47) (v := ?_) (a' := ?_) #[true, true, true, true, true, true, true, true, true, true, true, true, true, true, true, true, true, false, false, false, false, false, false, false, false] rfl rfl (take_ofW HT_.out HW_.out (by kernel_rfl)) (fun _ _ _ h => h) (Or.inl ⟨by rfl, ?_⟩) hHeld ?_ ?_
  rotate_left
  ·
   rintro w' ⟨s0, s1, s2, s3⟩
   go_simp
   with_reducible rfl
  rotate_left
  ·
   simp only [Act.put, sA_, sB_, sC_, i64_w, i32_w]
   rfl
  refine pure_ (i := 17) (N := some 48) (v := ?_) (a' := ?_) #[true, true, true, true, true, true, true, true, true, true, true, true, true, true, true, true, true, true, false, false, false, false, false, false, false] rfl rfl (any_of HT_.out (by kernel_rfl)) (fun _ _ _ h => h) (Or.inl ⟨by rfl, ?_⟩) ?_ ?_
  rotate_left
  ·
   intro w'
   go_simp
   with_reducible rfl
  rotate_left
  ·
   simp only [Act.put, sA_, sB_, sC_, i64_w, i32_w]
   rfl
  refine join_ (σ := Nat) 2 #[true, true, true, true, true, true, true, true, true, true, true, true, true, true, true, true, true, true, true, true, true, true, true, false, false] (fun s_ => [(49, .tuple #[.agg #[.int .i64 t125, .int .i64 t126], .int .i64 t127]), (6, .pointer (some ⟨s_, 0, none⟩)), (30, .tuple #[.agg #[.int .i64 t125, .int .i64 t126], .int .i64 t127]), (50, .agg #[.int .i64 t125, .int .i64 t126]), (51, .int .i64 t127)]) (fun s_ w' => (w'.cell? ad119 = some (.int .i64 ((rd_T31 l0 0).f0)) ∧ w'.cell? ⟨ad119.block, ad119.off + 1, none⟩ = some (.int .i64 ((rd_T31 l0 0).f1)) ∧ w'.cell? ⟨ad119.block, ad119.off + 2, none⟩ = some (.int .i64 ((rd_T31 l0 0).f2)) ∧ w'.cell? ⟨ad119.block, ad119.off + 3, none⟩ = some (.int .i64 ((rd_T31 l0 0).f3))) ∧ (w'.heap[gb117]? = some (.cells #[.int .i64 0, .int .i64 0] 55 (0, 0))) ∧ (w'.heap[gb118]? = some (.cells #[.int .i64 0, .int .i64 0] 55 (0, 0))) ∧ (w'.heap[gb123]? = some (.cells #[.int .i64 t120, .int .i64 t121] 55 (0, 0))) ∧ (w'.heap[s_]? = some (.cells #[.int .i64 0, .int .i64 0] 55 (0, 0))) ∧ (w.heap.size ≤ s_) ∧ (w.heap.size ≤ s_) ∧ (gb117 ≠ s_) ∧ (s_ ≠ gb117) ∧ (gb118 ≠ s_) ∧ (s_ ≠ gb118) ∧ (gb123 ≠ s_) ∧ (s_ ≠ gb123) ∧ (Below w.heap.size w w')) ?_ ?_
  rotate_left
  ·
   intro hCont
   refine two_ (i := 18) (j := 22) (Ni := some 49) (Nj := some 6) #[true, true, true, true, true, true, true, true, true, true, true, true, true, true, true, true, true, true, true, false, false, false, false, false, false] #[true, true, true, true, true, true, true, true, true, true, true, true, true, true, true, true, true, true, false, false, false, false, true, false, false] rfl rfl rfl rfl (two_of HT_.out (by kernel_rfl)) (by decide) (by decide) (fun K hK => ?_) (fun K hK => ?_)
   ·
    skip
    refine goes_ Try.func61 (by kernel_rfl) rfl #[.int .i64 (wrap64 (((rd_T31 l0 0).f1) + ((rd_T31 l0 0).f0))), .int .i64 (wrap64 (((rd_T31 l0 0).f3) + ((rd_T31 l0 0).f2)))] (by rfl) rfl rfl z2_7_ ?_
    with_reducible refine (spec_l03Make.calls k (wrap64 (((rd_T31 l0 0).f1) + ((rd_T31 l0 0).f0))) (wrap64 (((rd_T31 l0 0).f3) + ((rd_T31 l0 0).f2))) t125 t126 t127 _ A4.out).mono ?_
    rintro e w17 ⟨rfl, hb⟩
    refine ⟨_, rfl, ?_⟩
    have _ := A_ (blk_below (g := gb117) (o := .cells #[.int .i64 0, .int .i64 0] 55 (0, 0)) z2_1_ hb)
    have _ := A_ (blk_below (g := gb118) (o := .cells #[.int .i64 0, .int .i64 0] 55 (0, 0)) z2_2_ hb)
    have _ := A_ (blk_below (g := gb123) (o := .cells #[.int .i64 t120, .int .i64 t121] 55 (0, 0)) z2_5_ hb)
    have _ := A_ (below_step z2_3_ hb)
    clear BK117 BK118 BK123 HB
    rename_i BK117 BK118 BK123 HB
    (try clear hb)
    (try clear hb2)
    (try clear hk)
    (try clear hi)
    refine hK.out _ _ ⟨(cel HB.out hw124_0 :), (cel HB.out hw124_1 :), (cel HB.out hw124_2 :), (cel HB.out hw124_3 :)⟩ (fun hHeld => ?_)
    clear hK K
    refine norm_ (a' := ?_) ?_ ?_
    rotate_left
    ·
     show Act.put _ (some 49) _ = _
     simp only [Act.put, sA_, sB_, sC_, i64_w, i32_w]
     rfl
    refine pure_ (i := 19) (N := some 30) (v := ?_) (a' := ?_) #[true, true, true, true, true, true, true, true, true, true, true, true, true, true, true, true, true, true, true, true, false, false, false, false, false] rfl rfl (any_of HT_.out (by kernel_rfl)) (fun _ _ _ h => h) (Or.inl ⟨by rfl, ?_⟩) ?_ ?_
    rotate_left
    ·
     intro w'
     go_simp
     with_reducible rfl
    rotate_left
    ·
     simp only [Act.put, sA_, sB_, sC_, i64_w, i32_w]
     rfl
    refine pure_ (i := 20) (N := some 50) (v := ?_) (a' := ?_) #[true, true, true, true, true, true, true, true, true, true, true, true, true, true, true, true, true, true, true, true, true, false, false, false, false] rfl rfl (any_of HT_.out (by kernel_rfl)) (fun _ _ _ h => h) (Or.inl ⟨by rfl, ?_⟩) ?_ ?_
    rotate_left
    ·
     intro w'
     go_simp
     with_reducible rfl
    rotate_left
    ·
     simp only [Act.put, sA_, sB_, sC_, i64_w, i32_w]
     rfl
    refine pure_ (i := 21) (N := some 51) (v := ?_) (a' := ?_) #[true, true, true, true, true, true, true, true, true, true, true, true, true, true, true, true, true, true, true, true, true, true, false, false, false] rfl rfl (any_of HT_.out (by kernel_rfl)) (fun _ _ _ h => h) (Or.inl ⟨by rfl, ?_⟩) ?_ ?_
    rotate_left
    ·
     intro w'
     go_simp
     with_reducible rfl
    rotate_left
    ·
     simp only [Act.put, sA_, sB_, sC_, i64_w, i32_w]
     rfl
    refine one_ (i := 22) (N := some 6) #[true, true, true, true, true, true, true, true, true, true, true, true, true, true, true, true, true, true, true, true, true, true, true, false, false] rfl rfl (one_of HT_.out (by kernel_rfl)) (by decide) (fun K hK => ?_)
    refine box_step ?hg (N := 6) ?hd (cs := #[.int .i64 0, .int .i64 0]) (t := 55) ?hr ?_; (case hd => rfl); (case hg => rfl); (case hr => first | (go_simp; done) | (go_simp; rfl))
    intro gb128 hg w18 hbox hb
    have _ := A_ (blk_below (g := gb117) (o := .cells #[.int .i64 0, .int .i64 0] 55 (0, 0)) z2_1_ hb)
    have _ := A_ (blk_below (g := gb118) (o := .cells #[.int .i64 0, .int .i64 0] 55 (0, 0)) z2_2_ hb)
    have _ := A_ (blk_below (g := gb123) (o := .cells #[.int .i64 t120, .int .i64 t121] 55 (0, 0)) z2_5_ hb)
    have _ := A_ (below_step z2_3_ hb)
    have _ := A_ (hbox)
    have _ := A_ ((by rw [hg]; exact (below_size z2_3_) : w.heap.size ≤ gb128))
    have _ := A_ ((by rw [hg]; exact (below_size z2_3_) : w.heap.size ≤ gb128))
    have _ := A_ ((by rw [hg]; exact Nat.ne_of_lt (blk_lt (g := gb117) (o := .cells #[.int .i64 0, .int .i64 0] 55 (0, 0)) z2_1_) : gb117 ≠ gb128))
    have _ := A_ ((by rw [hg]; exact Nat.ne_of_gt (blk_lt (g := gb117) (o := .cells #[.int .i64 0, .int .i64 0] 55 (0, 0)) z2_1_) : gb128 ≠ gb117))
    have _ := A_ ((by rw [hg]; exact Nat.ne_of_lt (blk_lt (g := gb118) (o := .cells #[.int .i64 0, .int .i64 0] 55 (0, 0)) z2_2_) : gb118 ≠ gb128))
    have _ := A_ ((by rw [hg]; exact Nat.ne_of_gt (blk_lt (g := gb118) (o := .cells #[.int .i64 0, .int .i64 0] 55 (0, 0)) z2_2_) : gb128 ≠ gb118))
    have _ := A_ ((by rw [hg]; exact Nat.ne_of_lt (blk_lt (g := gb123) (o := .cells #[.int .i64 t120, .int .i64 t121] 55 (0, 0)) z2_5_) : gb123 ≠ gb128))
    have _ := A_ ((by rw [hg]; exact Nat.ne_of_gt (blk_lt (g := gb123) (o := .cells #[.int .i64 t120, .int .i64 t121] 55 (0, 0)) z2_5_) : gb128 ≠ gb123))
    clear BK117 BK118 BK123 HB
    rename_i BK117 BK118 BK123 HB BK128 GW128 GE128 NB117_128 NB128_117 NB118_128 NB128_118 NB123_128 NB128_123
    clear hb hbox hg
    refine hK.out _ _ ⟨(cel HB.out hw124_0 :), (cel HB.out hw124_1 :), (cel HB.out hw124_2 :), (cel HB.out hw124_3 :)⟩ (fun hHeld => ?_)
    clear hK K
    refine norm_ (a' := ?_) ?_ ?_
    rotate_left
    ·
     show Act.put _ (some 6) _ = _
     simp only [Act.put, sA_, sB_, sC_, i64_w, i32_w]
     rfl
    exact norm_ z2_25_ (hCont (gb128) _ ⟨hHeld, z2_1_, z2_2_, z2_5_, z2_20_, GW128.out, GE128.out, NB117_128.out, NB128_117.out, NB118_128.out, NB128_118.out, NB123_128.out, NB128_123.out, z2_4_⟩)
   ·
    skip
    refine box_step ?hg (N := 6) ?hd (cs := #[.int .i64 0, .int .i64 0]) (t := 55) ?hr ?_; (case hd => rfl); (case hg => rfl); (case hr => first | (go_simp; done) | (go_simp; rfl))
    intro gb128 hg w17 hbox hb
    have _ := A_ (blk_below (g := gb117) (o := .cells #[.int .i64 0, .int .i64 0] 55 (0, 0)) z2_1_ hb)
    have _ := A_ (blk_below (g := gb118) (o := .cells #[.int .i64 0, .int .i64 0] 55 (0, 0)) z2_2_ hb)
    have _ := A_ (blk_below (g := gb123) (o := .cells #[.int .i64 t120, .int .i64 t121] 55 (0, 0)) z2_5_ hb)
    have _ := A_ (below_step z2_3_ hb)
    have _ := A_ (hbox)
    have _ := A_ ((by rw [hg]; exact (below_size z2_3_) : w.heap.size ≤ gb128))
    have _ := A_ ((by rw [hg]; exact (below_size z2_3_) : w.heap.size ≤ gb128))
    have _ := A_ ((by rw [hg]; exact Nat.ne_of_lt (blk_lt (g := gb117) (o := .cells #[.int .i64 0, .int .i64 0] 55 (0, 0)) z2_1_) : gb117 ≠ gb128))
    have _ := A_ ((by rw [hg]; exact Nat.ne_of_gt (blk_lt (g := gb117) (o := .cells #[.int .i64 0, .int .i64 0] 55 (0, 0)) z2_1_) : gb128 ≠ gb117))
    have _ := A_ ((by rw [hg]; exact Nat.ne_of_lt (blk_lt (g := gb118) (o := .cells #[.int .i64 0, .int .i64 0] 55 (0, 0)) z2_2_) : gb118 ≠ gb128))
    have _ := A_ ((by rw [hg]; exact Nat.ne_of_gt (blk_lt (g := gb118) (o := .cells #[.int .i64 0, .int .i64 0] 55 (0, 0)) z2_2_) : gb128 ≠ gb118))
    have _ := A_ ((by rw [hg]; exact Nat.ne_of_lt (blk_lt (g := gb123) (o := .cells #[.int .i64 t120, .int .i64 t121] 55 (0, 0)) z2_5_) : gb123 ≠ gb128))
    have _ := A_ ((by rw [hg]; exact Nat.ne_of_gt (blk_lt (g := gb123) (o := .cells #[.int .i64 t120, .int .i64 t121] 55 (0, 0)) z2_5_) : gb128 ≠ gb123))
    clear BK117 BK118 BK123 HB
    rename_i BK117 BK118 BK123 HB BK128 GW128 GE128 NB117_128 NB128_117 NB118_128 NB128_118 NB123_128 NB128_123
    clear hb hbox hg
    refine hK.out _ _ ⟨(cel HB.out hw124_0 :), (cel HB.out hw124_1 :), (cel HB.out hw124_2 :), (cel HB.out hw124_3 :)⟩ (fun hHeld => ?_)
    clear hK K
    refine norm_ (a' := ?_) ?_ ?_
    rotate_left
    ·
     show Act.put _ (some 6) _ = _
     simp only [Act.put, sA_, sB_, sC_, i64_w, i32_w]
     rfl
    refine one_ (i := 18) (N := some 49) #[true, true, true, true, true, true, true, true, true, true, true, true, true, true, true, true, true, true, true, false, false, false, true, false, false] rfl rfl (one_of HT_.out (by kernel_rfl)) (by decide) (fun K hK => ?_)
    refine goes_ Try.func61 (by kernel_rfl) rfl #[.int .i64 (wrap64 (((rd_T31 l0 0).f1) + ((rd_T31 l0 0).f0))), .int .i64 (wrap64 (((rd_T31 l0 0).f3) + ((rd_T31 l0 0).f2)))] (by rfl) rfl rfl z2_7_ ?_
    with_reducible refine (spec_l03Make.calls k (wrap64 (((rd_T31 l0 0).f1) + ((rd_T31 l0 0).f0))) (wrap64 (((rd_T31 l0 0).f3) + ((rd_T31 l0 0).f2))) t125 t126 t127 _ A4.out).mono ?_
    rintro e w18 ⟨rfl, hb⟩
    refine ⟨_, rfl, ?_⟩
    have _ := A_ (blk_below (g := gb117) (o := .cells #[.int .i64 0, .int .i64 0] 55 (0, 0)) z2_1_ hb)
    have _ := A_ (blk_below (g := gb118) (o := .cells #[.int .i64 0, .int .i64 0] 55 (0, 0)) z2_2_ hb)
    have _ := A_ (blk_below (g := gb123) (o := .cells #[.int .i64 t120, .int .i64 t121] 55 (0, 0)) z2_5_ hb)
    have _ := A_ (blk_below (g := gb128) (o := .cells #[.int .i64 0, .int .i64 0] 55 (0, 0)) z2_20_ hb)
    have _ := A_ (below_step z2_4_ hb)
    clear BK117 BK118 BK123 BK128 HB
    rename_i BK117 BK118 BK123 BK128 HB
    (try clear hb)
    (try clear hb2)
    (try clear hk)
    (try clear hi)
    refine hK.out _ _ ⟨(cel HB.out hw124_0 :), (cel HB.out hw124_1 :), (cel HB.out hw124_2 :), (cel HB.out hw124_3 :)⟩ (fun hHeld => ?_)
    clear hK K
    refine norm_ (a' := ?_) ?_ ?_
    rotate_left
    ·
     show Act.put _ (some 49) _ = _
     simp only [Act.put, sA_, sB_, sC_, i64_w, i32_w]
     rfl
    refine pure_ (i := 19) (N := some 30) (v := ?_) (a' := ?_) #[true, true, true, true, true, true, true, true, true, true, true, true, true, true, true, true, true, true, true, true, false, false, true, false, false] rfl rfl (any_of HT_.out (by kernel_rfl)) (fun _ _ _ h => h) (Or.inl ⟨by rfl, ?_⟩) ?_ ?_
    rotate_left
    ·
     intro w'
     go_simp
     with_reducible rfl
    rotate_left
    ·
     simp only [Act.put, sA_, sB_, sC_, i64_w, i32_w]
     rfl
    refine pure_ (i := 20) (N := some 50) (v := ?_) (a' := ?_) #[true, true, true, true, true, true, true, true, true, true, true, true, true, true, true, true, true, true, true, true, true, false, true, false, false] rfl rfl (any_of HT_.out (by kernel_rfl)) (fun _ _ _ h => h) (Or.inl ⟨by rfl, ?_⟩) ?_ ?_
    rotate_left
    ·
     intro w'
     go_simp
     with_reducible rfl
    rotate_left
    ·
     simp only [Act.put, sA_, sB_, sC_, i64_w, i32_w]
     rfl
    refine pure_ (i := 21) (N := some 51) (v := ?_) (a' := ?_) #[true, true, true, true, true, true, true, true, true, true, true, true, true, true, true, true, true, true, true, true, true, true, true, false, false] rfl rfl (any_of HT_.out (by kernel_rfl)) (fun _ _ _ h => h) (Or.inl ⟨by rfl, ?_⟩) ?_ ?_
    rotate_left
    ·
     intro w'
     go_simp
     with_reducible rfl
    rotate_left
    ·
     simp only [Act.put, sA_, sB_, sC_, i64_w, i32_w]
     rfl
    exact norm_ z2_25_ (hCont (gb128) _ ⟨hHeld, z2_1_, z2_2_, z2_5_, z2_20_, GW128.out, GE128.out, NB117_128.out, NB128_117.out, NB118_128.out, NB128_118.out, NB123_128.out, NB128_123.out, z2_4_⟩)
  rintro gb128 w19 ⟨hS_, h0_, h1_, h2_, h3_, h4_, h5_, h6_, h7_, h8_, h9_, h10_, h11_, h12_⟩
  have n0_ : Aside0 (w19.heap[gb117]? = some (.cells #[.int .i64 0, .int .i64 0] 55 (0, 0))) := ⟨h0_⟩
  have n1_ : Aside0 (w19.heap[gb118]? = some (.cells #[.int .i64 0, .int .i64 0] 55 (0, 0))) := ⟨h1_⟩
  have n2_ : Aside0 (w19.heap[gb123]? = some (.cells #[.int .i64 t120, .int .i64 t121] 55 (0, 0))) := ⟨h2_⟩
  have n3_ : Aside0 (w19.heap[gb128]? = some (.cells #[.int .i64 0, .int .i64 0] 55 (0, 0))) := ⟨h3_⟩
  have n4_ : Aside0 (w.heap.size ≤ gb128) := ⟨h4_⟩
  have n5_ : Aside0 (w.heap.size ≤ gb128) := ⟨h5_⟩
  have n6_ : Aside0 (gb117 ≠ gb128) := ⟨h6_⟩
  have n7_ : Aside0 (gb128 ≠ gb117) := ⟨h7_⟩
  have n8_ : Aside0 (gb118 ≠ gb128) := ⟨h8_⟩
  have n9_ : Aside0 (gb128 ≠ gb118) := ⟨h9_⟩
  have n10_ : Aside0 (gb123 ≠ gb128) := ⟨h10_⟩
  have n11_ : Aside0 (gb128 ≠ gb123) := ⟨h11_⟩
  have n12_ : Aside0 (Below w.heap.size w w19) := ⟨h12_⟩
  clear BK117
  clear BK118
  clear BK123
  clear HB
  clear h0_ h1_ h2_ h3_ h4_ h5_ h6_ h7_ h8_ h9_ h10_ h11_ h12_
  have BK117 := n0_
  have BK118 := n1_
  have BK123 := n2_
  have BK128 := n3_
  have GW128 := n4_
  have GE128 := n5_
  have NB117_128 := n6_
  have NB128_117 := n7_
  have NB118_128 := n8_
  have NB128_118 := n9_
  have NB123_128 := n10_
  have NB128_123 := n11_
  have HB := n12_
  clear n0_ n1_ n2_ n3_ n4_ n5_ n6_ n7_ n8_ n9_ n10_ n11_ n12_
  have hHeld : w19.cell? ad119 = some (.int .i64 ((rd_T31 l0 0).f0)) ∧ w19.cell? ⟨ad119.block, ad119.off + 1, none⟩ = some (.int .i64 ((rd_T31 l0 0).f1)) ∧ w19.cell? ⟨ad119.block, ad119.off + 2, none⟩ = some (.int .i64 ((rd_T31 l0 0).f2)) ∧ w19.cell? ⟨ad119.block, ad119.off + 3, none⟩ = some (.int .i64 ((rd_T31 l0 0).f3)) := hS_
  refine norm_ (a' := ?_) ?_ ?_
  rotate_left
  ·
   simp only [putAll, Act.put, sA_, sB_, sC_]
   rfl
  refine one_ (i := 23) (N := none) #[true, true, true, true, true, true, true, true, true, true, true, true, true, true, true, true, true, true, true, true, true, true, true, true, false] rfl rfl (one_of HT_.out (by kernel_rfl)) (by decide) (fun K hK => ?_)
  have hs20 : w19.cell? ⟨gb128, 0, none⟩ = some (.int .i64 0) := (blk_cell BK128.out 0).trans rfl
  have hfs20 := blk_frozen BK128.out 0
  have hns20_0 := NB117_128.out
  have hns20_1 := NB118_128.out
  have hns20_2 := NB123_128.out
  have hms20_0 := NB128_117.out
  have hms20_1 := NB128_118.out
  have hms20_2 := NB128_123.out
  have hs21 : w19.cell? ⟨gb128, 1, none⟩ = some (.int .i64 0) := (blk_cell BK128.out 1).trans rfl
  have hfs21 := blk_frozen BK128.out 1
  have hns21_0 := NB117_128.out
  have hns21_1 := NB118_128.out
  have hns21_2 := NB123_128.out
  have hms21_0 := NB128_117.out
  have hms21_1 := NB128_118.out
  have hms21_2 := NB128_123.out
  refine skip_ (w1 := ?_) (by rfl) rfl ?_ ?_
  rotate_left
  ·
   go_simp
   rfl
  refine hK.out _ _ ⟨((cell_far (p := ⟨gb128, _, none⟩) z2_15_ _).trans (((cell_far (p := ⟨gb128, _, none⟩) z2_15_ _).trans (hHeld.1)))), ((cell_far (p := ⟨gb128, _, none⟩) z2_14_ _).trans (((cell_far (p := ⟨gb128, _, none⟩) z2_14_ _).trans (hHeld.2.1)))), ((cell_far (p := ⟨gb128, _, none⟩) z2_13_ _).trans (((cell_far (p := ⟨gb128, _, none⟩) z2_13_ _).trans (hHeld.2.2.1)))), ((cell_far (p := ⟨gb128, _, none⟩) z2_12_ _).trans (((cell_far (p := ⟨gb128, _, none⟩) z2_12_ _).trans (hHeld.2.2.2))))⟩ (fun hHeld => ?_)
  clear hK K
  refine pure_ (i := 24) (N := some 7) (v := ?_) (a' := ?_) #[true, true, true, true, true, true, true, true, true, true, true, true, true, true, true, true, true, true, true, true, true, true, true, true, true] rfl rfl (any_of HT_.out (by kernel_rfl)) (fun _ _ _ h => h) (Or.inl ⟨by rfl, ?_⟩) ?_ ?_
  rotate_left
  ·
   intro w'
   go_simp
   with_reducible rfl
  rotate_left
  ·
   simp only [Act.put, sA_, sB_, sC_, i64_w, i32_w]
   rfl
  refine done_ (done_of HT_.out (by kernel_rfl)) ?_
  have H := HZ_.out
  clear HZ_
  by_cases c6 : t131 < 0
  ·
   rw [if_pos c6] at H
   have c6b0 := decide_eq_true c6
   clear c6
   simp only [Option.some.injEq, Prod.mk.injEq] at H
   obtain ⟨rfl, rfl, rfl, rfl⟩ := H
   try go_wp2_with (first | ((with_reducible refine gate_callee (f := 62) rfl ?_); refine goesL_ (some 52) rfl rfl Try.func62 (by kernel_rfl) rfl #[.pointer (some ⟨gb128, 0, none⟩), .pointer (some ⟨gb123, 0, none⟩)] rfl z2_7_ ?_; (with_reducible refine (spec_l03Order.calls _ ([(⟨t125, t126⟩ : S55)]).length [(⟨t125, t126⟩ : S55)] _ ([(⟨t120, t121⟩ : S55)]).length [(⟨t120, t121⟩ : S55)] t131 _ ?side1 ?side2 ?side3 ?side4 A5.out).mono ?_); (case side1 => refine Kd.C_block k55 (g := gb128) (cs := #[.int .i64 t125, .int .i64 t126]) (T := 55) z2_6_ (show Kd.K k55 _ (⟨t125, t126⟩ : S55) [.int .i64 t125, .int .i64 t126] from k55_mk _ _) (by decide)); (case side2 => exact Nat.le_refl _); (case side3 => refine Kd.C_block k55 (g := gb123) (cs := #[.int .i64 t120, .int .i64 t121]) (T := 55) z2_9_ (show Kd.K k55 _ (⟨t120, t121⟩ : S55) [.int .i64 t120, .int .i64 t121] from k55_mk _ _) (by decide)); (case side4 => exact Nat.le_refl _); rintro e w' ⟨rfl, ⟨nd, rfl⟩⟩; refine ⟨_, rfl, ?_⟩))
   have n0_ : Aside0 (((w19.setCell ⟨gb128, 0, none⟩ (.int .i64 t125)).setCell ⟨gb128, 1, none⟩ (.int .i64 t126)).heap[gb117]? = some (.cells #[.int .i64 0, .int .i64 0] 55 (0, 0))) := ⟨z2_22_⟩
   have n1_ : Aside0 (((w19.setCell ⟨gb128, 0, none⟩ (.int .i64 t125)).setCell ⟨gb128, 1, none⟩ (.int .i64 t126)).heap[gb118]? = some (.cells #[.int .i64 0, .int .i64 0] 55 (0, 0))) := ⟨z2_21_⟩
   have n2_ : Aside0 (((w19.setCell ⟨gb128, 0, none⟩ (.int .i64 t125)).setCell ⟨gb128, 1, none⟩ (.int .i64 t126)).heap[gb123]? = some (.cells #[.int .i64 t120, .int .i64 t121] 55 (0, 0))) := ⟨z2_9_⟩
   have n3_ : Aside0 (((w19.setCell ⟨gb128, 0, none⟩ (.int .i64 t125)).setCell ⟨gb128, 1, none⟩ (.int .i64 t126)).heap[gb128]? = some (.cells #[.int .i64 t125, .int .i64 t126] 55 (0, 0))) := ⟨z2_6_⟩
   have n4_ : Aside0 (Below w.heap.size w ((w19.setCell ⟨gb128, 0, none⟩ (.int .i64 t125)).setCell ⟨gb128, 1, none⟩ (.int .i64 t126))) := ⟨z2_4_⟩
   (try clear BK117)
   (try clear BK118)
   (try clear BK123)
   (try clear BK128)
   (try clear HB)
   generalize ((w19.setCell ⟨gb128, 0, none⟩ (.int .i64 t125)).setCell ⟨gb128, 1, none⟩ (.int .i64 t126)) = w22 at n0_ n1_ n2_ n3_ n4_ ⊢
   have BK117 := n0_
   have BK118 := n1_
   have BK123 := n2_
   have BK128 := n3_
   have HB := n4_
   clear n0_ n1_ n2_ n3_ n4_
   (try (rw [drewN_self w22]; generalize hq_ : World.drewN w22 _ = w22; have n0_ : Aside0 (w22.heap[gb117]? = some (.cells #[.int .i64 0, .int .i64 0] 55 (0, 0))) := ⟨(by rw [← hq_]; exact z2_1_)⟩; have n1_ : Aside0 (w22.heap[gb118]? = some (.cells #[.int .i64 0, .int .i64 0] 55 (0, 0))) := ⟨(by rw [← hq_]; exact z2_2_)⟩; have n2_ : Aside0 (w22.heap[gb123]? = some (.cells #[.int .i64 t120, .int .i64 t121] 55 (0, 0))) := ⟨(by rw [← hq_]; exact z2_5_)⟩; have n3_ : Aside0 (w22.heap[gb128]? = some (.cells #[.int .i64 t125, .int .i64 t126] 55 (0, 0))) := ⟨(by rw [← hq_]; exact z2_20_)⟩; have n4_ : Aside0 (Below w.heap.size w w22) := ⟨(by rw [← hq_]; exact z2_4_)⟩; clear BK117 BK118 BK123 BK128 HB hq_; have BK117 := n0_; have BK118 := n1_; have BK123 := n2_; have BK128 := n3_; have HB := n4_; clear n0_ n1_ n2_ n3_ n4_))
   have _ := A_ (blk_drew BK117.out)
   have _ := A_ (blk_drew BK118.out)
   have _ := A_ (blk_drew BK123.out)
   have _ := A_ (blk_drew BK128.out)
   have _ := A_ (below_drew1 HB.out)
   clear BK117 BK118 BK123 BK128 HB
   rename_i BK117 BK118 BK123 BK128 HB
   refine start_ (n := 4) (S := fun w' => w'.cell? ⟨gb128, 0, none⟩ = some (.int .i64 t125) ∧ w'.cell? ⟨gb128, 1, none⟩ = some (.int .i64 t126) ∧ w'.cell? ⟨gb123, 0, none⟩ = some (.int .i64 t120) ∧ w'.cell? ⟨gb123, 1, none⟩ = some (.int .i64 t121)) (ds := []) #[false, false, false, false] (by kernel_rfl) rfl rfl ⟨(blk_cell BK128.out 0).trans rfl, (blk_cell BK128.out 1).trans rfl, (blk_cell BK123.out 0).trans rfl, (blk_cell BK123.out 1).trans rfl⟩ (fun hHeld => ?_)
   generalize w22.drew = w23 at BK117 BK118 BK123 BK128 HB hHeld ⊢
   refine take_ (i := 0) (N := some 54) (v := ?_) (a' := ?_) #[true, false, false, false] rfl rfl (by kernel_rfl) (fun _ _ _ h => h) (Or.inl ⟨by rfl, ?_⟩) hHeld ?_ ?_
   rotate_left
   ·
    rintro w' ⟨s0, s1, s2, s3⟩
    go_simp
    with_reducible rfl
   rotate_left
   ·
    simp only [Act.put, sA_, sB_, sC_, i64_w, i32_w]
    rfl
   refine take_ (i := 1) (N := some 55) (v := ?_) (a' := ?_) #[true, true, false, false] rfl rfl (by kernel_rfl) (fun _ _ _ h => h) (Or.inl ⟨by rfl, ?_⟩) hHeld ?_ ?_
   rotate_left
   ·
    rintro w' ⟨s0, s1, s2, s3⟩
    go_simp
    with_reducible rfl
   rotate_left
   ·
    simp only [Act.put, sA_, sB_, sC_, i64_w, i32_w]
    rfl
   refine one_ (i := 2) (N := none) #[true, true, true, false] rfl rfl (by kernel_rfl) (by decide) (fun K hK => ?_)
   have hs24 : w23.cell? ⟨gb117, 0, none⟩ = some (.int .i64 0) := (blk_cell BK117.out 0).trans rfl
   have hfs24 := blk_frozen BK117.out 0
   have hns24_1 := NB118_117.out
   have hns24_2 := NB123_117.out
   have hns24_3 := NB128_117.out
   have hms24_1 := NB117_118.out
   have hms24_2 := NB117_123.out
   have hms24_3 := NB117_128.out
   have hs25 : w23.cell? ⟨gb117, 1, none⟩ = some (.int .i64 0) := (blk_cell BK117.out 1).trans rfl
   have hfs25 := blk_frozen BK117.out 1
   have hns25_1 := NB118_117.out
   have hns25_2 := NB123_117.out
   have hns25_3 := NB128_117.out
   have hms25_1 := NB117_118.out
   have hms25_2 := NB117_123.out
   have hms25_3 := NB117_128.out
   refine skip_ (w1 := ?_) (by rfl) rfl ?_ ?_
   rotate_left
   ·
    go_simp
    rfl
   refine hK.out _ _ ⟨((cell_far (p := ⟨gb117, _, none⟩) NB128_117.out _).trans (((cell_far (p := ⟨gb117, _, none⟩) NB128_117.out _).trans (hHeld.1)))), ((cell_far (p := ⟨gb117, _, none⟩) NB128_117.out _).trans (((cell_far (p := ⟨gb117, _, none⟩) NB128_117.out _).trans (hHeld.2.1)))), ((cell_far (p := ⟨gb117, _, none⟩) NB123_117.out _).trans (((cell_far (p := ⟨gb117, _, none⟩) NB123_117.out _).trans (hHeld.2.2.1)))), ((cell_far (p := ⟨gb117, _, none⟩) NB123_117.out _).trans (((cell_far (p := ⟨gb117, _, none⟩) NB123_117.out _).trans (hHeld.2.2.2))))⟩ (fun hHeld => ?_)
   clear hK K
   refine one_ (i := 3) (N := none) #[true, true, true, true] rfl rfl (by kernel_rfl) (by decide) (fun K hK => ?_)
   have hs26 : w23.cell? ⟨gb118, 0, none⟩ = some (.int .i64 0) := (blk_cell BK118.out 0).trans rfl
   have hfs26 := blk_frozen BK118.out 0
   have hns26_0 := NB117_118.out
   have hns26_2 := NB123_118.out
   have hns26_3 := NB128_118.out
   have hms26_0 := NB118_117.out
   have hms26_2 := NB118_123.out
   have hms26_3 := NB118_128.out
   have hs27 : w23.cell? ⟨gb118, 1, none⟩ = some (.int .i64 0) := (blk_cell BK118.out 1).trans rfl
   have hfs27 := blk_frozen BK118.out 1
   have hns27_0 := NB117_118.out
   have hns27_2 := NB123_118.out
   have hns27_3 := NB128_118.out
   have hms27_0 := NB118_117.out
   have hms27_2 := NB118_123.out
   have hms27_3 := NB118_128.out
   refine skip_ (w1 := ?_) (by rfl) rfl ?_ ?_
   rotate_left
   ·
    go_simp
    rfl
   refine hK.out _ _ ⟨((cell_far (p := ⟨gb118, _, none⟩) NB128_118.out _).trans (((cell_far (p := ⟨gb118, _, none⟩) NB128_118.out _).trans (hHeld.1)))), ((cell_far (p := ⟨gb118, _, none⟩) NB128_118.out _).trans (((cell_far (p := ⟨gb118, _, none⟩) NB128_118.out _).trans (hHeld.2.1)))), ((cell_far (p := ⟨gb118, _, none⟩) NB123_118.out _).trans (((cell_far (p := ⟨gb118, _, none⟩) NB123_118.out _).trans (hHeld.2.2.1)))), ((cell_far (p := ⟨gb118, _, none⟩) NB123_118.out _).trans (((cell_far (p := ⟨gb118, _, none⟩) NB123_118.out _).trans (hHeld.2.2.2))))⟩ (fun hHeld => ?_)
   clear hK K
   refine done_ (by kernel_rfl) ?_
   try go_wp2
   refine bodyPost_ret (results_cc rfl _ _ gb117 gb118 55 55 #[.int .i64 t125, .int .i64 t126] #[.int .i64 t120, .int .i64 t121] (0, 0) (0, 0) _ _ rfl (by (with_reducible repeat (first | refine blk_drewN ?_ _ | refine blk_drew ?_ | refine blk_alloc ?_ _)); refine blk_far ?_ NB117_118.out _; (with_reducible repeat (first | refine blk_drewN ?_ _ | refine blk_drew ?_ | refine blk_alloc ?_ _)); refine blk_far ?_ NB117_118.out _; (with_reducible repeat (first | refine blk_drewN ?_ _ | refine blk_drew ?_ | refine blk_alloc ?_ _)); refine blk_put (cs := #[.int .i64 t125, .int .i64 0]) ?_ 1 _ rfl; (with_reducible repeat (first | refine blk_drewN ?_ _ | refine blk_drew ?_ | refine blk_alloc ?_ _)); refine blk_put (cs := #[.int .i64 0, .int .i64 0]) ?_ 0 _ rfl; (with_reducible repeat (first | refine blk_drewN ?_ _ | refine blk_drew ?_ | refine blk_alloc ?_ _)); exact BK117.out) Try.underlying55 rfl (by kernel_rfl) rfl (by (with_reducible repeat (first | refine blk_drewN ?_ _ | refine blk_drew ?_ | refine blk_alloc ?_ _)); refine blk_put (cs := #[.int .i64 t120, .int .i64 0]) ?_ 1 _ rfl; (with_reducible repeat (first | refine blk_drewN ?_ _ | refine blk_drew ?_ | refine blk_alloc ?_ _)); refine blk_put (cs := #[.int .i64 0, .int .i64 0]) ?_ 0 _ rfl; (with_reducible repeat (first | refine blk_drewN ?_ _ | refine blk_drew ?_ | refine blk_alloc ?_ _)); refine blk_far ?_ NB118_117.out _; (with_reducible repeat (first | refine blk_drewN ?_ _ | refine blk_drew ?_ | refine blk_alloc ?_ _)); refine blk_far ?_ NB118_117.out _; (with_reducible repeat (first | refine blk_drewN ?_ _ | refine blk_drew ?_ | refine blk_alloc ?_ _)); exact BK118.out) Try.underlying55 rfl (by kernel_rfl)) rfl ?_
   exact ⟨z2_26_, z2_4_⟩
  ·
   rw [if_neg c6] at H
   have c6b0 := decide_eq_false c6
   clear c6
   simp only [Option.some.injEq, Prod.mk.injEq] at H
   obtain ⟨rfl, rfl, rfl, rfl⟩ := H
   try go_wp2_with (first | ((with_reducible refine gate_callee (f := 62) rfl ?_); refine goesL_ (some 52) rfl rfl Try.func62 (by kernel_rfl) rfl #[.pointer (some ⟨gb128, 0, none⟩), .pointer (some ⟨gb123, 0, none⟩)] rfl z2_7_ ?_; (with_reducible refine (spec_l03Order.calls _ ([(⟨t125, t126⟩ : S55)]).length [(⟨t125, t126⟩ : S55)] _ ([(⟨t120, t121⟩ : S55)]).length [(⟨t120, t121⟩ : S55)] t131 _ ?side1 ?side2 ?side3 ?side4 A5.out).mono ?_); (case side1 => refine Kd.C_block k55 (g := gb128) (cs := #[.int .i64 t125, .int .i64 t126]) (T := 55) z2_6_ (show Kd.K k55 _ (⟨t125, t126⟩ : S55) [.int .i64 t125, .int .i64 t126] from k55_mk _ _) (by decide)); (case side2 => exact Nat.le_refl _); (case side3 => refine Kd.C_block k55 (g := gb123) (cs := #[.int .i64 t120, .int .i64 t121]) (T := 55) z2_9_ (show Kd.K k55 _ (⟨t120, t121⟩ : S55) [.int .i64 t120, .int .i64 t121] from k55_mk _ _) (by decide)); (case side4 => exact Nat.le_refl _); rintro e w' ⟨rfl, ⟨nd, rfl⟩⟩; refine ⟨_, rfl, ?_⟩))
   have n0_ : Aside0 (((w19.setCell ⟨gb128, 0, none⟩ (.int .i64 t125)).setCell ⟨gb128, 1, none⟩ (.int .i64 t126)).heap[gb117]? = some (.cells #[.int .i64 0, .int .i64 0] 55 (0, 0))) := ⟨z2_22_⟩
   have n1_ : Aside0 (((w19.setCell ⟨gb128, 0, none⟩ (.int .i64 t125)).setCell ⟨gb128, 1, none⟩ (.int .i64 t126)).heap[gb118]? = some (.cells #[.int .i64 0, .int .i64 0] 55 (0, 0))) := ⟨z2_21_⟩
   have n2_ : Aside0 (((w19.setCell ⟨gb128, 0, none⟩ (.int .i64 t125)).setCell ⟨gb128, 1, none⟩ (.int .i64 t126)).heap[gb123]? = some (.cells #[.int .i64 t120, .int .i64 t121] 55 (0, 0))) := ⟨z2_9_⟩
   have n3_ : Aside0 (((w19.setCell ⟨gb128, 0, none⟩ (.int .i64 t125)).setCell ⟨gb128, 1, none⟩ (.int .i64 t126)).heap[gb128]? = some (.cells #[.int .i64 t125, .int .i64 t126] 55 (0, 0))) := ⟨z2_6_⟩
   have n4_ : Aside0 (Below w.heap.size w ((w19.setCell ⟨gb128, 0, none⟩ (.int .i64 t125)).setCell ⟨gb128, 1, none⟩ (.int .i64 t126))) := ⟨z2_4_⟩
   (try clear BK117)
   (try clear BK118)
   (try clear BK123)
   (try clear BK128)
   (try clear HB)
   generalize ((w19.setCell ⟨gb128, 0, none⟩ (.int .i64 t125)).setCell ⟨gb128, 1, none⟩ (.int .i64 t126)) = w43 at n0_ n1_ n2_ n3_ n4_ ⊢
   have BK117 := n0_
   have BK118 := n1_
   have BK123 := n2_
   have BK128 := n3_
   have HB := n4_
   clear n0_ n1_ n2_ n3_ n4_
   (try (rw [drewN_self w43]; generalize hq_ : World.drewN w43 _ = w43; have n0_ : Aside0 (w43.heap[gb117]? = some (.cells #[.int .i64 0, .int .i64 0] 55 (0, 0))) := ⟨(by rw [← hq_]; exact z2_1_)⟩; have n1_ : Aside0 (w43.heap[gb118]? = some (.cells #[.int .i64 0, .int .i64 0] 55 (0, 0))) := ⟨(by rw [← hq_]; exact z2_2_)⟩; have n2_ : Aside0 (w43.heap[gb123]? = some (.cells #[.int .i64 t120, .int .i64 t121] 55 (0, 0))) := ⟨(by rw [← hq_]; exact z2_5_)⟩; have n3_ : Aside0 (w43.heap[gb128]? = some (.cells #[.int .i64 t125, .int .i64 t126] 55 (0, 0))) := ⟨(by rw [← hq_]; exact z2_20_)⟩; have n4_ : Aside0 (Below w.heap.size w w43) := ⟨(by rw [← hq_]; exact z2_4_)⟩; clear BK117 BK118 BK123 BK128 HB hq_; have BK117 := n0_; have BK118 := n1_; have BK123 := n2_; have BK128 := n3_; have HB := n4_; clear n0_ n1_ n2_ n3_ n4_))
   have _ := A_ (blk_drew BK117.out)
   have _ := A_ (blk_drew BK118.out)
   have _ := A_ (blk_drew BK123.out)
   have _ := A_ (blk_drew BK128.out)
   have _ := A_ (below_drew1 HB.out)
   clear BK117 BK118 BK123 BK128 HB
   rename_i BK117 BK118 BK123 BK128 HB
   refine start_ (n := 4) (S := fun w' => w'.cell? ⟨gb123, 0, none⟩ = some (.int .i64 t120) ∧ w'.cell? ⟨gb123, 1, none⟩ = some (.int .i64 t121) ∧ w'.cell? ⟨gb128, 0, none⟩ = some (.int .i64 t125) ∧ w'.cell? ⟨gb128, 1, none⟩ = some (.int .i64 t126)) (ds := []) #[false, false, false, false] (by kernel_rfl) rfl rfl ⟨(blk_cell BK123.out 0).trans rfl, (blk_cell BK123.out 1).trans rfl, (blk_cell BK128.out 0).trans rfl, (blk_cell BK128.out 1).trans rfl⟩ (fun hHeld => ?_)
   generalize w43.drew = w44 at BK117 BK118 BK123 BK128 HB hHeld ⊢
   refine take_ (i := 0) (N := some 56) (v := ?_) (a' := ?_) #[true, false, false, false] rfl rfl (by kernel_rfl) (fun _ _ _ h => h) (Or.inl ⟨by rfl, ?_⟩) hHeld ?_ ?_
   rotate_left
   ·
    rintro w' ⟨s0, s1, s2, s3⟩
    go_simp
    with_reducible rfl
   rotate_left
   ·
    simp only [Act.put, sA_, sB_, sC_, i64_w, i32_w]
    rfl
   refine take_ (i := 1) (N := some 57) (v := ?_) (a' := ?_) #[true, true, false, false] rfl rfl (by kernel_rfl) (fun _ _ _ h => h) (Or.inl ⟨by rfl, ?_⟩) hHeld ?_ ?_
   rotate_left
   ·
    rintro w' ⟨s0, s1, s2, s3⟩
    go_simp
    with_reducible rfl
   rotate_left
   ·
    simp only [Act.put, sA_, sB_, sC_, i64_w, i32_w]
    rfl
   refine one_ (i := 2) (N := none) #[true, true, true, false] rfl rfl (by kernel_rfl) (by decide) (fun K hK => ?_)
   have hs45 : w44.cell? ⟨gb117, 0, none⟩ = some (.int .i64 0) := (blk_cell BK117.out 0).trans rfl
   have hfs45 := blk_frozen BK117.out 0
   have hns45_1 := NB118_117.out
   have hns45_2 := NB123_117.out
   have hns45_3 := NB128_117.out
   have hms45_1 := NB117_118.out
   have hms45_2 := NB117_123.out
   have hms45_3 := NB117_128.out
   have hs46 : w44.cell? ⟨gb117, 1, none⟩ = some (.int .i64 0) := (blk_cell BK117.out 1).trans rfl
   have hfs46 := blk_frozen BK117.out 1
   have hns46_1 := NB118_117.out
   have hns46_2 := NB123_117.out
   have hns46_3 := NB128_117.out
   have hms46_1 := NB117_118.out
   have hms46_2 := NB117_123.out
   have hms46_3 := NB117_128.out
   refine skip_ (w1 := ?_) (by rfl) rfl ?_ ?_
   rotate_left
   ·
    go_simp
    rfl
   refine hK.out _ _ ⟨((cell_far (p := ⟨gb117, _, none⟩) NB123_117.out _).trans (((cell_far (p := ⟨gb117, _, none⟩) NB123_117.out _).trans (hHeld.1)))), ((cell_far (p := ⟨gb117, _, none⟩) NB123_117.out _).trans (((cell_far (p := ⟨gb117, _, none⟩) NB123_117.out _).trans (hHeld.2.1)))), ((cell_far (p := ⟨gb117, _, none⟩) NB128_117.out _).trans (((cell_far (p := ⟨gb117, _, none⟩) NB128_117.out _).trans (hHeld.2.2.1)))), ((cell_far (p := ⟨gb117, _, none⟩) NB128_117.out _).trans (((cell_far (p := ⟨gb117, _, none⟩) NB128_117.out _).trans (hHeld.2.2.2))))⟩ (fun hHeld => ?_)
   clear hK K
   refine one_ (i := 3) (N := none) #[true, true, true, true] rfl rfl (by kernel_rfl) (by decide) (fun K hK => ?_)
   have hs47 : w44.cell? ⟨gb118, 0, none⟩ = some (.int .i64 0) := (blk_cell BK118.out 0).trans rfl
   have hfs47 := blk_frozen BK118.out 0
   have hns47_0 := NB117_118.out
   have hns47_2 := NB123_118.out
   have hns47_3 := NB128_118.out
   have hms47_0 := NB118_117.out
   have hms47_2 := NB118_123.out
   have hms47_3 := NB118_128.out
   have hs48 : w44.cell? ⟨gb118, 1, none⟩ = some (.int .i64 0) := (blk_cell BK118.out 1).trans rfl
   have hfs48 := blk_frozen BK118.out 1
   have hns48_0 := NB117_118.out
   have hns48_2 := NB123_118.out
   have hns48_3 := NB128_118.out
   have hms48_0 := NB118_117.out
   have hms48_2 := NB118_123.out
   have hms48_3 := NB118_128.out
   refine skip_ (w1 := ?_) (by rfl) rfl ?_ ?_
   rotate_left
   ·
    go_simp
    rfl
   refine hK.out _ _ ⟨((cell_far (p := ⟨gb118, _, none⟩) NB123_118.out _).trans (((cell_far (p := ⟨gb118, _, none⟩) NB123_118.out _).trans (hHeld.1)))), ((cell_far (p := ⟨gb118, _, none⟩) NB123_118.out _).trans (((cell_far (p := ⟨gb118, _, none⟩) NB123_118.out _).trans (hHeld.2.1)))), ((cell_far (p := ⟨gb118, _, none⟩) NB128_118.out _).trans (((cell_far (p := ⟨gb118, _, none⟩) NB128_118.out _).trans (hHeld.2.2.1)))), ((cell_far (p := ⟨gb118, _, none⟩) NB128_118.out _).trans (((cell_far (p := ⟨gb118, _, none⟩) NB128_118.out _).trans (hHeld.2.2.2))))⟩ (fun hHeld => ?_)
   clear hK K
   refine done_ (by kernel_rfl) ?_
   try go_wp2
   refine bodyPost_ret (results_cc rfl _ _ gb117 gb118 55 55 #[.int .i64 t120, .int .i64 t121] #[.int .i64 t125, .int .i64 t126] (0, 0) (0, 0) _ _ rfl (by (with_reducible repeat (first | refine blk_drewN ?_ _ | refine blk_drew ?_ | refine blk_alloc ?_ _)); refine blk_far ?_ NB117_118.out _; (with_reducible repeat (first | refine blk_drewN ?_ _ | refine blk_drew ?_ | refine blk_alloc ?_ _)); refine blk_far ?_ NB117_118.out _; (with_reducible repeat (first | refine blk_drewN ?_ _ | refine blk_drew ?_ | refine blk_alloc ?_ _)); refine blk_put (cs := #[.int .i64 t120, .int .i64 0]) ?_ 1 _ rfl; (with_reducible repeat (first | refine blk_drewN ?_ _ | refine blk_drew ?_ | refine blk_alloc ?_ _)); refine blk_put (cs := #[.int .i64 0, .int .i64 0]) ?_ 0 _ rfl; (with_reducible repeat (first | refine blk_drewN ?_ _ | refine blk_drew ?_ | refine blk_alloc ?_ _)); exact BK117.out) Try.underlying55 rfl (by kernel_rfl) rfl (by (with_reducible repeat (first | refine blk_drewN ?_ _ | refine blk_drew ?_ | refine blk_alloc ?_ _)); refine blk_put (cs := #[.int .i64 t125, .int .i64 0]) ?_ 1 _ rfl; (with_reducible repeat (first | refine blk_drewN ?_ _ | refine blk_drew ?_ | refine blk_alloc ?_ _)); refine blk_put (cs := #[.int .i64 0, .int .i64 0]) ?_ 0 _ rfl; (with_reducible repeat (first | refine blk_drewN ?_ _ | refine blk_drew ?_ | refine blk_alloc ?_ _)); refine blk_far ?_ NB118_117.out _; (with_reducible repeat (first | refine blk_drewN ?_ _ | refine blk_drew ?_ | refine blk_alloc ?_ _)); refine blk_far ?_ NB118_117.out _; (with_reducible repeat (first | refine blk_drewN ?_ _ | refine blk_drew ?_ | refine blk_alloc ?_ _)); exact BK118.out) Try.underlying55 rfl (by kernel_rfl)) rfl ?_
   exact ⟨z2_26_, z2_4_⟩
 ·
  rw [if_neg c2] at H
  exact absurd H (by simp)
/-! ### spec_l03Digits: function 63 -/
def spec_l03Digits.l0 : Nat → List Int → Int → Option (Bool)
 | 0, _, _ => none
 | k + 1, x0, x3 => if x3 < (x0.length : Int) then (if 0 ≤ x3 then (if (rd x0 x3) < (-1) then (some false) else (if (rd x0 x3) > 1 then (some false) else (spec_l03Digits.l0 k x0 (wrap64 (x3 + 1))))) else (none)) else (some true)
def spec_l03Digits.f (k : Nat) (l0 : List Int) : Option (Bool) := spec_l03Digits.l0 k l0 0
theorem spec_l03Digits.mono_l : ∀ k, (∀ y0 y1, LeO (spec_l03Digits.l0 k y0 y1) (spec_l03Digits.l0 (k + 1) y0 y1))
 | 0 => fun _ _ r h => by simp [spec_l03Digits.l0] at h
 | k + 1 => by
  have ih0 := spec_l03Digits.mono_l k
  ·
   intro y0 y1
   unfold spec_l03Digits.l0
   repeat' first
   | (with_reducible exact ih0 _ _)
   | (with_reducible exact LeO.refl _)
   | (with_reducible exact LeO.none _)
   | (with_reducible refine LeO.ite ?_ ?_)
   | (with_reducible refine LeO.bind ?_ (fun _ => ?_))
   | exact ih0 _ _
   | exact LeO.none _
   | refine LeO.ite ?_ ?_
   | refine LeO.bind ?_ (fun _ => ?_)
theorem spec_l03Digits.mono : ∀ a0 k, LeO (spec_l03Digits.f k a0) (spec_l03Digits.f (k + 1) a0) := by
 intro a0 k
 have ih0 := spec_l03Digits.mono_l k
 unfold spec_l03Digits.f
 repeat' first
   | (with_reducible exact ih0 _ _)
   | (with_reducible exact LeO.refl _)
   | (with_reducible exact LeO.none _)
   | (with_reducible refine LeO.ite ?_ ?_)
   | (with_reducible refine LeO.bind ?_ (fun _ => ?_))
   | exact ih0 _ _
   | exact LeO.none _
   | refine LeO.ite ?_ ?_
   | refine LeO.bind ?_ (fun _ => ?_)
set_option maxHeartbeats 8000000 in
set_option maxRecDepth 100000 in
theorem spec_l03Digits.calls (k : Nat) (A0 : Option Addr) (c0 : Nat) (l0 : List Int) (r : Bool) (w : World) (hr0 : Kd.C (Kd.int .i8) w A0 l0.length l0) (hc0 : l0.length ≤ c0) (h : spec_l03Digits.f k l0 = some r) :
  Calls Try.prog 63 #[.slice A0 l0.length c0] w fun e w' => e = .returned (.bool r) ∧ Drawn0 w w' := by
 have HR0 := A_ hr0
 have HC0 := A_ hc0
 clear hr0 hc0
 have H : (spec_l03Digits.l0 k l0 0) = some r := h
 clear h
 have H' := A_ H
 clear H
 go_enter Try.func63, Try.ntmps63
 go_wp2
 go_loopg [3] k (fun kq v3 w' => ∃ (x3_1 : Int), v3 = .int .i64 x3_1 ∧ Aside0 (spec_l03Digits.l0 kq l0 x3_1 = some r) ∧ Aside0 (kq ≤ k) ∧ Drawn0 w w')
 case atStart => exact ⟨(0), z2_10_, H', ⟨Nat.le_refl _⟩, z2_11_⟩
 case round =>
  clear H'
  obtain ⟨x3_1, rfl, HA, HK1, ⟨m1, rfl⟩⟩ := hrel
  cases gk with
  | zero => exact absurd HA.out (by simp [spec_l03Digits.l0])
  | succ k1 =>
   have H := HA.out
   clear HA
   simp only [spec_l03Digits.l0] at H
   by_cases c2 : x3_1 < (l0.length : Int)
   ·
    rw [if_pos c2] at H
    have c2b0 := decide_eq_true c2
    clear c2
    by_cases c3 : 0 ≤ x3_1
    ·
     rw [if_pos c3] at H
     have c3b0 := decide_eq_true c3
     clear c3
     by_cases c4 : (rd l0 x3_1) < (-1)
     ·
      rw [if_pos c4] at H
      have c4b0 := decide_eq_true c4
      clear c4
      obtain rfl := Option.some.inj H
      have p132 : 0 ≤ (x3_1 : Int) := of_decide_eq_true (by assumption)
      have q132 : x3_1 < (l0.length : Int) := of_decide_eq_true (by assumption)
      obtain ⟨ad132, e132, hx132_0⟩ := Kd.at_int HR0.out x3_1 p132 q132
      cases e132
      replace p132 := eq_true p132
      replace q132 := eq_true q132
      go_wp2
      go_ret
      exact ⟨z2_10_, z2_11_⟩
     ·
      rw [if_neg c4] at H
      have c4b0 := decide_eq_false c4
      clear c4
      by_cases c5 : (rd l0 x3_1) > 1
      ·
       rw [if_pos c5] at H
       have c5b0 := decide_eq_true c5
       clear c5
       obtain rfl := Option.some.inj H
       have p132 : 0 ≤ (x3_1 : Int) := of_decide_eq_true (by assumption)
       have q132 : x3_1 < (l0.length : Int) := of_decide_eq_true (by assumption)
       obtain ⟨ad132, e132, hx132_0⟩ := Kd.at_int HR0.out x3_1 p132 q132
       cases e132
       replace p132 := eq_true p132
       replace q132 := eq_true q132
       have p133 : 0 ≤ (x3_1 : Int) := of_decide_eq_true (by assumption)
       have q133 : x3_1 < (l0.length : Int) := of_decide_eq_true (by assumption)
       obtain ⟨ad133, e133, hx133_0⟩ := Kd.at_int HR0.out x3_1 p133 q133
       obtain rfl : ad132 = ad133 := (by injection e133)
       replace p133 := eq_true p133
       replace q133 := eq_true q133
       go_wp2
       go_ret
       exact ⟨z2_10_, z2_11_⟩
      ·
       rw [if_neg c5] at H
       have c5b0 := decide_eq_false c5
       clear c5
       have H' := A_ H
       clear H
       have p132 : 0 ≤ (x3_1 : Int) := of_decide_eq_true (by assumption)
       have q132 : x3_1 < (l0.length : Int) := of_decide_eq_true (by assumption)
       obtain ⟨ad132, e132, hx132_0⟩ := Kd.at_int HR0.out x3_1 p132 q132
       cases e132
       replace p132 := eq_true p132
       replace q132 := eq_true q132
       have p133 : 0 ≤ (x3_1 : Int) := of_decide_eq_true (by assumption)
       have q133 : x3_1 < (l0.length : Int) := of_decide_eq_true (by assumption)
       obtain ⟨ad133, e133, hx133_0⟩ := Kd.at_int HR0.out x3_1 p133 q133
       obtain rfl : ad132 = ad133 := (by injection e133)
       replace p133 := eq_true p133
       replace q133 := eq_true q133
       go_wp2
       go_roundg k1
       case measure => have := HK1.out; omega
       case rel => exact ⟨(wrap64 (x3_1 + 1)), z2_10_, H', ⟨(by have := HK1.out; omega)⟩, z2_11_⟩
    ·
     rw [if_neg c3] at H
     exact absurd H (by simp)
   ·
    rw [if_neg c2] at H
    have c2b0 := decide_eq_false c2
    clear c2
    obtain rfl := Option.some.inj H
    go_wp2
    go_ret
    exact ⟨z2_10_, z2_11_⟩
/-! ### spec_l03Ok: function 54 -/
def spec_l03Ok.f (k : Nat) (l0 : List (S33)) : Option (Bool) := if 0 < (l0.length : Int) then (if (((rd_T33 l0 0).f0).length : Int) ≤ 16 then ((spec_l00In.f (((rd_T33 l0 0).f1).length : Int) 1 14).bind fun t135 => (if t135 = true then ((spec_l03Digits.f k ((rd_T33 l0 0).f0)).bind fun t136 => (if t136 = true then ((spec_l03Digits.f k ((rd_T33 l0 0).f1)).bind fun t137 => (some t137)) else (some false))) else (some false))) else (some false)) else (none)
theorem spec_l03Ok.mono : ∀ a0 k, LeO (spec_l03Ok.f k a0) (spec_l03Ok.f (k + 1) a0) := by
 intro a0 k
 unfold spec_l03Ok.f
 repeat' first
   | (with_reducible exact spec_l03Digits.mono _ _)
   | (with_reducible exact LeO.refl _)
   | (with_reducible exact LeO.none _)
   | (with_reducible refine LeO.ite ?_ ?_)
   | (with_reducible refine LeO.bind ?_ (fun _ => ?_))
   | exact LeO.none _
   | refine LeO.ite ?_ ?_
   | refine LeO.bind ?_ (fun _ => ?_)
set_option maxHeartbeats 8000000 in
set_option maxRecDepth 100000 in
theorem spec_l03Ok.calls (k : Nat) (A0 : Option Addr) (c0 : Nat) (l0 : List (S33)) (r : Bool) (w : World) (hr0 : Kd.C k33 w A0 l0.length l0) (hc0 : l0.length ≤ c0) (h : spec_l03Ok.f k l0 = some r) :
  Calls Try.prog 54 #[.pointer A0] w fun e w' => e = .returned (.bool r) ∧ Drawn0 w w' := by
 have HR0 := A_ hr0
 have HC0 := A_ hc0
 clear hr0 hc0
 have H : (if 0 < (l0.length : Int) then (if (((rd_T33 l0 0).f0).length : Int) ≤ 16 then ((spec_l00In.f (((rd_T33 l0 0).f1).length : Int) 1 14).bind fun t135 => (if t135 = true then ((spec_l03Digits.f k ((rd_T33 l0 0).f0)).bind fun t136 => (if t136 = true then ((spec_l03Digits.f k ((rd_T33 l0 0).f1)).bind fun t137 => (some t137)) else (some false))) else (some false))) else (some false)) else (none)) = some r := h
 clear h
 by_cases c2 : 0 < (l0.length : Int)
 ·
  rw [if_pos c2] at H
  have c2b0 := decide_eq_true c2
  have c2b1 : decide (0 < l0.length) = true := decide_eq_true (by omega)
  clear c2
  by_cases c3 : (((rd_T33 l0 0).f0).length : Int) ≤ 16
  ·
   rw [if_pos c3] at H
   have c3b0 := decide_eq_true c3
   have c3b1 : decide (((rd_T33 l0 0).f0).length ≤ 16) = true := decide_eq_true (by omega)
   clear c3
   replace H := Option.bind_eq_some_iff.mp H
   obtain ⟨t135, A40, H⟩ := H
   try dsimp only at H
   have A4 := A_ A40
   clear A40
   by_cases c5 : t135 = true
   ·
    subst c5
    have H1 := H; rw [if_pos rfl] at H1
    clear H
    have H := H1
    clear H1
    replace H := Option.bind_eq_some_iff.mp H
    obtain ⟨t136, A60, H⟩ := H
    try dsimp only at H
    have A6 := A_ A60
    clear A60
    by_cases c7 : t136 = true
    ·
     subst c7
     have H1 := H; rw [if_pos rfl] at H1
     clear H
     have H := H1
     clear H1
     replace H := Option.bind_eq_some_iff.mp H
     obtain ⟨t137, A80, H⟩ := H
     try dsimp only at H
     have A8 := A_ A80
     clear A80
     obtain rfl := Option.some.inj H
     have q134 : 0 < (l0.length : Int) := of_decide_eq_true (by assumption)
     obtain ⟨ad134, A134_0, c134_0, A134_1, c134_1, e134, hx134_0, hx134_1, hl134_0, hi134_0, hl134_1, hi134_1⟩ := rp_T33 HR0.out q134
     cases e134
     have HR134_0 := A_ hi134_0
     have HC134_0 := A_ hl134_0
     clear hi134_0 hl134_0
     have HR134_1 := A_ hi134_1
     have HC134_1 := A_ hl134_1
     clear hi134_1 hl134_1
     go_enter Try.func54, Try.ntmps54
     go_wp2_with (first | (go_at_call 71; (with_reducible refine (spec_l00In.calls (((rd_T33 l0 0).f1).length : Int) 1 14 true _ A4.out).mono ?_); rintro e w' ⟨rfl, ⟨nd, rfl⟩⟩) | (go_at_call 63; (with_reducible refine (spec_l03Digits.calls k _ _ ((rd_T33 l0 0).f0) true _ ?side1 ?side2 A6.out).mono ?_); (case side1 => repeat (first | exact HR134_0.out | (with_reducible refine Kd.C_alloc ?_ _) | (with_reducible refine Kd.C_drewN ?_ _) | (with_reducible refine Kd.C_drew ?_))); (case side2 => exact HC134_0.out); rintro e w' ⟨rfl, ⟨nd, rfl⟩⟩) | (go_at_call 63; (with_reducible refine (spec_l03Digits.calls k _ _ ((rd_T33 l0 0).f1) t137 _ ?side1 ?side2 A8.out).mono ?_); (case side1 => repeat (first | exact HR134_1.out | (with_reducible refine Kd.C_alloc ?_ _) | (with_reducible refine Kd.C_drewN ?_ _) | (with_reducible refine Kd.C_drew ?_))); (case side2 => exact HC134_1.out); rintro e w' ⟨rfl, ⟨nd, rfl⟩⟩))
     go_ret
     exact ⟨z2_10_, z2_11_⟩
    ·
     replace c7 := Bool.eq_false_iff.mpr c7
     subst c7
     have H1 := H; rw [if_neg (show ¬ (false = true) by decide)] at H1
     clear H
     have H := H1
     clear H1
     obtain rfl := Option.some.inj H
     have q134 : 0 < (l0.length : Int) := of_decide_eq_true (by assumption)
     obtain ⟨ad134, A134_0, c134_0, A134_1, c134_1, e134, hx134_0, hx134_1, hl134_0, hi134_0, hl134_1, hi134_1⟩ := rp_T33 HR0.out q134
     cases e134
     have HR134_0 := A_ hi134_0
     have HC134_0 := A_ hl134_0
     clear hi134_0 hl134_0
     have HR134_1 := A_ hi134_1
     have HC134_1 := A_ hl134_1
     clear hi134_1 hl134_1
     go_enter Try.func54, Try.ntmps54
     go_wp2_with (first | (go_at_call 71; (with_reducible refine (spec_l00In.calls (((rd_T33 l0 0).f1).length : Int) 1 14 true _ A4.out).mono ?_); rintro e w' ⟨rfl, ⟨nd, rfl⟩⟩) | (go_at_call 63; (with_reducible refine (spec_l03Digits.calls k _ _ ((rd_T33 l0 0).f0) false _ ?side1 ?side2 A6.out).mono ?_); (case side1 => repeat (first | exact HR134_0.out | (with_reducible refine Kd.C_alloc ?_ _) | (with_reducible refine Kd.C_drewN ?_ _) | (with_reducible refine Kd.C_drew ?_))); (case side2 => exact HC134_0.out); rintro e w' ⟨rfl, ⟨nd, rfl⟩⟩))
     go_ret
     exact ⟨z2_10_, z2_11_⟩
   ·
    replace c5 := Bool.eq_false_iff.mpr c5
    subst c5
    have H1 := H; rw [if_neg (show ¬ (false = true) by decide)] at H1
    clear H
    have H := H1
    clear H1
    obtain rfl := Option.some.inj H
    have q134 : 0 < (l0.length : Int) := of_decide_eq_true (by assumption)
    obtain ⟨ad134, A134_0, c134_0, A134_1, c134_1, e134, hx134_0, hx134_1, hl134_0, hi134_0, hl134_1, hi134_1⟩ := rp_T33 HR0.out q134
    cases e134
    have HR134_0 := A_ hi134_0
    have HC134_0 := A_ hl134_0
    clear hi134_0 hl134_0
    have HR134_1 := A_ hi134_1
    have HC134_1 := A_ hl134_1
    clear hi134_1 hl134_1
    go_enter Try.func54, Try.ntmps54
    go_wp2_with (first | (go_at_call 71; (with_reducible refine (spec_l00In.calls (((rd_T33 l0 0).f1).length : Int) 1 14 false _ A4.out).mono ?_); rintro e w' ⟨rfl, ⟨nd, rfl⟩⟩))
    go_ret
    exact ⟨z2_10_, z2_11_⟩
  ·
   rw [if_neg c3] at H
   have c3b0 := decide_eq_false c3
   have c3b1 : decide (((rd_T33 l0 0).f0).length ≤ 16) = false := decide_eq_false (by omega)
   clear c3
   obtain rfl := Option.some.inj H
   have q134 : 0 < (l0.length : Int) := of_decide_eq_true (by assumption)
   obtain ⟨ad134, A134_0, c134_0, A134_1, c134_1, e134, hx134_0, hx134_1, hl134_0, hi134_0, hl134_1, hi134_1⟩ := rp_T33 HR0.out q134
   cases e134
   have HR134_0 := A_ hi134_0
   have HC134_0 := A_ hl134_0
   clear hi134_0 hl134_0
   have HR134_1 := A_ hi134_1
   have HC134_1 := A_ hl134_1
   clear hi134_1 hl134_1
   go_enter Try.func54, Try.ntmps54
   go_wp2
   go_ret
   exact ⟨z2_10_, z2_11_⟩
 ·
  rw [if_neg c2] at H
  exact absurd H (by simp)
/-! ### spec_l03Fits: function 69 -/
def spec_l03Fits.f (l0 : List (S31)) (a1 : Int) : Option (Bool) := if 0 < (l0.length : Int) then ((spec_l00In.f ((rd_T31 l0 0).f0) (wrap64 (-a1)) a1).bind fun t139 => (if t139 = true then ((spec_l00In.f ((rd_T31 l0 0).f1) (wrap64 (-a1)) a1).bind fun t140 => (if t140 = true then ((spec_l00In.f ((rd_T31 l0 0).f2) (wrap64 (-a1)) a1).bind fun t141 => (if t141 = true then ((spec_l00In.f ((rd_T31 l0 0).f3) (wrap64 (-a1)) a1).bind fun t142 => (some t142)) else (some false))) else (some false))) else (some false))) else (none)
set_option maxHeartbeats 8000000 in
set_option maxRecDepth 100000 in
theorem spec_l03Fits.calls (A0 : Option Addr) (c0 : Nat) (l0 : List (S31)) (a1 : Int) (r : Bool) (w : World) (hr0 : Kd.C k31 w A0 l0.length l0) (hc0 : l0.length ≤ c0) (h : spec_l03Fits.f l0 a1 = some r) :
  Calls Try.prog 69 #[.pointer A0, .int .i64 a1] w fun e w' => e = .returned (.bool r) ∧ Drawn0 w w' := by
 have HR0 := A_ hr0
 have HC0 := A_ hc0
 clear hr0 hc0
 have H : (if 0 < (l0.length : Int) then ((spec_l00In.f ((rd_T31 l0 0).f0) (wrap64 (-a1)) a1).bind fun t139 => (if t139 = true then ((spec_l00In.f ((rd_T31 l0 0).f1) (wrap64 (-a1)) a1).bind fun t140 => (if t140 = true then ((spec_l00In.f ((rd_T31 l0 0).f2) (wrap64 (-a1)) a1).bind fun t141 => (if t141 = true then ((spec_l00In.f ((rd_T31 l0 0).f3) (wrap64 (-a1)) a1).bind fun t142 => (some t142)) else (some false))) else (some false))) else (some false))) else (none)) = some r := h
 clear h
 by_cases c3 : 0 < (l0.length : Int)
 ·
  rw [if_pos c3] at H
  have c3b0 := decide_eq_true c3
  have c3b1 : decide (0 < l0.length) = true := decide_eq_true (by omega)
  clear c3
  replace H := Option.bind_eq_some_iff.mp H
  obtain ⟨t139, A40, H⟩ := H
  try dsimp only at H
  have A4 := A_ A40
  clear A40
  by_cases c5 : t139 = true
  ·
   subst c5
   have H1 := H; rw [if_pos rfl] at H1
   clear H
   have H := H1
   clear H1
   replace H := Option.bind_eq_some_iff.mp H
   obtain ⟨t140, A60, H⟩ := H
   try dsimp only at H
   have A6 := A_ A60
   clear A60
   by_cases c7 : t140 = true
   ·
    subst c7
    have H1 := H; rw [if_pos rfl] at H1
    clear H
    have H := H1
    clear H1
    replace H := Option.bind_eq_some_iff.mp H
    obtain ⟨t141, A80, H⟩ := H
    try dsimp only at H
    have A8 := A_ A80
    clear A80
    by_cases c9 : t141 = true
    ·
     subst c9
     have H1 := H; rw [if_pos rfl] at H1
     clear H
     have H := H1
     clear H1
     replace H := Option.bind_eq_some_iff.mp H
     obtain ⟨t142, A100, H⟩ := H
     try dsimp only at H
     have A10 := A_ A100
     clear A100
     obtain rfl := Option.some.inj H
     have q138 : 0 < (l0.length : Int) := of_decide_eq_true (by assumption)
     obtain ⟨ad138, e138, hx138_0, hx138_1, hx138_2, hx138_3⟩ := rp_T31 HR0.out q138
     cases e138
     go_enter Try.func69, Try.ntmps69
     go_wp2_with (first | ((with_reducible refine gate_callee (f := 71) rfl ?_); refine goesL_ (some 12) rfl rfl Try.func71 (by kernel_rfl) rfl #[.int .i64 ((rd_T31 l0 0).f0), .int .i64 (wrap64 (-a1)), .int .i64 a1] rfl z2_7_ ?_; (with_reducible refine (spec_l00In.calls ((rd_T31 l0 0).f0) (wrap64 (-a1)) a1 true _ A4.out).mono ?_); rintro e w' ⟨rfl, ⟨nd, rfl⟩⟩; refine ⟨_, rfl, ?_⟩) | (go_at_call 71; (with_reducible refine (spec_l00In.calls ((rd_T31 l0 0).f1) (wrap64 (-a1)) a1 true _ A6.out).mono ?_); rintro e w' ⟨rfl, ⟨nd, rfl⟩⟩) | (go_at_call 71; (with_reducible refine (spec_l00In.calls ((rd_T31 l0 0).f2) (wrap64 (-a1)) a1 true _ A8.out).mono ?_); rintro e w' ⟨rfl, ⟨nd, rfl⟩⟩) | (go_at_call 71; (with_reducible refine (spec_l00In.calls ((rd_T31 l0 0).f3) (wrap64 (-a1)) a1 t142 _ A10.out).mono ?_); rintro e w' ⟨rfl, ⟨nd, rfl⟩⟩))
     go_ret
     exact ⟨z2_10_, z2_11_⟩
    ·
     replace c9 := Bool.eq_false_iff.mpr c9
     subst c9
     have H1 := H; rw [if_neg (show ¬ (false = true) by decide)] at H1
     clear H
     have H := H1
     clear H1
     obtain rfl := Option.some.inj H
     have q138 : 0 < (l0.length : Int) := of_decide_eq_true (by assumption)
     obtain ⟨ad138, e138, hx138_0, hx138_1, hx138_2, hx138_3⟩ := rp_T31 HR0.out q138
     cases e138
     go_enter Try.func69, Try.ntmps69
     go_wp2_with (first | ((with_reducible refine gate_callee (f := 71) rfl ?_); refine goesL_ (some 12) rfl rfl Try.func71 (by kernel_rfl) rfl #[.int .i64 ((rd_T31 l0 0).f0), .int .i64 (wrap64 (-a1)), .int .i64 a1] rfl z2_7_ ?_; (with_reducible refine (spec_l00In.calls ((rd_T31 l0 0).f0) (wrap64 (-a1)) a1 true _ A4.out).mono ?_); rintro e w' ⟨rfl, ⟨nd, rfl⟩⟩; refine ⟨_, rfl, ?_⟩) | (go_at_call 71; (with_reducible refine (spec_l00In.calls ((rd_T31 l0 0).f1) (wrap64 (-a1)) a1 true _ A6.out).mono ?_); rintro e w' ⟨rfl, ⟨nd, rfl⟩⟩) | (go_at_call 71; (with_reducible refine (spec_l00In.calls ((rd_T31 l0 0).f2) (wrap64 (-a1)) a1 false _ A8.out).mono ?_); rintro e w' ⟨rfl, ⟨nd, rfl⟩⟩))
     go_ret
     exact ⟨z2_10_, z2_11_⟩
   ·
    replace c7 := Bool.eq_false_iff.mpr c7
    subst c7
    have H1 := H; rw [if_neg (show ¬ (false = true) by decide)] at H1
    clear H
    have H := H1
    clear H1
    obtain rfl := Option.some.inj H
    have q138 : 0 < (l0.length : Int) := of_decide_eq_true (by assumption)
    obtain ⟨ad138, e138, hx138_0, hx138_1, hx138_2, hx138_3⟩ := rp_T31 HR0.out q138
    cases e138
    go_enter Try.func69, Try.ntmps69
    go_wp2_with (first | ((with_reducible refine gate_callee (f := 71) rfl ?_); refine goesL_ (some 12) rfl rfl Try.func71 (by kernel_rfl) rfl #[.int .i64 ((rd_T31 l0 0).f0), .int .i64 (wrap64 (-a1)), .int .i64 a1] rfl z2_7_ ?_; (with_reducible refine (spec_l00In.calls ((rd_T31 l0 0).f0) (wrap64 (-a1)) a1 true _ A4.out).mono ?_); rintro e w' ⟨rfl, ⟨nd, rfl⟩⟩; refine ⟨_, rfl, ?_⟩) | (go_at_call 71; (with_reducible refine (spec_l00In.calls ((rd_T31 l0 0).f1) (wrap64 (-a1)) a1 false _ A6.out).mono ?_); rintro e w' ⟨rfl, ⟨nd, rfl⟩⟩))
    go_ret
    exact ⟨z2_10_, z2_11_⟩
  ·
   replace c5 := Bool.eq_false_iff.mpr c5
   subst c5
   have H1 := H; rw [if_neg (show ¬ (false = true) by decide)] at H1
   clear H
   have H := H1
   clear H1
   obtain rfl := Option.some.inj H
   have q138 : 0 < (l0.length : Int) := of_decide_eq_true (by assumption)
   obtain ⟨ad138, e138, hx138_0, hx138_1, hx138_2, hx138_3⟩ := rp_T31 HR0.out q138
   cases e138
   go_enter Try.func69, Try.ntmps69
   go_wp2_with (first | ((with_reducible refine gate_callee (f := 71) rfl ?_); refine goesL_ (some 12) rfl rfl Try.func71 (by kernel_rfl) rfl #[.int .i64 ((rd_T31 l0 0).f0), .int .i64 (wrap64 (-a1)), .int .i64 a1] rfl z2_7_ ?_; (with_reducible refine (spec_l00In.calls ((rd_T31 l0 0).f0) (wrap64 (-a1)) a1 false _ A4.out).mono ?_); rintro e w' ⟨rfl, ⟨nd, rfl⟩⟩; refine ⟨_, rfl, ?_⟩))
   go_ret
   exact ⟨z2_10_, z2_11_⟩
 ·
  rw [if_neg c3] at H
  exact absurd H (by simp)
/-! ### spec_l03Machine: function 58 -/
def spec_l03Machine.f (l0 : List (S31)) : Option (Bool) := (spec_l03Fits.f l0 1000000).bind fun t143 => (if t143 = true then (if 0 < (l0.length : Int) then ((spec_l03Size.f ((rd_T31 l0 0).f2)).bind fun t145 => (some (decide (((rd_T31 l0 0).f3) > t145)))) else (none)) else (some false))
set_option maxHeartbeats 8000000 in
set_option maxRecDepth 100000 in
theorem spec_l03Machine.calls (A0 : Option Addr) (c0 : Nat) (l0 : List (S31)) (r : Bool) (w : World) (hr0 : Kd.C k31 w A0 l0.length l0) (hc0 : l0.length ≤ c0) (h : spec_l03Machine.f l0 = some r) :
  Calls Try.prog 58 #[.pointer A0] w fun e w' => e = .returned (.bool r) ∧ Drawn0 w w' := by
 have HR0 := A_ hr0
 have HC0 := A_ hc0
 clear hr0 hc0
 have H : ((spec_l03Fits.f l0 1000000).bind fun t143 => (if t143 = true then (if 0 < (l0.length : Int) then ((spec_l03Size.f ((rd_T31 l0 0).f2)).bind fun t145 => (some (decide (((rd_T31 l0 0).f3) > t145)))) else (none)) else (some false))) = some r := h
 clear h
 replace H := Option.bind_eq_some_iff.mp H
 obtain ⟨t143, A20, H⟩ := H
 try dsimp only at H
 have A2 := A_ A20
 clear A20
 by_cases c3 : t143 = true
 ·
  subst c3
  have H1 := H; rw [if_pos rfl] at H1
  clear H
  have H := H1
  clear H1
  by_cases c4 : 0 < (l0.length : Int)
  ·
   rw [if_pos c4] at H
   have c4b0 := decide_eq_true c4
   have c4b1 : decide (0 < l0.length) = true := decide_eq_true (by omega)
   clear c4
   replace H := Option.bind_eq_some_iff.mp H
   obtain ⟨t145, A50, H⟩ := H
   try dsimp only at H
   have A5 := A_ A50
   clear A50
   obtain rfl := Option.some.inj H
   go_enter Try.func58, Try.ntmps58
   go_wp2_with (first | (go_at_call 69; (with_reducible refine (spec_l03Fits.calls _ (l0).length l0 1000000 true _ ?side1 ?side2 A2.out).mono ?_); (case side1 => repeat (first | exact HR0.out | (with_reducible refine Kd.C_alloc ?_ _) | (with_reducible refine Kd.C_drewN ?_ _) | (with_reducible refine Kd.C_drew ?_))); (case side2 => exact Nat.le_refl _); rintro e w' ⟨rfl, ⟨nd, rfl⟩⟩; (try first | exact ⟨rfl, _, World.drewN_drewN _ _ _⟩ | exact ⟨rfl, _, Eq.trans (World.drewN_drewN _ _ _) (congrArg (World.drewN _) (Nat.add_assoc _ _ _))⟩); have q144 : 0 < (l0.length : Int) := of_decide_eq_true (by assumption); obtain ⟨ad144, e144, hx144_0, hx144_1, hx144_2, hx144_3⟩ := rp_T31 HR0.out q144; cases e144) | (go_at_call 48; (with_reducible refine (spec_l03Size.calls ((rd_T31 l0 0).f2) t145 _ A5.out).mono ?_); rintro e w' ⟨rfl, ⟨nd, rfl⟩⟩; (try first | exact ⟨rfl, _, World.drewN_drewN _ _ _⟩ | exact ⟨rfl, _, Eq.trans (World.drewN_drewN _ _ _) (congrArg (World.drewN _) (Nat.add_assoc _ _ _))⟩)))
   repeat (go_quiet (first | (go_at_call 69; (with_reducible refine (spec_l03Fits.calls _ (l0).length l0 1000000 true _ ?side1 ?side2 A2.out).mono ?_); (case side1 => repeat (first | exact HR0.out | (with_reducible refine Kd.C_alloc ?_ _) | (with_reducible refine Kd.C_drewN ?_ _) | (with_reducible refine Kd.C_drew ?_))); (case side2 => exact Nat.le_refl _); rintro e w' ⟨rfl, ⟨nd, rfl⟩⟩; (try first | exact ⟨rfl, _, World.drewN_drewN _ _ _⟩ | exact ⟨rfl, _, Eq.trans (World.drewN_drewN _ _ _) (congrArg (World.drewN _) (Nat.add_assoc _ _ _))⟩); have q144 : 0 < (l0.length : Int) := of_decide_eq_true (by assumption); obtain ⟨ad144, e144, hx144_0, hx144_1, hx144_2, hx144_3⟩ := rp_T31 HR0.out q144; cases e144) | (go_at_call 48; (with_reducible refine (spec_l03Size.calls ((rd_T31 l0 0).f2) t145 _ A5.out).mono ?_); rintro e w' ⟨rfl, ⟨nd, rfl⟩⟩; (try first | exact ⟨rfl, _, World.drewN_drewN _ _ _⟩ | exact ⟨rfl, _, Eq.trans (World.drewN_drewN _ _ _) (congrArg (World.drewN _) (Nat.add_assoc _ _ _))⟩))); try go_wp2_with (first | (go_at_call 69; (with_reducible refine (spec_l03Fits.calls _ (l0).length l0 1000000 true _ ?side1 ?side2 A2.out).mono ?_); (case side1 => repeat (first | exact HR0.out | (with_reducible refine Kd.C_alloc ?_ _) | (with_reducible refine Kd.C_drewN ?_ _) | (with_reducible refine Kd.C_drew ?_))); (case side2 => exact Nat.le_refl _); rintro e w' ⟨rfl, ⟨nd, rfl⟩⟩; (try first | exact ⟨rfl, _, World.drewN_drewN _ _ _⟩ | exact ⟨rfl, _, Eq.trans (World.drewN_drewN _ _ _) (congrArg (World.drewN _) (Nat.add_assoc _ _ _))⟩); have q144 : 0 < (l0.length : Int) := of_decide_eq_true (by assumption); obtain ⟨ad144, e144, hx144_0, hx144_1, hx144_2, hx144_3⟩ := rp_T31 HR0.out q144; cases e144) | (go_at_call 48; (with_reducible refine (spec_l03Size.calls ((rd_T31 l0 0).f2) t145 _ A5.out).mono ?_); rintro e w' ⟨rfl, ⟨nd, rfl⟩⟩; (try first | exact ⟨rfl, _, World.drewN_drewN _ _ _⟩ | exact ⟨rfl, _, Eq.trans (World.drewN_drewN _ _ _) (congrArg (World.drewN _) (Nat.add_assoc _ _ _))⟩))))
   go_ret
   exact ⟨z2_10_, z2_11_⟩
  ·
   rw [if_neg c4] at H
   exact absurd H (by simp)
 ·
  replace c3 := Bool.eq_false_iff.mpr c3
  subst c3
  have H1 := H; rw [if_neg (show ¬ (false = true) by decide)] at H1
  clear H
  have H := H1
  clear H1
  obtain rfl := Option.some.inj H
  go_enter Try.func58, Try.ntmps58
  go_wp2_with (first | (go_at_call 69; (with_reducible refine (spec_l03Fits.calls _ (l0).length l0 1000000 false _ ?side1 ?side2 A2.out).mono ?_); (case side1 => repeat (first | exact HR0.out | (with_reducible refine Kd.C_alloc ?_ _) | (with_reducible refine Kd.C_drewN ?_ _) | (with_reducible refine Kd.C_drew ?_))); (case side2 => exact Nat.le_refl _); rintro e w' ⟨rfl, ⟨nd, rfl⟩⟩; (try first | exact ⟨rfl, _, World.drewN_drewN _ _ _⟩ | exact ⟨rfl, _, Eq.trans (World.drewN_drewN _ _ _) (congrArg (World.drewN _) (Nat.add_assoc _ _ _))⟩)))
  repeat (go_quiet (first | (go_at_call 69; (with_reducible refine (spec_l03Fits.calls _ (l0).length l0 1000000 false _ ?side1 ?side2 A2.out).mono ?_); (case side1 => repeat (first | exact HR0.out | (with_reducible refine Kd.C_alloc ?_ _) | (with_reducible refine Kd.C_drewN ?_ _) | (with_reducible refine Kd.C_drew ?_))); (case side2 => exact Nat.le_refl _); rintro e w' ⟨rfl, ⟨nd, rfl⟩⟩; (try first | exact ⟨rfl, _, World.drewN_drewN _ _ _⟩ | exact ⟨rfl, _, Eq.trans (World.drewN_drewN _ _ _) (congrArg (World.drewN _) (Nat.add_assoc _ _ _))⟩))); try go_wp2_with (first | (go_at_call 69; (with_reducible refine (spec_l03Fits.calls _ (l0).length l0 1000000 false _ ?side1 ?side2 A2.out).mono ?_); (case side1 => repeat (first | exact HR0.out | (with_reducible refine Kd.C_alloc ?_ _) | (with_reducible refine Kd.C_drewN ?_ _) | (with_reducible refine Kd.C_drew ?_))); (case side2 => exact Nat.le_refl _); rintro e w' ⟨rfl, ⟨nd, rfl⟩⟩; (try first | exact ⟨rfl, _, World.drewN_drewN _ _ _⟩ | exact ⟨rfl, _, Eq.trans (World.drewN_drewN _ _ _) (congrArg (World.drewN _) (Nat.add_assoc _ _ _))⟩))))
  go_ret
  exact ⟨z2_10_, z2_11_⟩
end Go.Proofs.Ytififhihgkbafaa.PM

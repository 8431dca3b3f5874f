import Derived.Test.YtpfnohdnaocpdaaPTx0
namespace Go.Proofs.Ytpfnohdnaocpdaa.PT
open Go.RowKit Go.Proofs.YtpfnohdnaocpdaaW.PrintWords Go.Proofs.YtpfnohdnaocpdaaW.PrintLast Go.Proofs.YtpfnohdnaocpdaaW.PrintMore Go.Proofs.YtpfnohdnaocpdaaRP
attribute [local go_sem] max2_int min2_int max_two min_two max_three min_three max_four min_four Go.Proofs.YtpfnohdnaocpdaaRP.max_eight Go.Proofs.YtpfnohdnaocpdaaRP.tmod_len   -- for this text's walks alone
set_option linter.unusedVariables false
set_option linter.unusedSimpArgs false
theorem z3_1_ {P : Prop} (h : P := by (with_reducible repeat (first | refine blk_drewN ?_ _ | refine blk_drew ?_ | refine blk_alloc ?_ _)); refine blk_put (cs := #[.int .i16 x160000_1, .int .i16 x161001_1]) ?_ 1 _ rfl; (with_reducible repeat (first | refine blk_drewN ?_ _ | refine blk_drew ?_ | refine blk_alloc ?_ _)); refine blk_put (cs := #[.int .i16 x161000_1, .int .i16 x161001_1]) ?_ 0 _ rfl; (with_reducible repeat (first | refine blk_drewN ?_ _ | refine blk_drew ?_ | refine blk_alloc ?_ _)); exact BK160.out) : P := h
theorem z3_2_ {P : Prop} (h : P := by repeat (first | (with_reducible first | exact HB.out | apply below_alloc | apply pw_below_drewN | apply below_drew1 | refine below_set ?_ GE159.out | refine below_set ?_ GE160.out) | exact HB.out)) : P := h
theorem z3_3_ {P : Prop} (h : P := by first | exact Nat.ne_of_lt (Nat.lt_of_lt_of_le (by have := World.block_lt_of_cell? _ _ hw172_4; first | rwa [add_block] at this | exact this) GW159.out) | (rw [add_block]; exact Nat.ne_of_lt (Nat.lt_of_lt_of_le (by have := World.block_lt_of_cell? _ _ hw172_4; first | rwa [add_block] at this | exact this) GW159.out)) | (show (Addr.add _ _).block ≠ _; rw [add_block]; exact Nat.ne_of_lt (Nat.lt_of_lt_of_le (by have := World.block_lt_of_cell? _ _ hw172_4; first | rwa [add_block] at this | exact this) GW159.out)) | (dsimp only; exact Nat.ne_of_lt (Nat.lt_of_lt_of_le (by have := World.block_lt_of_cell? _ _ hw172_4; first | rwa [add_block] at this | exact this) GW159.out))) : P := h
theorem z3_4_ {P : Prop} (h : P := by first | exact Nat.ne_of_lt (Nat.lt_of_lt_of_le (by have := World.block_lt_of_cell? _ _ hw172_3; first | rwa [add_block] at this | exact this) GW159.out) | (rw [add_block]; exact Nat.ne_of_lt (Nat.lt_of_lt_of_le (by have := World.block_lt_of_cell? _ _ hw172_3; first | rwa [add_block] at this | exact this) GW159.out)) | (show (Addr.add _ _).block ≠ _; rw [add_block]; exact Nat.ne_of_lt (Nat.lt_of_lt_of_le (by have := World.block_lt_of_cell? _ _ hw172_3; first | rwa [add_block] at this | exact this) GW159.out)) | (dsimp only; exact Nat.ne_of_lt (Nat.lt_of_lt_of_le (by have := World.block_lt_of_cell? _ _ hw172_3; first | rwa [add_block] at this | exact this) GW159.out))) : P := h
theorem z3_5_ {P : Prop} (h : P := by first | exact Nat.ne_of_lt (Nat.lt_of_lt_of_le (by have := World.block_lt_of_cell? _ _ hw172_2; first | rwa [add_block] at this | exact this) GW159.out) | (rw [add_block]; exact Nat.ne_of_lt (Nat.lt_of_lt_of_le (by have := World.block_lt_of_cell? _ _ hw172_2; first | rwa [add_block] at this | exact this) GW159.out)) | (show (Addr.add _ _).block ≠ _; rw [add_block]; exact Nat.ne_of_lt (Nat.lt_of_lt_of_le (by have := World.block_lt_of_cell? _ _ hw172_2; first | rwa [add_block] at this | exact this) GW159.out)) | (dsimp only; exact Nat.ne_of_lt (Nat.lt_of_lt_of_le (by have := World.block_lt_of_cell? _ _ hw172_2; first | rwa [add_block] at this | exact this) GW159.out))) : P := h
theorem z3_6_ {P : Prop} (h : P := by first | exact Nat.ne_of_lt (Nat.lt_of_lt_of_le (by have := World.block_lt_of_cell? _ _ hw172_1; first | rwa [add_block] at this | exact this) GW159.out) | (rw [add_block]; exact Nat.ne_of_lt (Nat.lt_of_lt_of_le (by have := World.block_lt_of_cell? _ _ hw172_1; first | rwa [add_block] at this | exact this) GW159.out)) | (show (Addr.add _ _).block ≠ _; rw [add_block]; exact Nat.ne_of_lt (Nat.lt_of_lt_of_le (by have := World.block_lt_of_cell? _ _ hw172_1; first | rwa [add_block] at this | exact this) GW159.out)) | (dsimp only; exact Nat.ne_of_lt (Nat.lt_of_lt_of_le (by have := World.block_lt_of_cell? _ _ hw172_1; first | rwa [add_block] at this | exact this) GW159.out))) : P := h
theorem z3_7_ {P : Prop} (h : P := by first | exact Nat.ne_of_lt (Nat.lt_of_lt_of_le (by have := World.block_lt_of_cell? _ _ hw172_0; first | rwa [add_block] at this | exact this) GW159.out) | (rw [add_block]; exact Nat.ne_of_lt (Nat.lt_of_lt_of_le (by have := World.block_lt_of_cell? _ _ hw172_0; first | rwa [add_block] at this | exact this) GW159.out)) | (show (Addr.add _ _).block ≠ _; rw [add_block]; exact Nat.ne_of_lt (Nat.lt_of_lt_of_le (by have := World.block_lt_of_cell? _ _ hw172_0; first | rwa [add_block] at this | exact this) GW159.out)) | (dsimp only; exact Nat.ne_of_lt (Nat.lt_of_lt_of_le (by have := World.block_lt_of_cell? _ _ hw172_0; first | rwa [add_block] at this | exact this) GW159.out))) : P := h
theorem z3_8_ {P : Prop} (h : P := by first | exact Nat.ne_of_lt (Nat.lt_of_lt_of_le (by have := World.block_lt_of_cell? _ _ hw171_4; first | rwa [add_block] at this | exact this) GW159.out) | (rw [add_block]; exact Nat.ne_of_lt (Nat.lt_of_lt_of_le (by have := World.block_lt_of_cell? _ _ hw171_4; first | rwa [add_block] at this | exact this) GW159.out)) | (show (Addr.add _ _).block ≠ _; rw [add_block]; exact Nat.ne_of_lt (Nat.lt_of_lt_of_le (by have := World.block_lt_of_cell? _ _ hw171_4; first | rwa [add_block] at this | exact this) GW159.out)) | (dsimp only; exact Nat.ne_of_lt (Nat.lt_of_lt_of_le (by have := World.block_lt_of_cell? _ _ hw171_4; first | rwa [add_block] at this | exact this) GW159.out))) : P := h
theorem z3_9_ {P : Prop} (h : P := by first | exact Nat.ne_of_lt (Nat.lt_of_lt_of_le (by have := World.block_lt_of_cell? _ _ hw171_3; first | rwa [add_block] at this | exact this) GW159.out) | (rw [add_block]; exact Nat.ne_of_lt (Nat.lt_of_lt_of_le (by have := World.block_lt_of_cell? _ _ hw171_3; first | rwa [add_block] at this | exact this) GW159.out)) | (show (Addr.add _ _).block ≠ _; rw [add_block]; exact Nat.ne_of_lt (Nat.lt_of_lt_of_le (by have := World.block_lt_of_cell? _ _ hw171_3; first | rwa [add_block] at this | exact this) GW159.out)) | (dsimp only; exact Nat.ne_of_lt (Nat.lt_of_lt_of_le (by have := World.block_lt_of_cell? _ _ hw171_3; first | rwa [add_block] at this | exact this) GW159.out))) : P := h
theorem z3_10_ {P : Prop} (h : P := by first | exact Nat.ne_of_lt (Nat.lt_of_lt_of_le (by have := World.block_lt_of_cell? _ _ hw171_2; first | rwa [add_block] at this | exact this) GW159.out) | (rw [add_block]; exact Nat.ne_of_lt (Nat.lt_of_lt_of_le (by have := World.block_lt_of_cell? _ _ hw171_2; first | rwa [add_block] at this | exact this) GW159.out)) | (show (Addr.add _ _).block ≠ _; rw [add_block]; exact Nat.ne_of_lt (Nat.lt_of_lt_of_le (by have := World.block_lt_of_cell? _ _ hw171_2; first | rwa [add_block] at this | exact this) GW159.out)) | (dsimp only; exact Nat.ne_of_lt (Nat.lt_of_lt_of_le (by have := World.block_lt_of_cell? _ _ hw171_2; first | rwa [add_block] at this | exact this) GW159.out))) : P := h
theorem z3_11_ {P : Prop} (h : P := by first | exact Nat.ne_of_lt (Nat.lt_of_lt_of_le (by have := World.block_lt_of_cell? _ _ hw171_1; first | rwa [add_block] at this | exact this) GW159.out) | (rw [add_block]; exact Nat.ne_of_lt (Nat.lt_of_lt_of_le (by have := World.block_lt_of_cell? _ _ hw171_1; first | rwa [add_block] at this | exact this) GW159.out)) | (show (Addr.add _ _).block ≠ _; rw [add_block]; exact Nat.ne_of_lt (Nat.lt_of_lt_of_le (by have := World.block_lt_of_cell? _ _ hw171_1; first | rwa [add_block] at this | exact this) GW159.out)) | (dsimp only; exact Nat.ne_of_lt (Nat.lt_of_lt_of_le (by have := World.block_lt_of_cell? _ _ hw171_1; first | rwa [add_block] at this | exact this) GW159.out))) : P := h
theorem z3_12_ {P : Prop} (h : P := by first | exact Nat.ne_of_lt (Nat.lt_of_lt_of_le (by have := World.block_lt_of_cell? _ _ hw171_0; first | rwa [add_block] at this | exact this) GW159.out) | (rw [add_block]; exact Nat.ne_of_lt (Nat.lt_of_lt_of_le (by have := World.block_lt_of_cell? _ _ hw171_0; first | rwa [add_block] at this | exact this) GW159.out)) | (show (Addr.add _ _).block ≠ _; rw [add_block]; exact Nat.ne_of_lt (Nat.lt_of_lt_of_le (by have := World.block_lt_of_cell? _ _ hw171_0; first | rwa [add_block] at this | exact this) GW159.out)) | (dsimp only; exact Nat.ne_of_lt (Nat.lt_of_lt_of_le (by have := World.block_lt_of_cell? _ _ hw171_0; first | rwa [add_block] at this | exact this) GW159.out))) : P := h
theorem z3_13_ {P : Prop} (h : P := by (with_reducible repeat (first | refine blk_drewN ?_ _ | refine blk_drew ?_ | refine blk_alloc ?_ _)); exact BK159.out) : P := h
theorem z3_14_ {P : Prop} (h : P := by repeat (first | (with_reducible first | exact HB.out | apply below_alloc | apply pw_below_drewN | apply below_drew1 | refine below_set ?_ GE159.out) | exact HB.out)) : P := h
theorem z3_15_ {P : Prop} (h : P := by repeat (first | (with_reducible first | exact HB.out | apply below_alloc | apply pw_below_drewN | apply below_drew1) | exact HB.out)) : P := h
theorem z3_16_ {P : Prop} (h : P := by first | rfl | (simp [errW_none, errW_some] <;> rfl) | (simp [*, errW_none, errW_some] <;> rfl)) : P := h
/-! ### spec_l06Loud: function 117 -/
def spec_l06Loud.l0 : Nat → List (S34) → List (S34) → Int → Int → Int → Option (Int × Int × Bool)
 | 0, _, _, _, _, _ => none
 | k + 1, x0, x1, x8, x160000, x160001 => if 0 < (x0.length : Int) then (if 0 < (x1.length : Int) then (if x8 ≤ (wrap64 ((((rd_T34 x0 0).f0).length : Int) * (((rd_T34 x1 0).f0).length : Int))) then (if 0 ≤ x160000 then (if x160000 < (((rd_T34 x0 0).f0).length : Int) then (if 0 ≤ x160001 then (if x160001 < (((rd_T34 x1 0).f0).length : Int) then (if 0 < ([rd_T89 ((rd_T34 x0 0).f0) x160000].length : Int) then (if ((rd_T89 ((rd_T34 x0 0).f0) x160000).f0) = 2 then (some (x160000, x160001, true)) else (if 0 < ([rd_T89 ((rd_T34 x1 0).f0) x160001].length : Int) then (if ((rd_T89 ((rd_T34 x1 0).f0) x160001).f0) = 1 then (some (x160000, x160001, true)) else (if 0 ≤ (IntKind.i8.wrap (((rd_T89 ((rd_T34 x1 0).f0) x160001).f1) + 1)) then (if (IntKind.i8.wrap (((rd_T89 ((rd_T34 x1 0).f0) x160001).f1) + 1)) < 3 then (spec_l06Loud.l0 k x0 x1 (wrap64 (x8 + 1)) (rd [(rd_T89 ((rd_T34 x0 0).f0) x160000).f2.f0, (rd_T89 ((rd_T34 x0 0).f0) x160000).f2.f1, (rd_T89 ((rd_T34 x0 0).f0) x160000).f2.f2] (IntKind.i8.wrap (((rd_T89 ((rd_T34 x1 0).f0) x160001).f1) + 1))) ((rd_T89 ((rd_T34 x1 0).f0) x160001).f2.f0)) else (none)) else (none))) else (none))) else (none)) else (none)) else (none)) else (none)) else (none)) else (some (x160000, x160001, false))) else (none)) else (none)
def spec_l06Loud.f (k : Nat) (l0 : List (S34)) (l1 : List (S34)) (a2_0 : Int) (a2_1 : Int) : Option (Int × Int × Bool) := spec_l06Loud.l0 k l0 l1 0 a2_0 a2_1
theorem spec_l06Loud.mono_l : ∀ k, (∀ y0 y1 y2 y3 y4, LeO (spec_l06Loud.l0 k y0 y1 y2 y3 y4) (spec_l06Loud.l0 (k + 1) y0 y1 y2 y3 y4))
 | 0 => fun _ _ _ _ _ r h => by simp [spec_l06Loud.l0] at h
 | k + 1 => by
  have ih0 := spec_l06Loud.mono_l k
  ·
   intro y0 y1 y2 y3 y4
   unfold spec_l06Loud.l0
   repeat' first
   | (with_reducible exact ih0 _ _ _ _ _)
   | (with_reducible exact LeO.refl _)
   | (with_reducible exact LeO.none _)
   | (with_reducible refine LeO.ite ?_ ?_)
   | (with_reducible refine LeO.bind ?_ (fun _ => ?_))
   | exact ih0 _ _ _ _ _
   | exact LeO.none _
   | refine LeO.ite ?_ ?_
   | refine LeO.bind ?_ (fun _ => ?_)
theorem spec_l06Loud.mono : ∀ a0 a1 a2 a3 k, LeO (spec_l06Loud.f k a0 a1 a2 a3) (spec_l06Loud.f (k + 1) a0 a1 a2 a3) := by
 intro a0 a1 a2 a3 k
 have ih0 := spec_l06Loud.mono_l k
 unfold spec_l06Loud.f
 repeat' first
   | (with_reducible exact ih0 _ _ _ _ _)
   | (with_reducible exact LeO.refl _)
   | (with_reducible exact LeO.none _)
   | (with_reducible refine LeO.ite ?_ ?_)
   | (with_reducible refine LeO.bind ?_ (fun _ => ?_))
   | exact ih0 _ _ _ _ _
   | exact LeO.none _
   | refine LeO.ite ?_ ?_
   | refine LeO.bind ?_ (fun _ => ?_)
def spec_l06Loud.T2 : Bool × List (List Nat × List Nat) := (true, [([], []), ([], []), ([1], [1]), ([2], [2]), ([3], [3]), ([4], [4]), ([], []), ([6], [6]), ([7], [7]), ([8], [8]), ([9], [9]), ([5, 10], [5, 10]), ([0, 11], [0, 11])])
def spec_l06Loud.B2 : List Nat := [0, 0, 2, 6, 14, 30, 0, 64, 192, 448, 960, 2046, 4095]
theorem spec_l06Loud.tab2 : rtab .any (opsOf Try.f117 2) = spec_l06Loud.T2 := by kernel_rfl
theorem spec_l06Loud.bits2 : waitsOk spec_l06Loud.T2.2 spec_l06Loud.B2 = true := by kernel_rfl
def spec_l06Loud.T4 : Bool × List (List Nat × List Nat) := (true, [([], []), ([0], [0]), ([1], [1]), ([2], [2]), ([], []), ([4], [4]), ([3, 5], [3, 5]), ([6, 0, 1, 2, 3, 4, 5, 6], [6])])
def spec_l06Loud.B4 : List Nat := [0, 1, 3, 7, 0, 16, 63, 127]
theorem spec_l06Loud.tab4 : rtab .any (opsOf Try.f117 4) = spec_l06Loud.T4 := by kernel_rfl
theorem spec_l06Loud.bits4 : waitsOk spec_l06Loud.T4.2 spec_l06Loud.B4 = true := by kernel_rfl
def spec_l06Loud.T5 : Bool × List (List Nat × List Nat) := (true, [([], []), ([0], [0]), ([1], [1]), ([2], [2]), ([], []), ([4], [4]), ([3, 5], [3, 5]), ([6, 0, 1, 2, 3, 4, 5, 6], [6])])
def spec_l06Loud.B5 : List Nat := [0, 1, 3, 7, 0, 16, 63, 127]
theorem spec_l06Loud.tab5 : rtab .any (opsOf Try.f117 5) = spec_l06Loud.T5 := by kernel_rfl
theorem spec_l06Loud.bits5 : waitsOk spec_l06Loud.T5.2 spec_l06Loud.B5 = true := by kernel_rfl
def spec_l06Loud.T8 : Bool × List (List Nat × List Nat) := (true, [([], []), ([], []), ([1], [1]), ([2], [2]), ([3], [3]), ([4], [4]), ([0], [0]), ([6], [6]), ([7, 5], [5, 7]), ([8], [8]), ([], []), ([10], [10]), ([11], [11]), ([12], [12]), ([13], [13]), ([9, 14], [9, 14]), ([15, 0, 1, 2, 3, 4, 5, 6, 7, 8, 9, 10, 11, 12, 13, 14, 15], [15])])
def spec_l06Loud.B8 : List Nat := [0, 0, 2, 6, 14, 30, 1, 65, 255, 511, 0, 1024, 3072, 7168, 15360, 32767, 65535]
theorem spec_l06Loud.tab8 : rtab .any (opsOf Try.f117 8) = spec_l06Loud.T8 := by kernel_rfl
theorem spec_l06Loud.bits8 : waitsOk spec_l06Loud.T8.2 spec_l06Loud.B8 = true := by kernel_rfl
set_option maxHeartbeats 8000000 in
set_option maxRecDepth 100000 in
theorem spec_l06Loud.calls (k : Nat) (A0 : Option Addr) (c0 : Nat) (l0 : List (S34)) (A1 : Option Addr) (c1 : Nat) (l1 : List (S34)) (a2_0 : Int) (a2_1 : Int) (r1 : Int) (r2 : Int) (r3 : Bool) (w : World) (hr0 : Kd.C k34 w A0 l0.length l0) (hc0 : l0.length ≤ c0) (hr1 : Kd.C k34 w A1 l1.length l1) (hc1 : l1.length ≤ c1) (h : spec_l06Loud.f k l0 l1 a2_0 a2_1 = some (r1, r2, r3)) :
  Calls Try.prog 117 #[.pointer A0, .pointer A1, .agg #[.int .i16 a2_0, .int .i16 a2_1]] w fun e w' => e = .returned (.tuple #[.agg #[.int .i16 r1, .int .i16 r2], .bool r3]) ∧ Below w.heap.size w w' := by
 have hu98 := Try.underlying98
 have HR0 := A_ hr0
 have HC0 := A_ hc0
 clear hr0 hc0
 have HR1 := A_ hr1
 have HC1 := A_ hc1
 clear hr1 hc1
 have HB := A_ (Below.refl w.heap.size w)
 have H : (spec_l06Loud.l0 k l0 l1 0 a2_0 a2_1) = some (r1, r2, r3) := h
 clear h
 have H' := A_ H
 clear H
 go_enter Try.func117, Try.ntmps117
 go_wp2_with (first | ((with_reducible refine gate_dst (N := 5) rfl ?_); refine box_event ?hg (N := 5) ?hd (cs := #[.int .i16 a2_0, .int .i16 a2_1]) (t := 98) ?hr ?_; (case hd => rfl); (case hg => rfl); (case hr => first | (go_simp; done) | (go_simp; rfl)); intro gb159 hg w4 hbox hb; have _ := A_ (below_step z3_15_ hb); have _ := A_ (hbox); have _ := A_ ((by rw [hg]; exact (below_size z3_15_) : w.heap.size ≤ gb159)); have _ := A_ ((by rw [hg]; exact (below_size z3_15_) : w.heap.size ≤ gb159)); clear HB; rename_i HB BK159 GW159 GE159; clear hb hbox hg) | ((with_reducible refine gate_dst (N := 6) rfl ?_); refine box_event ?hg (N := 6) ?hd (cs := #[.int .i16 0, .int .i16 0]) (t := 98) ?hr ?_; (case hd => rfl); (case hg => rfl); (case hr => first | (go_simp; done) | (go_simp; rfl)); intro gb160 hg w5 hbox hb; have _ := A_ (blk_below (g := gb159) (o := .cells #[.int .i16 a2_0, .int .i16 a2_1] 98 (0, 0)) z3_13_ hb); have _ := A_ (below_step z3_14_ hb); have _ := A_ (hbox); have _ := A_ ((by rw [hg]; exact (below_size z3_14_) : w.heap.size ≤ gb160)); have _ := A_ ((by rw [hg]; exact (below_size z3_14_) : w.heap.size ≤ gb160)); have _ := A_ ((by rw [hg]; exact Nat.ne_of_lt (blk_lt (g := gb159) (o := .cells #[.int .i16 a2_0, .int .i16 a2_1] 98 (0, 0)) z3_13_) : gb159 ≠ gb160)); have _ := A_ ((by rw [hg]; exact Nat.ne_of_gt (blk_lt (g := gb159) (o := .cells #[.int .i16 a2_0, .int .i16 a2_1] 98 (0, 0)) z3_13_) : gb160 ≠ gb159)); clear BK159 HB; rename_i BK159 HB BK160 GW160 GE160 NB159_160 NB160_159; clear hb hbox hg))
 go_loopg [8] k (fun kq v8 w' => ∃ (x8_1 : Int) (x160000_1 : Int) (x160001_1 : Int) (x161000_1 : Int) (x161001_1 : Int), v8 = .int .i64 x8_1 ∧ Aside0 (spec_l06Loud.l0 kq l0 l1 x8_1 x160000_1 x160001_1 = some (r1, r2, r3)) ∧ Aside0 (kq ≤ k) ∧ Aside0 (w'.heap[gb159]? = some (.cells #[.int .i16 x160000_1, .int .i16 x160001_1] 98 (0, 0))) ∧ Aside0 (w'.heap[gb160]? = some (.cells #[.int .i16 x161000_1, .int .i16 x161001_1] 98 (0, 0))) ∧ Aside0 (Below w.heap.size w w'))
 case atStart => exact ⟨(0), (a2_0), (a2_1), (0), (0), (by first | rfl | (simp; done) | (simp [*]; done) | (simp [isE_]; done)), H', ⟨Nat.le_refl _⟩, ⟨z3_13_⟩, ⟨(by (with_reducible repeat (first | refine blk_drewN ?_ _ | refine blk_drew ?_ | refine blk_alloc ?_ _)); exact BK160.out)⟩, ⟨z3_2_⟩⟩
 case round =>
  clear H'
  try clear c1
  try clear p2
  obtain ⟨x8_1, x160000_1, x160001_1, x161000_1, x161001_1, rfl, HA, HK1, BK159, BK160, HB⟩ := hrel
  cases gk with
  | zero => exact absurd HA.out (by simp [spec_l06Loud.l0])
  | succ k1 =>
   have H := HA.out
   clear HA
   simp only [spec_l06Loud.l0] at H
   (repeat (first | rw [rd1_T89] at H))
   by_cases c6 : 0 < (l0.length : Int)
   ·
    rw [if_pos c6] at H
    have c6b0 := decide_eq_true c6
    have c6b1 : decide (0 < l0.length) = true := decide_eq_true (by omega)
    clear c6
    by_cases c7 : 0 < (l1.length : Int)
    ·
     rw [if_pos c7] at H
     have c7b0 := decide_eq_true c7
     have c7b1 : decide (0 < l1.length) = true := decide_eq_true (by omega)
     clear c7
     by_cases c8 : x8_1 ≤ (wrap64 ((((rd_T34 l0 0).f0).length : Int) * (((rd_T34 l1 0).f0).length : Int)))
     ·
      rw [if_pos c8] at H
      have c8b0 := decide_eq_true c8
      clear c8
      by_cases c9 : 0 ≤ x160000_1
      ·
       rw [if_pos c9] at H
       have c9b0 := decide_eq_true c9
       clear c9
       by_cases c10 : x160000_1 < (((rd_T34 l0 0).f0).length : Int)
       ·
        rw [if_pos c10] at H
        have c10b0 := decide_eq_true c10
        clear c10
        by_cases c11 : 0 ≤ x160001_1
        ·
         rw [if_pos c11] at H
         have c11b0 := decide_eq_true c11
         clear c11
         by_cases c12 : x160001_1 < (((rd_T34 l1 0).f0).length : Int)
         ·
          rw [if_pos c12] at H
          have c12b0 := decide_eq_true c12
          clear c12
          by_cases c13 : 0 < ([rd_T89 ((rd_T34 l0 0).f0) x160000_1].length : Int)
          ·
           rw [if_pos c13] at H
           have c13b0 := decide_eq_true c13
           have c13b1 : decide (0 < [rd_T89 ((rd_T34 l0 0).f0) x160000_1].length) = true := decide_eq_true (by omega)
           clear c13
           by_cases c14 : ((rd_T89 ((rd_T34 l0 0).f0) x160000_1).f0) = 2
           ·
            rw [if_pos c14] at H
            have c14b0 := beq_iff_eq.mpr c14
            have c14b1 := bne_eq_false_iff_eq.mpr c14
            clear c14
            simp only [Option.some.injEq, Prod.mk.injEq] at H
            obtain ⟨rfl, rfl, rfl⟩ := H
            try go_wp2
            have _ := A_ (blk_drew BK159.out)
            have _ := A_ (blk_drew BK160.out)
            have _ := A_ (below_drew1 HB.out)
            clear BK159 BK160 HB
            rename_i BK159 BK160 HB
            have q161 : 0 < (l0.length : Int) := of_decide_eq_true (by assumption)
            obtain ⟨ad161, A161_0, c161_0, e161, hx161_0, hl161_0, hi161_0⟩ := rp_T34 HR0.out q161
            have hw161_0 := hx161_0
            cases e161
            replace hx161_0 := cel HB.out hx161_0
            have HR161_0 := A_ hi161_0
            have HC161_0 := A_ hl161_0
            clear hi161_0 hl161_0
            have q162 : 0 < (l1.length : Int) := of_decide_eq_true (by assumption)
            obtain ⟨ad162, A162_0, c162_0, e162, hx162_0, hl162_0, hi162_0⟩ := rp_T34 HR1.out q162
            have hw162_0 := hx162_0
            cases e162
            replace hx162_0 := cel HB.out hx162_0
            have HR162_0 := A_ hi162_0
            have HC162_0 := A_ hl162_0
            clear hi162_0 hl162_0
            refine start_ (n := 13) (S := fun w' => w'.cell? ad161 = some (.slice A161_0 ((rd_T34 l0 0).f0).length c161_0) ∧ w'.cell? ad162 = some (.slice A162_0 ((rd_T34 l1 0).f0).length c162_0)) (ds := []) #[false, false, false, false, false, false, false, false, false, false, false, false, false] (by kernel_rfl) rfl rfl ⟨(cel HB.out hw161_0), (cel HB.out hw162_0)⟩ (fun hHeld => ?_); refine with_tabW spec_l06Loud.tab2 spec_l06Loud.bits2 (fun HT_ HW_ => ?_)
            generalize wr.drew = w15 at BK159 BK160 HB HR161_0 HR162_0 hx161_0 hx162_0 hHeld ⊢
            refine pure_ (i := 0) (N := some 11) (v := ?_) (a' := ?_) #[true, false, false, false, false, false, false, false, false, false, false, false, false] rfl rfl (any_of HT_.out (by kernel_rfl)) (fun _ _ _ h => h) (Or.inl ⟨by rfl, ?_⟩) ?_ ?_
            rotate_left
            ·
             intro w'
             go_simp
             with_reducible rfl
            rotate_left
            ·
             simp only [Act.put, sA_, sB_, sC_, i64_w, i32_w]
             rfl
            refine pure_ (i := 1) (N := some 12) (v := ?_) (a' := ?_) #[true, true, false, false, false, false, false, false, false, false, false, false, false] rfl rfl (any_of HT_.out (by kernel_rfl)) (fun _ _ _ h => h) (Or.inl ⟨by rfl, ?_⟩) ?_ ?_
            rotate_left
            ·
             intro w'
             go_simp
             with_reducible rfl
            rotate_left
            ·
             simp only [Act.put, sA_, sB_, sC_, i64_w, i32_w]
             rfl
            refine pure_ (i := 2) (N := some 13) (v := ?_) (a' := ?_) #[true, true, true, false, false, false, false, false, false, false, false, false, false] rfl rfl (any_of HT_.out (by kernel_rfl)) (fun _ _ _ h => h) (Or.inl ⟨by rfl, ?_⟩) ?_ ?_
            rotate_left
            ·
             intro w'
             go_simp
             with_reducible rfl
            rotate_left
            ·
             simp only [Act.put, sA_, sB_, sC_, i64_w, i32_w]
             rfl
            refine pure_ (i := 3) (N := some 14) (v := ?_) (a' := ?_) #[true, true, true, true, false, false, false, false, false, false, false, false, false] rfl rfl (any_of HT_.out (by kernel_rfl)) (fun _ _ _ h => h) (Or.inl ⟨by rfl, ?_⟩) ?_ ?_
            rotate_left
            ·
             intro w'
             go_simp
             with_reducible rfl
            rotate_left
            ·
             simp only [Act.put, sA_, sB_, sC_, i64_w, i32_w]
             rfl
            refine pure_ (i := 6) (N := some 17) (v := ?_) (a' := ?_) #[true, true, true, true, false, false, true, false, false, false, false, false, false] rfl rfl (any_of HT_.out (by kernel_rfl)) (fun _ _ _ h => h) (Or.inl ⟨by rfl, ?_⟩) ?_ ?_
            rotate_left
            ·
             intro w'
             go_simp
             with_reducible rfl
            rotate_left
            ·
             simp only [Act.put, sA_, sB_, sC_, i64_w, i32_w]
             rfl
            refine pure_ (i := 7) (N := some 18) (v := ?_) (a' := ?_) #[true, true, true, true, false, false, true, true, false, false, false, false, false] rfl rfl (any_of HT_.out (by kernel_rfl)) (fun _ _ _ h => h) (Or.inl ⟨by rfl, ?_⟩) ?_ ?_
            rotate_left
            ·
             intro w'
             go_simp
             with_reducible rfl
            rotate_left
            ·
             simp only [Act.put, sA_, sB_, sC_, i64_w, i32_w]
             rfl
            refine pure_ (i := 8) (N := some 19) (v := ?_) (a' := ?_) #[true, true, true, true, false, false, true, true, true, false, false, false, false] rfl rfl (any_of HT_.out (by kernel_rfl)) (fun _ _ _ h => h) (Or.inl ⟨by rfl, ?_⟩) ?_ ?_
            rotate_left
            ·
             intro w'
             go_simp
             with_reducible rfl
            rotate_left
            ·
             simp only [Act.put, sA_, sB_, sC_, i64_w, i32_w]
             rfl
            refine take_ (i := 4) (N := some 15) (v := ?_) (a' := ?_) #[true, true, true, true, true, false, true, true, true, false, false, false, false] rfl rfl (take_ofW HT_.out HW_.out (by kernel_rfl)) (fun _ _ _ h => h) (Or.inl ⟨by rfl, ?_⟩) hHeld ?_ ?_
            rotate_left
            ·
             rintro w' ⟨s0, s1⟩
             go_simp
             with_reducible rfl
            rotate_left
            ·
             simp only [Act.put, sA_, sB_, sC_, i64_w, i32_w]
             rfl
            refine pure_ (i := 5) (N := some 16) (v := ?_) (a' := ?_) #[true, true, true, true, true, true, true, true, true, false, false, false, false] rfl rfl (any_of HT_.out (by kernel_rfl)) (fun _ _ _ h => h) (Or.inl ⟨by rfl, ?_⟩) ?_ ?_
            rotate_left
            ·
             intro w'
             go_simp
             with_reducible rfl
            rotate_left
            ·
             simp only [Act.put, sA_, sB_, sC_, i64_w, i32_w]
             rfl
            refine take_ (i := 9) (N := some 20) (v := ?_) (a' := ?_) #[true, true, true, true, true, true, true, true, true, true, false, false, false] rfl rfl (take_ofW HT_.out HW_.out (by kernel_rfl)) (fun _ _ _ h => h) (Or.inl ⟨by rfl, ?_⟩) hHeld ?_ ?_
            rotate_left
            ·
             rintro w' ⟨s0, s1⟩
             go_simp
             with_reducible rfl
            rotate_left
            ·
             simp only [Act.put, sA_, sB_, sC_, i64_w, i32_w]
             rfl
            refine pure_ (i := 10) (N := some 21) (v := ?_) (a' := ?_) #[true, true, true, true, true, true, true, true, true, true, true, false, false] rfl rfl (any_of HT_.out (by kernel_rfl)) (fun _ _ _ h => h) (Or.inl ⟨by rfl, ?_⟩) ?_ ?_
            rotate_left
            ·
             intro w'
             go_simp
             with_reducible rfl
            rotate_left
            ·
             simp only [Act.put, sA_, sB_, sC_, i64_w, i32_w]
             rfl
            refine pure_ (i := 11) (N := some 22) (v := ?_) (a' := ?_) #[true, true, true, true, true, true, true, true, true, true, true, true, false] rfl rfl (any_of HT_.out (by kernel_rfl)) (fun _ _ _ h => h) (Or.inl ⟨by rfl, ?_⟩) ?_ ?_
            rotate_left
            ·
             intro w'
             go_simp
             with_reducible rfl
            rotate_left
            ·
             simp only [Act.put, sA_, sB_, sC_, i64_w, i32_w]
             rfl
            refine pure_ (i := 12) (N := some 23) (v := ?_) (a' := ?_) #[true, true, true, true, true, true, true, true, true, true, true, true, true] rfl rfl (any_of HT_.out (by kernel_rfl)) (fun _ _ _ h => h) (Or.inl ⟨by rfl, ?_⟩) ?_ ?_
            rotate_left
            ·
             intro w'
             go_simp
             with_reducible rfl
            rotate_left
            ·
             simp only [Act.put, sA_, sB_, sC_, i64_w, i32_w]
             rfl
            refine done_ (done_of HT_.out (by kernel_rfl)) ?_
            try go_wp2
            have _ := A_ (blk_drew BK159.out)
            have _ := A_ (blk_drew BK160.out)
            have _ := A_ (below_drew1 HB.out)
            clear BK159 BK160 HB
            rename_i BK159 BK160 HB
            have q163 : 0 < (l0.length : Int) := of_decide_eq_true (by assumption)
            obtain ⟨ad163, A163_0, c163_0, e163, hx163_0, hl163_0, hi163_0⟩ := rp_T34 HR0.out q163
            have hw163_0 := hx163_0
            obtain rfl : ad161 = ad163 := (by injection e163)
            replace hx163_0 := cel HB.out hx163_0
            have HR163_0 := A_ hi163_0
            have HC163_0 := A_ hl163_0
            clear hi163_0 hl163_0
            have p164 : 0 ≤ (x160000_1 : Int) := of_decide_eq_true (by assumption)
            have q164 : x160000_1 < (((rd_T34 l0 0).f0).length : Int) := of_decide_eq_true (by assumption)
            obtain ⟨ad164, e164, hx164_0, hx164_1, hx164_2, hx164_3, hx164_4⟩ := at_T89 HR163_0.out x160000_1 p164 q164
            have hw164_4 := hx164_4
            have hw164_3 := hx164_3
            have hw164_2 := hx164_2
            have hw164_1 := hx164_1
            have hw164_0 := hx164_0
            cases e164
            replace hx164_0 := cel HB.out hx164_0
            replace hx164_1 := cel HB.out hx164_1
            replace hx164_2 := cel HB.out hx164_2
            replace hx164_3 := cel HB.out hx164_3
            replace hx164_4 := cel HB.out hx164_4
            replace p164 := eq_true p164
            replace q164 := eq_true q164
            have HR165 := A_ (show Kd.C k89 w (some (Addr.add ad164 (x160000_1.toNat * 5))) [rd_T89 ((rd_T34 l0 0).f0) x160000_1].length [rd_T89 ((rd_T34 l0 0).f0) x160000_1] from Kd.C_el k89 z89 HR163_0.out (x160000_1 : Int) (of_eq_true p164) (of_eq_true q164))
            refine start_ (n := 8) (S := fun w' => w'.cell? ⟨gb159, 0, none⟩ = some (.int .i16 x160000_1) ∧ w'.cell? ⟨gb159, 1, none⟩ = some (.int .i16 x160001_1) ∧ w'.cell? ad161 = some (.slice (some ad164) ((rd_T34 l0 0).f0).length c163_0) ∧ w'.cell? (ad164.add ((x160000_1).toNat * 5)) = some (.int .i8 ((rd_T89 ((rd_T34 l0 0).f0) x160000_1).f0)) ∧ w'.cell? ⟨(ad164.add ((x160000_1).toNat * 5)).block, (ad164.add ((x160000_1).toNat * 5)).off + 1, none⟩ = some (.int .i8 ((rd_T89 ((rd_T34 l0 0).f0) x160000_1).f1)) ∧ w'.cell? ⟨(ad164.add ((x160000_1).toNat * 5)).block, (ad164.add ((x160000_1).toNat * 5)).off + 2, none⟩ = some (.int .i16 ((rd_T89 ((rd_T34 l0 0).f0) x160000_1).f2.f0)) ∧ w'.cell? ⟨(ad164.add ((x160000_1).toNat * 5)).block, (ad164.add ((x160000_1).toNat * 5)).off + 3, none⟩ = some (.int .i16 ((rd_T89 ((rd_T34 l0 0).f0) x160000_1).f2.f1)) ∧ w'.cell? ⟨(ad164.add ((x160000_1).toNat * 5)).block, (ad164.add ((x160000_1).toNat * 5)).off + 4, none⟩ = some (.int .i16 ((rd_T89 ((rd_T34 l0 0).f0) x160000_1).f2.f2))) (ds := []) #[false, false, false, false, false, false, false, false] (by kernel_rfl) rfl rfl ⟨(blk_cell BK159.out 0).trans rfl, (blk_cell BK159.out 1).trans rfl, (cel HB.out hw163_0), (cel HB.out hw164_0), (cel HB.out hw164_1), (cel HB.out hw164_2), (cel HB.out hw164_3), (cel HB.out hw164_4)⟩ (fun hHeld => ?_); refine with_tabW spec_l06Loud.tab4 spec_l06Loud.bits4 (fun HT_ HW_ => ?_)
            generalize w15.drew = w16 at BK159 BK160 HB HR163_0 HR165 hx163_0 hx164_0 hx164_1 hx164_2 hx164_3 hx164_4 hHeld ⊢
            refine pure_ (i := 0) (N := some 26) (v := ?_) (a' := ?_) #[true, false, false, false, false, false, false, false] rfl rfl (any_of HT_.out (by kernel_rfl)) (fun _ _ _ h => h) (Or.inl ⟨by rfl, ?_⟩) ?_ ?_
            rotate_left
            ·
             intro w'
             go_simp
             with_reducible rfl
            rotate_left
            ·
             simp only [Act.put, sA_, sB_, sC_, i64_w, i32_w]
             rfl
            refine pure_ (i := 1) (N := some 27) (v := ?_) (a' := ?_) #[true, true, false, false, false, false, false, false] rfl rfl (any_of HT_.out (by kernel_rfl)) (fun _ _ _ h => h) (Or.inl ⟨by rfl, ?_⟩) ?_ ?_
            rotate_left
            ·
             intro w'
             go_simp
             with_reducible rfl
            rotate_left
            ·
             simp only [Act.put, sA_, sB_, sC_, i64_w, i32_w]
             rfl
            refine pure_ (i := 2) (N := some 28) (v := ?_) (a' := ?_) #[true, true, true, false, false, false, false, false] rfl rfl (any_of HT_.out (by kernel_rfl)) (fun _ _ _ h => h) (Or.inl ⟨by rfl, ?_⟩) ?_ ?_
            rotate_left
            ·
             intro w'
             go_simp
             with_reducible rfl
            rotate_left
            ·
             simp only [Act.put, sA_, sB_, sC_, i64_w, i32_w]
             rfl
            refine pure_ (i := 4) (N := some 30) (v := ?_) (a' := ?_) #[true, true, true, false, true, false, false, false] rfl rfl (any_of HT_.out (by kernel_rfl)) (fun _ _ _ h => h) (Or.inl ⟨by rfl, ?_⟩) ?_ ?_
            rotate_left
            ·
             intro w'
             go_simp
             with_reducible rfl
            rotate_left
            ·
             simp only [Act.put, sA_, sB_, sC_, i64_w, i32_w]
             rfl
            refine take_ (i := 3) (N := some 29) (v := ?_) (a' := ?_) #[true, true, true, true, true, false, false, false] rfl rfl (take_ofW HT_.out HW_.out (by kernel_rfl)) (fun _ _ _ h => h) (Or.inl ⟨by rfl, ?_⟩) hHeld ?_ ?_
            rotate_left
            ·
             rintro w' ⟨s0, s1, s2, s3, s4, s5, s6, s7⟩
             go_simp
             with_reducible rfl
            rotate_left
            ·
             simp only [Act.put, sA_, sB_, sC_, i64_w, i32_w]
             rfl
            refine take_ (i := 5) (N := some 31) (v := ?_) (a' := ?_) #[true, true, true, true, true, true, false, false] rfl rfl (take_ofW HT_.out HW_.out (by kernel_rfl)) (fun _ _ _ h => h) (Or.inl ⟨by rfl, ?_⟩) hHeld ?_ ?_
            rotate_left
            ·
             rintro w' ⟨s0, s1, s2, s3, s4, s5, s6, s7⟩
             go_simp
             with_reducible rfl
            rotate_left
            ·
             simp only [Act.put, sA_, sB_, sC_, i64_w, i32_w]
             rfl
            refine pure_ (i := 6) (N := some 32) (v := ?_) (a' := ?_) #[true, true, true, true, true, true, true, false] rfl rfl (any_of HT_.out (by kernel_rfl)) (fun _ _ _ h => h) (Or.inl ⟨by rfl, ?_⟩) ?_ ?_
            rotate_left
            ·
             intro w'
             go_simp
             with_reducible rfl
            rotate_left
            ·
             simp only [Act.put, sA_, sB_, sC_, i64_w, i32_w]
             rfl
            refine pure_ (i := 7) (N := some 9) (v := ?_) (a' := ?_) #[true, true, true, true, true, true, true, true] rfl rfl (any_of HT_.out (by kernel_rfl)) (fun _ _ _ h => h) (Or.inl ⟨by rfl, ?_⟩) ?_ ?_
            rotate_left
            ·
             intro w'
             go_simp
             with_reducible rfl
            rotate_left
            ·
             simp only [Act.put, sA_, sB_, sC_, i64_w, i32_w]
             rfl
            refine done_ (done_of HT_.out (by kernel_rfl)) ?_
            try go_wp2
            have _ := A_ (blk_drew BK159.out)
            have _ := A_ (blk_drew BK160.out)
            have _ := A_ (below_drew1 HB.out)
            clear BK159 BK160 HB
            rename_i BK159 BK160 HB
            have q166 : 0 < (l1.length : Int) := of_decide_eq_true (by assumption)
            obtain ⟨ad166, A166_0, c166_0, e166, hx166_0, hl166_0, hi166_0⟩ := rp_T34 HR1.out q166
            have hw166_0 := hx166_0
            obtain rfl : ad162 = ad166 := (by injection e166)
            replace hx166_0 := cel HB.out hx166_0
            have HR166_0 := A_ hi166_0
            have HC166_0 := A_ hl166_0
            clear hi166_0 hl166_0
            have p167 : 0 ≤ (x160001_1 : Int) := of_decide_eq_true (by assumption)
            have q167 : x160001_1 < (((rd_T34 l1 0).f0).length : Int) := of_decide_eq_true (by assumption)
            obtain ⟨ad167, e167, hx167_0, hx167_1, hx167_2, hx167_3, hx167_4⟩ := at_T89 HR166_0.out x160001_1 p167 q167
            have hw167_4 := hx167_4
            have hw167_3 := hx167_3
            have hw167_2 := hx167_2
            have hw167_1 := hx167_1
            have hw167_0 := hx167_0
            cases e167
            replace hx167_0 := cel HB.out hx167_0
            replace hx167_1 := cel HB.out hx167_1
            replace hx167_2 := cel HB.out hx167_2
            replace hx167_3 := cel HB.out hx167_3
            replace hx167_4 := cel HB.out hx167_4
            replace p167 := eq_true p167
            replace q167 := eq_true q167
            have HR168 := A_ (show Kd.C k89 w (some (Addr.add ad167 (x160001_1.toNat * 5))) [rd_T89 ((rd_T34 l1 0).f0) x160001_1].length [rd_T89 ((rd_T34 l1 0).f0) x160001_1] from Kd.C_el k89 z89 HR166_0.out (x160001_1 : Int) (of_eq_true p167) (of_eq_true q167))
            refine start_ (n := 8) (S := fun w' => w'.cell? ⟨gb159, 0, none⟩ = some (.int .i16 x160000_1) ∧ w'.cell? ⟨gb159, 1, none⟩ = some (.int .i16 x160001_1) ∧ w'.cell? ad162 = some (.slice (some ad167) ((rd_T34 l1 0).f0).length c166_0) ∧ w'.cell? (ad167.add ((x160001_1).toNat * 5)) = some (.int .i8 ((rd_T89 ((rd_T34 l1 0).f0) x160001_1).f0)) ∧ w'.cell? ⟨(ad167.add ((x160001_1).toNat * 5)).block, (ad167.add ((x160001_1).toNat * 5)).off + 1, none⟩ = some (.int .i8 ((rd_T89 ((rd_T34 l1 0).f0) x160001_1).f1)) ∧ w'.cell? ⟨(ad167.add ((x160001_1).toNat * 5)).block, (ad167.add ((x160001_1).toNat * 5)).off + 2, none⟩ = some (.int .i16 ((rd_T89 ((rd_T34 l1 0).f0) x160001_1).f2.f0)) ∧ w'.cell? ⟨(ad167.add ((x160001_1).toNat * 5)).block, (ad167.add ((x160001_1).toNat * 5)).off + 3, none⟩ = some (.int .i16 ((rd_T89 ((rd_T34 l1 0).f0) x160001_1).f2.f1)) ∧ w'.cell? ⟨(ad167.add ((x160001_1).toNat * 5)).block, (ad167.add ((x160001_1).toNat * 5)).off + 4, none⟩ = some (.int .i16 ((rd_T89 ((rd_T34 l1 0).f0) x160001_1).f2.f2))) (ds := []) #[false, false, false, false, false, false, false, false] (by kernel_rfl) rfl rfl ⟨(blk_cell BK159.out 0).trans rfl, (blk_cell BK159.out 1).trans rfl, (cel HB.out hw166_0), (cel HB.out hw167_0), (cel HB.out hw167_1), (cel HB.out hw167_2), (cel HB.out hw167_3), (cel HB.out hw167_4)⟩ (fun hHeld => ?_); refine with_tabW spec_l06Loud.tab5 spec_l06Loud.bits5 (fun HT_ HW_ => ?_)
            generalize w16.drew = w17 at BK159 BK160 HB HR166_0 HR168 hx166_0 hx167_0 hx167_1 hx167_2 hx167_3 hx167_4 hHeld ⊢
            refine pure_ (i := 0) (N := some 33) (v := ?_) (a' := ?_) #[true, false, false, false, false, false, false, false] rfl rfl (any_of HT_.out (by kernel_rfl)) (fun _ _ _ h => h) (Or.inl ⟨by rfl, ?_⟩) ?_ ?_
            rotate_left
            ·
             intro w'
             go_simp
             with_reducible rfl
            rotate_left
            ·
             simp only [Act.put, sA_, sB_, sC_, i64_w, i32_w]
             rfl
            refine pure_ (i := 1) (N := some 34) (v := ?_) (a' := ?_) #[true, true, false, false, false, false, false, false] rfl rfl (any_of HT_.out (by kernel_rfl)) (fun _ _ _ h => h) (Or.inl ⟨by rfl, ?_⟩) ?_ ?_
            rotate_left
            ·
             intro w'
             go_simp
             with_reducible rfl
            rotate_left
            ·
             simp only [Act.put, sA_, sB_, sC_, i64_w, i32_w]
             rfl
            refine pure_ (i := 2) (N := some 35) (v := ?_) (a' := ?_) #[true, true, true, false, false, false, false, false] rfl rfl (any_of HT_.out (by kernel_rfl)) (fun _ _ _ h => h) (Or.inl ⟨by rfl, ?_⟩) ?_ ?_
            rotate_left
            ·
             intro w'
             go_simp
             with_reducible rfl
            rotate_left
            ·
             simp only [Act.put, sA_, sB_, sC_, i64_w, i32_w]
             rfl
            refine pure_ (i := 4) (N := some 37) (v := ?_) (a' := ?_) #[true, true, true, false, true, false, false, false] rfl rfl (any_of HT_.out (by kernel_rfl)) (fun _ _ _ h => h) (Or.inl ⟨by rfl, ?_⟩) ?_ ?_
            rotate_left
            ·
             intro w'
             go_simp
             with_reducible rfl
            rotate_left
            ·
             simp only [Act.put, sA_, sB_, sC_, i64_w, i32_w]
             rfl
            refine take_ (i := 3) (N := some 36) (v := ?_) (a' := ?_) #[true, true, true, true, true, false, false, false] rfl rfl (take_ofW HT_.out HW_.out (by kernel_rfl)) (fun _ _ _ h => h) (Or.inl ⟨by rfl, ?_⟩) hHeld ?_ ?_
            rotate_left
            ·
             rintro w' ⟨s0, s1, s2, s3, s4, s5, s6, s7⟩
             go_simp
             with_reducible rfl
            rotate_left
            ·
             simp only [Act.put, sA_, sB_, sC_, i64_w, i32_w]
             rfl
            refine take_ (i := 5) (N := some 38) (v := ?_) (a' := ?_) #[true, true, true, true, true, true, false, false] rfl rfl (take_ofW HT_.out HW_.out (by kernel_rfl)) (fun _ _ _ h => h) (Or.inl ⟨by rfl, ?_⟩) hHeld ?_ ?_
            rotate_left
            ·
             rintro w' ⟨s0, s1, s2, s3, s4, s5, s6, s7⟩
             go_simp
             with_reducible rfl
            rotate_left
            ·
             simp only [Act.put, sA_, sB_, sC_, i64_w, i32_w]
             rfl
            refine pure_ (i := 6) (N := some 39) (v := ?_) (a' := ?_) #[true, true, true, true, true, true, true, false] rfl rfl (any_of HT_.out (by kernel_rfl)) (fun _ _ _ h => h) (Or.inl ⟨by rfl, ?_⟩) ?_ ?_
            rotate_left
            ·
             intro w'
             go_simp
             with_reducible rfl
            rotate_left
            ·
             simp only [Act.put, sA_, sB_, sC_, i64_w, i32_w]
             rfl
            refine pure_ (i := 7) (N := some 10) (v := ?_) (a' := ?_) #[true, true, true, true, true, true, true, true] rfl rfl (any_of HT_.out (by kernel_rfl)) (fun _ _ _ h => h) (Or.inl ⟨by rfl, ?_⟩) ?_ ?_
            rotate_left
            ·
             intro w'
             go_simp
             with_reducible rfl
            rotate_left
            ·
             simp only [Act.put, sA_, sB_, sC_, i64_w, i32_w]
             rfl
            refine done_ (done_of HT_.out (by kernel_rfl)) ?_
            have q169 : 0 < ([rd_T89 ((rd_T34 l0 0).f0) x160000_1].length : Int) := of_decide_eq_true (by assumption)
            obtain ⟨ad169, e169, hx169_0, hx169_1, hx169_2, hx169_3, hx169_4⟩ := rp_T89 HR165.out q169
            (try simp only [rd1_T89] at hx169_0 hx169_1 hx169_2 hx169_3 hx169_4)
            obtain rfl : (Addr.add ad164 (x160000_1.toNat * 5)) = ad169 := (by injection e169)
            replace hx169_0 := cel HB.out hx169_0
            replace hx169_1 := cel HB.out hx169_1
            replace hx169_2 := cel HB.out hx169_2
            replace hx169_3 := cel HB.out hx169_3
            replace hx169_4 := cel HB.out hx169_4
            have hnb18 := NB159_160.out
            have hnc18 := NB160_159.out
            obtain ⟨hcz19_0, hcz19_1⟩ := bc2 BK159.out
            obtain ⟨hfz19_0, hfz19_1⟩ := bf2 BK159.out
            obtain ⟨hcz20_0, hcz20_1⟩ := bc2 BK160.out
            obtain ⟨hfz20_0, hfz20_1⟩ := bf2 BK160.out
            try go_wp2
            refine bodyPost_ret (results_ct rfl _ _ gb160 98 #[.int .i16 x160000_1, .int .i16 x160001_1] (0, 0) _ rfl z3_1_ Try.underlying98 rfl (by kernel_rfl)) rfl ?_
            exact ⟨z3_16_, z3_2_⟩
           ·
            rw [if_neg c14] at H
            have c14b0 : (((rd_T89 ((rd_T34 l0 0).f0) x160000_1).f0) == 2) = false := beq_eq_false_iff_ne.mpr c14
            have c14b1 : (((rd_T89 ((rd_T34 l0 0).f0) x160000_1).f0) != 2) = true := bne_iff_ne.mpr c14
            by_cases c21 : 0 < ([rd_T89 ((rd_T34 l1 0).f0) x160001_1].length : Int)
            ·
             rw [if_pos c21] at H
             have c21b0 := decide_eq_true c21
             have c21b1 : decide (0 < [rd_T89 ((rd_T34 l1 0).f0) x160001_1].length) = true := decide_eq_true (by omega)
             clear c21
             by_cases c22 : ((rd_T89 ((rd_T34 l1 0).f0) x160001_1).f0) = 1
             ·
              rw [if_pos c22] at H
              have c22b0 := beq_iff_eq.mpr c22
              have c22b1 := bne_eq_false_iff_eq.mpr c22
              clear c22
              simp only [Option.some.injEq, Prod.mk.injEq] at H
              obtain ⟨rfl, rfl, rfl⟩ := H
              try go_wp2
              have _ := A_ (blk_drew BK159.out)
              have _ := A_ (blk_drew BK160.out)
              have _ := A_ (below_drew1 HB.out)
              clear BK159 BK160 HB
              rename_i BK159 BK160 HB
              have q161 : 0 < (l0.length : Int) := of_decide_eq_true (by assumption)
              obtain ⟨ad161, A161_0, c161_0, e161, hx161_0, hl161_0, hi161_0⟩ := rp_T34 HR0.out q161
              have hw161_0 := hx161_0
              cases e161
              replace hx161_0 := cel HB.out hx161_0
              have HR161_0 := A_ hi161_0
              have HC161_0 := A_ hl161_0
              clear hi161_0 hl161_0
              have q162 : 0 < (l1.length : Int) := of_decide_eq_true (by assumption)
              obtain ⟨ad162, A162_0, c162_0, e162, hx162_0, hl162_0, hi162_0⟩ := rp_T34 HR1.out q162
              have hw162_0 := hx162_0
              cases e162
              replace hx162_0 := cel HB.out hx162_0
              have HR162_0 := A_ hi162_0
              have HC162_0 := A_ hl162_0
              clear hi162_0 hl162_0
              refine start_ (n := 13) (S := fun w' => w'.cell? ad161 = some (.slice A161_0 ((rd_T34 l0 0).f0).length c161_0) ∧ w'.cell? ad162 = some (.slice A162_0 ((rd_T34 l1 0).f0).length c162_0)) (ds := []) #[false, false, false, false, false, false, false, false, false, false, false, false, false] (by kernel_rfl) rfl rfl ⟨(cel HB.out hw161_0), (cel HB.out hw162_0)⟩ (fun hHeld => ?_); refine with_tabW spec_l06Loud.tab2 spec_l06Loud.bits2 (fun HT_ HW_ => ?_)
              generalize wr.drew = w23 at BK159 BK160 HB HR161_0 HR162_0 hx161_0 hx162_0 hHeld ⊢
              refine pure_ (i := 0) (N := some 11) (v := ?_) (a' := ?_) #[true, false, false, false, false, false, false, false, false, false, false, false, false] rfl rfl (any_of HT_.out (by kernel_rfl)) (fun _ _ _ h => h) (Or.inl ⟨by rfl, ?_⟩) ?_ ?_
              rotate_left
              ·
               intro w'
               go_simp
               with_reducible rfl
              rotate_left
              ·
               simp only [Act.put, sA_, sB_, sC_, i64_w, i32_w]
               rfl
              refine pure_ (i := 1) (N := some 12) (v := ?_) (a' := ?_) #[true, true, false, false, false, false, false, false, false, false, false, false, false] rfl rfl (any_of HT_.out (by kernel_rfl)) (fun _ _ _ h => h) (Or.inl ⟨by rfl, ?_⟩) ?_ ?_
              rotate_left
              ·
               intro w'
               go_simp
               with_reducible rfl
              rotate_left
              ·
               simp only [Act.put, sA_, sB_, sC_, i64_w, i32_w]
               rfl
              refine pure_ (i := 2) (N := some 13) (v := ?_) (a' := ?_) #[true, true, true, false, false, false, false, false, false, false, false, false, false] rfl rfl (any_of HT_.out (by kernel_rfl)) (fun _ _ _ h => h) (Or.inl ⟨by rfl, ?_⟩) ?_ ?_
              rotate_left
              ·
               intro w'
               go_simp
               with_reducible rfl
              rotate_left
              ·
               simp only [Act.put, sA_, sB_, sC_, i64_w, i32_w]
               rfl
              refine pure_ (i := 3) (N := some 14) (v := ?_) (a' := ?_) #[true, true, true, true, false, false, false, false, false, false, false, false, false] rfl rfl (any_of HT_.out (by kernel_rfl)) (fun _ _ _ h => h) (Or.inl ⟨by rfl, ?_⟩) ?_ ?_
              rotate_left
              ·
               intro w'
               go_simp
               with_reducible rfl
              rotate_left
              ·
               simp only [Act.put, sA_, sB_, sC_, i64_w, i32_w]
               rfl
              refine pure_ (i := 6) (N := some 17) (v := ?_) (a' := ?_) #[true, true, true, true, false, false, true, false, false, false, false, false, false] rfl rfl (any_of HT_.out (by kernel_rfl)) (fun _ _ _ h => h) (Or.inl ⟨by rfl, ?_⟩) ?_ ?_
              rotate_left
              ·
               intro w'
               go_simp
               with_reducible rfl
              rotate_left
              ·
               simp only [Act.put, sA_, sB_, sC_, i64_w, i32_w]
               rfl
              refine pure_ (i := 7) (N := some 18) (v := ?_) (a' := ?_) #[true, true, true, true, false, false, true, true, false, false, false, false, false] rfl rfl (any_of HT_.out (by kernel_rfl)) (fun _ _ _ h => h) (Or.inl ⟨by rfl, ?_⟩) ?_ ?_
              rotate_left
              ·
               intro w'
               go_simp
               with_reducible rfl
              rotate_left
              ·
               simp only [Act.put, sA_, sB_, sC_, i64_w, i32_w]
               rfl
              refine pure_ (i := 8) (N := some 19) (v := ?_) (a' := ?_) #[true, true, true, true, false, false, true, true, true, false, false, false, false] rfl rfl (any_of HT_.out (by kernel_rfl)) (fun _ _ _ h => h) (Or.inl ⟨by rfl, ?_⟩) ?_ ?_
              rotate_left
              ·
               intro w'
               go_simp
               with_reducible rfl
              rotate_left
              ·
               simp only [Act.put, sA_, sB_, sC_, i64_w, i32_w]
               rfl
              refine take_ (i := 4) (N := some 15) (v := ?_) (a' := ?_) #[true, true, true, true, true, false, true, true, true, false, false, false, false] rfl rfl (take_ofW HT_.out HW_.out (by kernel_rfl)) (fun _ _ _ h => h) (Or.inl ⟨by rfl, ?_⟩) hHeld ?_ ?_
              rotate_left
              ·
               rintro w' ⟨s0, s1⟩
               go_simp
               with_reducible rfl
              rotate_left
              ·
               simp only [Act.put, sA_, sB_, sC_, i64_w, i32_w]
               rfl
              refine pure_ (i := 5) (N := some 16) (v := ?_) (a' := ?_) #[true, true, true, true, true, true, true, true, true, false, false, false, false] rfl rfl (any_of HT_.out (by kernel_rfl)) (fun _ _ _ h => h) (Or.inl ⟨by rfl, ?_⟩) ?_ ?_
              rotate_left
              ·
               intro w'
               go_simp
               with_reducible rfl
              rotate_left
              ·
               simp only [Act.put, sA_, sB_, sC_, i64_w, i32_w]
               rfl
              refine take_ (i := 9) (N := some 20) (v := ?_) (a' := ?_) #[true, true, true, true, true, true, true, true, true, true, false, false, false] rfl rfl (take_ofW HT_.out HW_.out (by kernel_rfl)) (fun _ _ _ h => h) (Or.inl ⟨by rfl, ?_⟩) hHeld ?_ ?_
              rotate_left
              ·
               rintro w' ⟨s0, s1⟩
               go_simp
               with_reducible rfl
              rotate_left
              ·
               simp only [Act.put, sA_, sB_, sC_, i64_w, i32_w]
               rfl
              refine pure_ (i := 10) (N := some 21) (v := ?_) (a' := ?_) #[true, true, true, true, true, true, true, true, true, true, true, false, false] rfl rfl (any_of HT_.out (by kernel_rfl)) (fun _ _ _ h => h) (Or.inl ⟨by rfl, ?_⟩) ?_ ?_
              rotate_left
              ·
               intro w'
               go_simp
               with_reducible rfl
              rotate_left
              ·
               simp only [Act.put, sA_, sB_, sC_, i64_w, i32_w]
               rfl
              refine pure_ (i := 11) (N := some 22) (v := ?_) (a' := ?_) #[true, true, true, true, true, true, true, true, true, true, true, true, false] rfl rfl (any_of HT_.out (by kernel_rfl)) (fun _ _ _ h => h) (Or.inl ⟨by rfl, ?_⟩) ?_ ?_
              rotate_left
              ·
               intro w'
               go_simp
               with_reducible rfl
              rotate_left
              ·
               simp only [Act.put, sA_, sB_, sC_, i64_w, i32_w]
               rfl
              refine pure_ (i := 12) (N := some 23) (v := ?_) (a' := ?_) #[true, true, true, true, true, true, true, true, true, true, true, true, true] rfl rfl (any_of HT_.out (by kernel_rfl)) (fun _ _ _ h => h) (Or.inl ⟨by rfl, ?_⟩) ?_ ?_
              rotate_left
              ·
               intro w'
               go_simp
               with_reducible rfl
              rotate_left
              ·
               simp only [Act.put, sA_, sB_, sC_, i64_w, i32_w]
               rfl
              refine done_ (done_of HT_.out (by kernel_rfl)) ?_
              try go_wp2
              have _ := A_ (blk_drew BK159.out)
              have _ := A_ (blk_drew BK160.out)
              have _ := A_ (below_drew1 HB.out)
              clear BK159 BK160 HB
              rename_i BK159 BK160 HB
              have q163 : 0 < (l0.length : Int) := of_decide_eq_true (by assumption)
              obtain ⟨ad163, A163_0, c163_0, e163, hx163_0, hl163_0, hi163_0⟩ := rp_T34 HR0.out q163
              have hw163_0 := hx163_0
              obtain rfl : ad161 = ad163 := (by injection e163)
              replace hx163_0 := cel HB.out hx163_0
              have HR163_0 := A_ hi163_0
              have HC163_0 := A_ hl163_0
              clear hi163_0 hl163_0
              have p164 : 0 ≤ (x160000_1 : Int) := of_decide_eq_true (by assumption)
              have q164 : x160000_1 < (((rd_T34 l0 0).f0).length : Int) := of_decide_eq_true (by assumption)
              obtain ⟨ad164, e164, hx164_0, hx164_1, hx164_2, hx164_3, hx164_4⟩ := at_T89 HR163_0.out x160000_1 p164 q164
              have hw164_4 := hx164_4
              have hw164_3 := hx164_3
              have hw164_2 := hx164_2
              have hw164_1 := hx164_1
              have hw164_0 := hx164_0
              cases e164
              replace hx164_0 := cel HB.out hx164_0
              replace hx164_1 := cel HB.out hx164_1
              replace hx164_2 := cel HB.out hx164_2
              replace hx164_3 := cel HB.out hx164_3
              replace hx164_4 := cel HB.out hx164_4
              replace p164 := eq_true p164
              replace q164 := eq_true q164
              have HR165 := A_ (show Kd.C k89 w (some (Addr.add ad164 (x160000_1.toNat * 5))) [rd_T89 ((rd_T34 l0 0).f0) x160000_1].length [rd_T89 ((rd_T34 l0 0).f0) x160000_1] from Kd.C_el k89 z89 HR163_0.out (x160000_1 : Int) (of_eq_true p164) (of_eq_true q164))
              refine start_ (n := 8) (S := fun w' => w'.cell? ⟨gb159, 0, none⟩ = some (.int .i16 x160000_1) ∧ w'.cell? ⟨gb159, 1, none⟩ = some (.int .i16 x160001_1) ∧ w'.cell? ad161 = some (.slice (some ad164) ((rd_T34 l0 0).f0).length c163_0) ∧ w'.cell? (ad164.add ((x160000_1).toNat * 5)) = some (.int .i8 ((rd_T89 ((rd_T34 l0 0).f0) x160000_1).f0)) ∧ w'.cell? ⟨(ad164.add ((x160000_1).toNat * 5)).block, (ad164.add ((x160000_1).toNat * 5)).off + 1, none⟩ = some (.int .i8 ((rd_T89 ((rd_T34 l0 0).f0) x160000_1).f1)) ∧ w'.cell? ⟨(ad164.add ((x160000_1).toNat * 5)).block, (ad164.add ((x160000_1).toNat * 5)).off + 2, none⟩ = some (.int .i16 ((rd_T89 ((rd_T34 l0 0).f0) x160000_1).f2.f0)) ∧ w'.cell? ⟨(ad164.add ((x160000_1).toNat * 5)).block, (ad164.add ((x160000_1).toNat * 5)).off + 3, none⟩ = some (.int .i16 ((rd_T89 ((rd_T34 l0 0).f0) x160000_1).f2.f1)) ∧ w'.cell? ⟨(ad164.add ((x160000_1).toNat * 5)).block, (ad164.add ((x160000_1).toNat * 5)).off + 4, none⟩ = some (.int .i16 ((rd_T89 ((rd_T34 l0 0).f0) x160000_1).f2.f2))) (ds := []) #[false, false, false, false, false, false, false, false] (by kernel_rfl) rfl rfl ⟨(blk_cell BK159.out 0).trans rfl, (blk_cell BK159.out 1).trans rfl, (cel HB.out hw163_0), (cel HB.out hw164_0), (cel HB.out hw164_1), (cel HB.out hw164_2), (cel HB.out hw164_3), (cel HB.out hw164_4)⟩ (fun hHeld => ?_); refine with_tabW spec_l06Loud.tab4 spec_l06Loud.bits4 (fun HT_ HW_ => ?_)
              generalize w23.drew = w24 at BK159 BK160 HB HR163_0 HR165 hx163_0 hx164_0 hx164_1 hx164_2 hx164_3 hx164_4 hHeld ⊢
              refine pure_ (i := 0) (N := some 26) (v := ?_) (a' := ?_) #[true, false, false, false, false, false, false, false] rfl rfl (any_of HT_.out (by kernel_rfl)) (fun _ _ _ h => h) (Or.inl ⟨by rfl, ?_⟩) ?_ ?_
              rotate_left
              ·
               intro w'
               go_simp
               with_reducible rfl
              rotate_left
              ·
               simp only [Act.put, sA_, sB_, sC_, i64_w, i32_w]
               rfl
              refine pure_ (i := 1) (N := some 27) (v := ?_) (a' := ?_) #[true, true, false, false, false, false, false, false] rfl rfl (any_of HT_.out (by kernel_rfl)) (fun _ _ _ h => h) (Or.inl ⟨by rfl, ?_⟩) ?_ ?_
              rotate_left
              ·
               intro w'
               go_simp
               with_reducible rfl
              rotate_left
              ·
               simp only [Act.put, sA_, sB_, sC_, i64_w, i32_w]
               rfl
              refine pure_ (i := 2) (N := some 28) (v := ?_) (a' := ?_) #[true, true, true, false, false, false, false, false] rfl rfl (any_of HT_.out (by kernel_rfl)) (fun _ _ _ h => h) (Or.inl ⟨by rfl, ?_⟩) ?_ ?_
              rotate_left
              ·
               intro w'
               go_simp
               with_reducible rfl
              rotate_left
              ·
               simp only [Act.put, sA_, sB_, sC_, i64_w, i32_w]
               rfl
              refine pure_ (i := 4) (N := some 30) (v := ?_) (a' := ?_) #[true, true, true, false, true, false, false, false] rfl rfl (any_of HT_.out (by kernel_rfl)) (fun _ _ _ h => h) (Or.inl ⟨by rfl, ?_⟩) ?_ ?_
              rotate_left
              ·
               intro w'
               go_simp
               with_reducible rfl
              rotate_left
              ·
               simp only [Act.put, sA_, sB_, sC_, i64_w, i32_w]
               rfl
              refine take_ (i := 3) (N := some 29) (v := ?_) (a' := ?_) #[true, true, true, true, true, false, false, false] rfl rfl (take_ofW HT_.out HW_.out (by kernel_rfl)) (fun _ _ _ h => h) (Or.inl ⟨by rfl, ?_⟩) hHeld ?_ ?_
              rotate_left
              ·
               rintro w' ⟨s0, s1, s2, s3, s4, s5, s6, s7⟩
               go_simp
               with_reducible rfl
              rotate_left
              ·
               simp only [Act.put, sA_, sB_, sC_, i64_w, i32_w]
               rfl
              refine take_ (i := 5) (N := some 31) (v := ?_) (a' := ?_) #[true, true, true, true, true, true, false, false] rfl rfl (take_ofW HT_.out HW_.out (by kernel_rfl)) (fun _ _ _ h => h) (Or.inl ⟨by rfl, ?_⟩) hHeld ?_ ?_
              rotate_left
              ·
               rintro w' ⟨s0, s1, s2, s3, s4, s5, s6, s7⟩
               go_simp
               with_reducible rfl
              rotate_left
              ·
               simp only [Act.put, sA_, sB_, sC_, i64_w, i32_w]
               rfl
              refine pure_ (i := 6) (N := some 32) (v := ?_) (a' := ?_) #[true, true, true, true, true, true, true, false] rfl rfl (any_of HT_.out (by kernel_rfl)) (fun _ _ _ h => h) (Or.inl ⟨by rfl, ?_⟩) ?_ ?_
              rotate_left
              ·
               intro w'
               go_simp
               with_reducible rfl
              rotate_left
              ·
               simp only [Act.put, sA_, sB_, sC_, i64_w, i32_w]
               rfl
              refine pure_ (i := 7) (N := some 9) (v := ?_) (a' := ?_) #[true, true, true, true, true, true, true, true] rfl rfl (any_of HT_.out (by kernel_rfl)) (fun _ _ _ h => h) (Or.inl ⟨by rfl, ?_⟩) ?_ ?_
              rotate_left
              ·
               intro w'
               go_simp
               with_reducible rfl
              rotate_left
              ·
               simp only [Act.put, sA_, sB_, sC_, i64_w, i32_w]
               rfl
              refine done_ (done_of HT_.out (by kernel_rfl)) ?_
              try go_wp2
              have _ := A_ (blk_drew BK159.out)
              have _ := A_ (blk_drew BK160.out)
              have _ := A_ (below_drew1 HB.out)
              clear BK159 BK160 HB
              rename_i BK159 BK160 HB
              have q166 : 0 < (l1.length : Int) := of_decide_eq_true (by assumption)
              obtain ⟨ad166, A166_0, c166_0, e166, hx166_0, hl166_0, hi166_0⟩ := rp_T34 HR1.out q166
              have hw166_0 := hx166_0
              obtain rfl : ad162 = ad166 := (by injection e166)
              replace hx166_0 := cel HB.out hx166_0
              have HR166_0 := A_ hi166_0
              have HC166_0 := A_ hl166_0
              clear hi166_0 hl166_0
              have p167 : 0 ≤ (x160001_1 : Int) := of_decide_eq_true (by assumption)
              have q167 : x160001_1 < (((rd_T34 l1 0).f0).length : Int) := of_decide_eq_true (by assumption)
              obtain ⟨ad167, e167, hx167_0, hx167_1, hx167_2, hx167_3, hx167_4⟩ := at_T89 HR166_0.out x160001_1 p167 q167
              have hw167_4 := hx167_4
              have hw167_3 := hx167_3
              have hw167_2 := hx167_2
              have hw167_1 := hx167_1
              have hw167_0 := hx167_0
              cases e167
              replace hx167_0 := cel HB.out hx167_0
              replace hx167_1 := cel HB.out hx167_1
              replace hx167_2 := cel HB.out hx167_2
              replace hx167_3 := cel HB.out hx167_3
              replace hx167_4 := cel HB.out hx167_4
              replace p167 := eq_true p167
              replace q167 := eq_true q167
              have HR168 := A_ (show Kd.C k89 w (some (Addr.add ad167 (x160001_1.toNat * 5))) [rd_T89 ((rd_T34 l1 0).f0) x160001_1].length [rd_T89 ((rd_T34 l1 0).f0) x160001_1] from Kd.C_el k89 z89 HR166_0.out (x160001_1 : Int) (of_eq_true p167) (of_eq_true q167))
              refine start_ (n := 8) (S := fun w' => w'.cell? ⟨gb159, 0, none⟩ = some (.int .i16 x160000_1) ∧ w'.cell? ⟨gb159, 1, none⟩ = some (.int .i16 x160001_1) ∧ w'.cell? ad162 = some (.slice (some ad167) ((rd_T34 l1 0).f0).length c166_0) ∧ w'.cell? (ad167.add ((x160001_1).toNat * 5)) = some (.int .i8 ((rd_T89 ((rd_T34 l1 0).f0) x160001_1).f0)) ∧ w'.cell? ⟨(ad167.add ((x160001_1).toNat * 5)).block, (ad167.add ((x160001_1).toNat * 5)).off + 1, none⟩ = some (.int .i8 ((rd_T89 ((rd_T34 l1 0).f0) x160001_1).f1)) ∧ w'.cell? ⟨(ad167.add ((x160001_1).toNat * 5)).block, (ad167.add ((x160001_1).toNat * 5)).off + 2, none⟩ = some (.int .i16 ((rd_T89 ((rd_T34 l1 0).f0) x160001_1).f2.f0)) ∧ w'.cell? ⟨(ad167.add ((x160001_1).toNat * 5)).block, (ad167.add ((x160001_1).toNat * 5)).off + 3, none⟩ = some (.int .i16 ((rd_T89 ((rd_T34 l1 0).f0) x160001_1).f2.f1)) ∧ w'.cell? ⟨(ad167.add ((x160001_1).toNat * 5)).block, (ad167.add ((x160001_1).toNat * 5)).off + 4, none⟩ = some (.int .i16 ((rd_T89 ((rd_T34 l1 0).f0) x160001_1).f2.f2))) (ds := []) #[false, false, false, false, false, false, false, false] (by kernel_rfl) rfl rfl ⟨(blk_cell BK159.out 0).trans rfl, (blk_cell BK159.out 1).trans rfl, (cel HB.out hw166_0), (cel HB.out hw167_0), (cel HB.out hw167_1), (cel HB.out hw167_2), (cel HB.out hw167_3), (cel HB.out hw167_4)⟩ (fun hHeld => ?_); refine with_tabW spec_l06Loud.tab5 spec_l06Loud.bits5 (fun HT_ HW_ => ?_)
              generalize w24.drew = w25 at BK159 BK160 HB HR166_0 HR168 hx166_0 hx167_0 hx167_1 hx167_2 hx167_3 hx167_4 hHeld ⊢
              refine pure_ (i := 0) (N := some 33) (v := ?_) (a' := ?_) #[true, false, false, false, false, false, false, false] rfl rfl (any_of HT_.out (by kernel_rfl)) (fun _ _ _ h => h) (Or.inl ⟨by rfl, ?_⟩) ?_ ?_
              rotate_left
              ·
               intro w'
               go_simp
               with_reducible rfl
              rotate_left
              ·
               simp only [Act.put, sA_, sB_, sC_, i64_w, i32_w]
               rfl
              refine pure_ (i := 1) (N := some 34) (v := ?_) (a' := ?_) #[true, true, false, false, false, false, false, false] rfl rfl (any_of HT_.out (by kernel_rfl)) (fun _ _ _ h => h) (Or.inl ⟨by rfl, ?_⟩) ?_ ?_
              rotate_left
              ·
               intro w'
               go_simp
               with_reducible rfl
              rotate_left
              ·
               simp only [Act.put, sA_, sB_, sC_, i64_w, i32_w]
               rfl
              refine pure_ (i := 2) (N := some 35) (v := ?_) (a' := ?_) #[true, true, true, false, false, false, false, false] rfl rfl (any_of HT_.out (by kernel_rfl)) (fun _ _ _ h => h) (Or.inl ⟨by rfl, ?_⟩) ?_ ?_
              rotate_left
              ·
               intro w'
               go_simp
               with_reducible rfl
              rotate_left
              ·
               simp only [Act.put, sA_, sB_, sC_, i64_w, i32_w]
               rfl
              refine pure_ (i := 4) (N := some 37) (v := ?_) (a' := ?_) #[true, true, true, false, true, false, false, false] rfl rfl (any_of HT_.out (by kernel_rfl)) (fun _ _ _ h => h) (Or.inl ⟨by rfl, ?_⟩) ?_ ?_
              rotate_left
              ·
               intro w'
               go_simp
               with_reducible rfl
              rotate_left
              ·
               simp only [Act.put, sA_, sB_, sC_, i64_w, i32_w]
               rfl
              refine take_ (i := 3) (N := some 36) (v := ?_) (a' := ?_) #[true, true, true, true, true, false, false, false] rfl rfl (take_ofW HT_.out HW_.out (by kernel_rfl)) (fun _ _ _ h => h) (Or.inl ⟨by rfl, ?_⟩) hHeld ?_ ?_
              rotate_left
              ·
               rintro w' ⟨s0, s1, s2, s3, s4, s5, s6, s7⟩
               go_simp
               with_reducible rfl
              rotate_left
              ·
               simp only [Act.put, sA_, sB_, sC_, i64_w, i32_w]
               rfl
              refine take_ (i := 5) (N := some 38) (v := ?_) (a' := ?_) #[true, true, true, true, true, true, false, false] rfl rfl (take_ofW HT_.out HW_.out (by kernel_rfl)) (fun _ _ _ h => h) (Or.inl ⟨by rfl, ?_⟩) hHeld ?_ ?_
              rotate_left
              ·
               rintro w' ⟨s0, s1, s2, s3, s4, s5, s6, s7⟩
               go_simp
               with_reducible rfl
              rotate_left
              ·
               simp only [Act.put, sA_, sB_, sC_, i64_w, i32_w]
               rfl
              refine pure_ (i := 6) (N := some 39) (v := ?_) (a' := ?_) #[true, true, true, true, true, true, true, false] rfl rfl (any_of HT_.out (by kernel_rfl)) (fun _ _ _ h => h) (Or.inl ⟨by rfl, ?_⟩) ?_ ?_
              rotate_left
              ·
               intro w'
               go_simp
               with_reducible rfl
              rotate_left
              ·
               simp only [Act.put, sA_, sB_, sC_, i64_w, i32_w]
               rfl
              refine pure_ (i := 7) (N := some 10) (v := ?_) (a' := ?_) #[true, true, true, true, true, true, true, true] rfl rfl (any_of HT_.out (by kernel_rfl)) (fun _ _ _ h => h) (Or.inl ⟨by rfl, ?_⟩) ?_ ?_
              rotate_left
              ·
               intro w'
               go_simp
               with_reducible rfl
              rotate_left
              ·
               simp only [Act.put, sA_, sB_, sC_, i64_w, i32_w]
               rfl
              refine done_ (done_of HT_.out (by kernel_rfl)) ?_
              have q169 : 0 < ([rd_T89 ((rd_T34 l0 0).f0) x160000_1].length : Int) := of_decide_eq_true (by assumption)
              obtain ⟨ad169, e169, hx169_0, hx169_1, hx169_2, hx169_3, hx169_4⟩ := rp_T89 HR165.out q169
              (try simp only [rd1_T89] at hx169_0 hx169_1 hx169_2 hx169_3 hx169_4)
              obtain rfl : (Addr.add ad164 (x160000_1.toNat * 5)) = ad169 := (by injection e169)
              replace hx169_0 := cel HB.out hx169_0
              replace hx169_1 := cel HB.out hx169_1
              replace hx169_2 := cel HB.out hx169_2
              replace hx169_3 := cel HB.out hx169_3
              replace hx169_4 := cel HB.out hx169_4
              have q170 : 0 < ([rd_T89 ((rd_T34 l1 0).f0) x160001_1].length : Int) := of_decide_eq_true (by assumption)
              obtain ⟨ad170, e170, hx170_0, hx170_1, hx170_2, hx170_3, hx170_4⟩ := rp_T89 HR168.out q170
              (try simp only [rd1_T89] at hx170_0 hx170_1 hx170_2 hx170_3 hx170_4)
              obtain rfl : (Addr.add ad167 (x160001_1.toNat * 5)) = ad170 := (by injection e170)
              replace hx170_0 := cel HB.out hx170_0
              replace hx170_1 := cel HB.out hx170_1
              replace hx170_2 := cel HB.out hx170_2
              replace hx170_3 := cel HB.out hx170_3
              replace hx170_4 := cel HB.out hx170_4
              have hnb26 := NB159_160.out
              have hnc26 := NB160_159.out
              obtain ⟨hcz27_0, hcz27_1⟩ := bc2 BK159.out
              obtain ⟨hfz27_0, hfz27_1⟩ := bf2 BK159.out
              obtain ⟨hcz28_0, hcz28_1⟩ := bc2 BK160.out
              obtain ⟨hfz28_0, hfz28_1⟩ := bf2 BK160.out
              try go_wp2
              refine bodyPost_ret (results_ct rfl _ _ gb160 98 #[.int .i16 x160000_1, .int .i16 x160001_1] (0, 0) _ rfl z3_1_ Try.underlying98 rfl (by kernel_rfl)) rfl ?_
              exact ⟨z3_16_, z3_2_⟩
             ·
              rw [if_neg c22] at H
              have c22b0 : (((rd_T89 ((rd_T34 l1 0).f0) x160001_1).f0) == 1) = false := beq_eq_false_iff_ne.mpr c22
              have c22b1 : (((rd_T89 ((rd_T34 l1 0).f0) x160001_1).f0) != 1) = true := bne_iff_ne.mpr c22
              obtain ⟨ji29, hji29⟩ : ∃ j_ : Int, (IntKind.i8.wrap (((rd_T89 ((rd_T34 l1 0).f0) x160001_1).f1) + 1)) = j_ := ⟨_, rfl⟩
              replace H : (if 0 ≤ (ji29) then (if (ji29) < 3 then (spec_l06Loud.l0 k1 l0 l1 (wrap64 (x8_1 + 1)) (rd [(rd_T89 ((rd_T34 l0 0).f0) x160000_1).f2.f0, (rd_T89 ((rd_T34 l0 0).f0) x160000_1).f2.f1, (rd_T89 ((rd_T34 l0 0).f0) x160000_1).f2.f2] (ji29)) ((rd_T89 ((rd_T34 l1 0).f0) x160001_1).f2.f0)) else (none)) else (none)) = some (r1, r2, r3) := by first | (rw [hji29] at H; exact H) | (simp only [hji29] at H ⊢; exact H)
              by_cases c30 : 0 ≤ (ji29)
              ·
               rw [if_pos c30] at H
               have c30b0 := decide_eq_true c30
               clear c30
               by_cases c31 : (ji29) < 3
               ·
                rw [if_pos c31] at H
                have c31b0 := decide_eq_true c31
                clear c31
                have H' := A_ H
                clear H
                try go_wp2
                have _ := A_ (blk_drew BK159.out)
                have _ := A_ (blk_drew BK160.out)
                have _ := A_ (below_drew1 HB.out)
                clear BK159 BK160 HB
                rename_i BK159 BK160 HB
                have q161 : 0 < (l0.length : Int) := of_decide_eq_true (by assumption)
                obtain ⟨ad161, A161_0, c161_0, e161, hx161_0, hl161_0, hi161_0⟩ := rp_T34 HR0.out q161
                have hw161_0 := hx161_0
                cases e161
                replace hx161_0 := cel HB.out hx161_0
                have HR161_0 := A_ hi161_0
                have HC161_0 := A_ hl161_0
                clear hi161_0 hl161_0
                have q162 : 0 < (l1.length : Int) := of_decide_eq_true (by assumption)
                obtain ⟨ad162, A162_0, c162_0, e162, hx162_0, hl162_0, hi162_0⟩ := rp_T34 HR1.out q162
                have hw162_0 := hx162_0
                cases e162
                replace hx162_0 := cel HB.out hx162_0
                have HR162_0 := A_ hi162_0
                have HC162_0 := A_ hl162_0
                clear hi162_0 hl162_0
                refine start_ (n := 13) (S := fun w' => w'.cell? ad161 = some (.slice A161_0 ((rd_T34 l0 0).f0).length c161_0) ∧ w'.cell? ad162 = some (.slice A162_0 ((rd_T34 l1 0).f0).length c162_0)) (ds := []) #[false, false, false, false, false, false, false, false, false, false, false, false, false] (by kernel_rfl) rfl rfl ⟨(cel HB.out hw161_0), (cel HB.out hw162_0)⟩ (fun hHeld => ?_); refine with_tabW spec_l06Loud.tab2 spec_l06Loud.bits2 (fun HT_ HW_ => ?_)
                generalize wr.drew = w32 at BK159 BK160 HB HR161_0 HR162_0 hx161_0 hx162_0 hHeld ⊢
                refine pure_ (i := 0) (N := some 11) (v := ?_) (a' := ?_) #[true, false, false, false, false, false, false, false, false, false, false, false, false] rfl rfl (any_of HT_.out (by kernel_rfl)) (fun _ _ _ h => h) (Or.inl ⟨by rfl, ?_⟩) ?_ ?_
                rotate_left
                ·
                 intro w'
                 go_simp
                 with_reducible rfl
                rotate_left
                ·
                 simp only [Act.put, sA_, sB_, sC_, i64_w, i32_w]
                 rfl
                refine pure_ (i := 1) (N := some 12) (v := ?_) (a' := ?_) #[true, true, false, false, false, false, false, false, false, false, false, false, false] rfl rfl (any_of HT_.out (by kernel_rfl)) (fun _ _ _ h => h) (Or.inl ⟨by rfl, ?_⟩) ?_ ?_
                rotate_left
                ·
                 intro w'
                 go_simp
                 with_reducible rfl
                rotate_left
                ·
                 simp only [Act.put, sA_, sB_, sC_, i64_w, i32_w]
                 rfl
                refine pure_ (i := 2) (N := some 13) (v := ?_) (a' := ?_) #[true, true, true, false, false, false, false, false, false, false, false, false, false] rfl rfl (any_of HT_.out (by kernel_rfl)) (fun _ _ _ h => h) (Or.inl ⟨by rfl, ?_⟩) ?_ ?_
                rotate_left
                ·
                 intro w'
                 go_simp
                 with_reducible rfl
                rotate_left
                ·
                 simp only [Act.put, sA_, sB_, sC_, i64_w, i32_w]
                 rfl
                refine pure_ (i := 3) (N := some 14) (v := ?_) (a' := ?_) #[true, true, true, true, false, false, false, false, false, false, false, false, false] rfl rfl (any_of HT_.out (by kernel_rfl)) (fun _ _ _ h => h) (Or.inl ⟨by rfl, ?_⟩) ?_ ?_
                rotate_left
                ·
                 intro w'
                 go_simp
                 with_reducible rfl
                rotate_left
                ·
                 simp only [Act.put, sA_, sB_, sC_, i64_w, i32_w]
                 rfl
                refine pure_ (i := 6) (N := some 17) (v := ?_) (a' := ?_) #[true, true, true, true, false, false, true, false, false, false, false, false, false] rfl rfl (any_of HT_.out (by kernel_rfl)) (fun _ _ _ h => h) (Or.inl ⟨by rfl, ?_⟩) ?_ ?_
                rotate_left
                ·
                 intro w'
                 go_simp
                 with_reducible rfl
                rotate_left
                ·
                 simp only [Act.put, sA_, sB_, sC_, i64_w, i32_w]
                 rfl
                refine pure_ (i := 7) (N := some 18) (v := ?_) (a' := ?_) #[true, true, true, true, false, false, true, true, false, false, false, false, false] rfl rfl (any_of HT_.out (by kernel_rfl)) (fun _ _ _ h => h) (Or.inl ⟨by rfl, ?_⟩) ?_ ?_
                rotate_left
                ·
                 intro w'
                 go_simp
                 with_reducible rfl
                rotate_left
                ·
                 simp only [Act.put, sA_, sB_, sC_, i64_w, i32_w]
                 rfl
                refine pure_ (i := 8) (N := some 19) (v := ?_) (a' := ?_) #[true, true, true, true, false, false, true, true, true, false, false, false, false] rfl rfl (any_of HT_.out (by kernel_rfl)) (fun _ _ _ h => h) (Or.inl ⟨by rfl, ?_⟩) ?_ ?_
                rotate_left
                ·
                 intro w'
                 go_simp
                 with_reducible rfl
                rotate_left
                ·
                 simp only [Act.put, sA_, sB_, sC_, i64_w, i32_w]
                 rfl
                refine take_ (i := 4) (N := some 15) (v := ?_) (a' := ?_) #[true, true, true, true, true, false, true, true, true, false, false, false, false] rfl rfl (take_ofW HT_.out HW_.out (by kernel_rfl)) (fun _ _ _ h => h) (Or.inl ⟨by rfl, ?_⟩) hHeld ?_ ?_
                rotate_left
                ·
                 rintro w' ⟨s0, s1⟩
                 go_simp
                 with_reducible rfl
                rotate_left
                ·
                 simp only [Act.put, sA_, sB_, sC_, i64_w, i32_w]
                 rfl
                refine pure_ (i := 5) (N := some 16) (v := ?_) (a' := ?_) #[true, true, true, true, true, true, true, true, true, false, false, false, false] rfl rfl (any_of HT_.out (by kernel_rfl)) (fun _ _ _ h => h) (Or.inl ⟨by rfl, ?_⟩) ?_ ?_
                rotate_left
                ·
                 intro w'
                 go_simp
                 with_reducible rfl
                rotate_left
                ·
                 simp only [Act.put, sA_, sB_, sC_, i64_w, i32_w]
                 rfl
                refine take_ (i := 9) (N := some 20) (v := ?_) (a' := ?_) #[true, true, true, true, true, true, true, true, true, true, false, false, false] rfl rfl (take_ofW HT_.out HW_.out (by kernel_rfl)) (fun _ _ _ h => h) (Or.inl ⟨by rfl, ?_⟩) hHeld ?_ ?_
                rotate_left
                ·
                 rintro w' ⟨s0, s1⟩
                 go_simp
                 with_reducible rfl
                rotate_left
                ·
                 simp only [Act.put, sA_, sB_, sC_, i64_w, i32_w]
                 rfl
                refine pure_ (i := 10) (N := some 21) (v := ?_) (a' := ?_) #[true, true, true, true, true, true, true, true, true, true, true, false, false] rfl rfl (any_of HT_.out (by kernel_rfl)) (fun _ _ _ h => h) (Or.inl ⟨by rfl, ?_⟩) ?_ ?_
                rotate_left
                ·
                 intro w'
                 go_simp
                 with_reducible rfl
                rotate_left
                ·
                 simp only [Act.put, sA_, sB_, sC_, i64_w, i32_w]
                 rfl
                refine pure_ (i := 11) (N := some 22) (v := ?_) (a' := ?_) #[true, true, true, true, true, true, true, true, true, true, true, true, false] rfl rfl (any_of HT_.out (by kernel_rfl)) (fun _ _ _ h => h) (Or.inl ⟨by rfl, ?_⟩) ?_ ?_
                rotate_left
                ·
                 intro w'
                 go_simp
                 with_reducible rfl
                rotate_left
                ·
                 simp only [Act.put, sA_, sB_, sC_, i64_w, i32_w]
                 rfl
                refine pure_ (i := 12) (N := some 23) (v := ?_) (a' := ?_) #[true, true, true, true, true, true, true, true, true, true, true, true, true] rfl rfl (any_of HT_.out (by kernel_rfl)) (fun _ _ _ h => h) (Or.inl ⟨by rfl, ?_⟩) ?_ ?_
                rotate_left
                ·
                 intro w'
                 go_simp
                 with_reducible rfl
                rotate_left
                ·
                 simp only [Act.put, sA_, sB_, sC_, i64_w, i32_w]
                 rfl
                refine done_ (done_of HT_.out (by kernel_rfl)) ?_
                try go_wp2
                have _ := A_ (blk_drew BK159.out)
                have _ := A_ (blk_drew BK160.out)
                have _ := A_ (below_drew1 HB.out)
                clear BK159 BK160 HB
                rename_i BK159 BK160 HB
                have q163 : 0 < (l0.length : Int) := of_decide_eq_true (by assumption)
                obtain ⟨ad163, A163_0, c163_0, e163, hx163_0, hl163_0, hi163_0⟩ := rp_T34 HR0.out q163
                have hw163_0 := hx163_0
                obtain rfl : ad161 = ad163 := (by injection e163)
                replace hx163_0 := cel HB.out hx163_0
                have HR163_0 := A_ hi163_0
                have HC163_0 := A_ hl163_0
                clear hi163_0 hl163_0
                have p164 : 0 ≤ (x160000_1 : Int) := of_decide_eq_true (by assumption)
                have q164 : x160000_1 < (((rd_T34 l0 0).f0).length : Int) := of_decide_eq_true (by assumption)
                obtain ⟨ad164, e164, hx164_0, hx164_1, hx164_2, hx164_3, hx164_4⟩ := at_T89 HR163_0.out x160000_1 p164 q164
                have hw164_4 := hx164_4
                have hw164_3 := hx164_3
                have hw164_2 := hx164_2
                have hw164_1 := hx164_1
                have hw164_0 := hx164_0
                cases e164
                replace hx164_0 := cel HB.out hx164_0
                replace hx164_1 := cel HB.out hx164_1
                replace hx164_2 := cel HB.out hx164_2
                replace hx164_3 := cel HB.out hx164_3
                replace hx164_4 := cel HB.out hx164_4
                replace p164 := eq_true p164
                replace q164 := eq_true q164
                have HR165 := A_ (show Kd.C k89 w (some (Addr.add ad164 (x160000_1.toNat * 5))) [rd_T89 ((rd_T34 l0 0).f0) x160000_1].length [rd_T89 ((rd_T34 l0 0).f0) x160000_1] from Kd.C_el k89 z89 HR163_0.out (x160000_1 : Int) (of_eq_true p164) (of_eq_true q164))
                refine start_ (n := 8) (S := fun w' => w'.cell? ⟨gb159, 0, none⟩ = some (.int .i16 x160000_1) ∧ w'.cell? ⟨gb159, 1, none⟩ = some (.int .i16 x160001_1) ∧ w'.cell? ad161 = some (.slice (some ad164) ((rd_T34 l0 0).f0).length c163_0) ∧ w'.cell? (ad164.add ((x160000_1).toNat * 5)) = some (.int .i8 ((rd_T89 ((rd_T34 l0 0).f0) x160000_1).f0)) ∧ w'.cell? ⟨(ad164.add ((x160000_1).toNat * 5)).block, (ad164.add ((x160000_1).toNat * 5)).off + 1, none⟩ = some (.int .i8 ((rd_T89 ((rd_T34 l0 0).f0) x160000_1).f1)) ∧ w'.cell? ⟨(ad164.add ((x160000_1).toNat * 5)).block, (ad164.add ((x160000_1).toNat * 5)).off + 2, none⟩ = some (.int .i16 ((rd_T89 ((rd_T34 l0 0).f0) x160000_1).f2.f0)) ∧ w'.cell? ⟨(ad164.add ((x160000_1).toNat * 5)).block, (ad164.add ((x160000_1).toNat * 5)).off + 3, none⟩ = some (.int .i16 ((rd_T89 ((rd_T34 l0 0).f0) x160000_1).f2.f1)) ∧ w'.cell? ⟨(ad164.add ((x160000_1).toNat * 5)).block, (ad164.add ((x160000_1).toNat * 5)).off + 4, none⟩ = some (.int .i16 ((rd_T89 ((rd_T34 l0 0).f0) x160000_1).f2.f2))) (ds := []) #[false, false, false, false, false, false, false, false] (by kernel_rfl) rfl rfl ⟨(blk_cell BK159.out 0).trans rfl, (blk_cell BK159.out 1).trans rfl, (cel HB.out hw163_0), (cel HB.out hw164_0), (cel HB.out hw164_1), (cel HB.out hw164_2), (cel HB.out hw164_3), (cel HB.out hw164_4)⟩ (fun hHeld => ?_); refine with_tabW spec_l06Loud.tab4 spec_l06Loud.bits4 (fun HT_ HW_ => ?_)
                generalize w32.drew = w33 at BK159 BK160 HB HR163_0 HR165 hx163_0 hx164_0 hx164_1 hx164_2 hx164_3 hx164_4 hHeld ⊢
                refine pure_ (i := 0) (N := some 26) (v := ?_) (a' := ?_) #[true, false, false, false, false, false, false, false] rfl rfl (any_of HT_.out (by kernel_rfl)) (fun _ _ _ h => h) (Or.inl ⟨by rfl, ?_⟩) ?_ ?_
                rotate_left
                ·
                 intro w'
                 go_simp
                 with_reducible rfl
                rotate_left
                ·
                 simp only [Act.put, sA_, sB_, sC_, i64_w, i32_w]
                 rfl
                refine pure_ (i := 1) (N := some 27) (v := ?_) (a' := ?_) #[true, true, false, false, false, false, false, false] rfl rfl (any_of HT_.out (by kernel_rfl)) (fun _ _ _ h => h) (Or.inl ⟨by rfl, ?_⟩) ?_ ?_
                rotate_left
                ·
                 intro w'
                 go_simp
                 with_reducible rfl
                rotate_left
                ·
                 simp only [Act.put, sA_, sB_, sC_, i64_w, i32_w]
                 rfl
                refine pure_ (i := 2) (N := some 28) (v := ?_) (a' := ?_) #[true, true, true, false, false, false, false, false] rfl rfl (any_of HT_.out (by kernel_rfl)) (fun _ _ _ h => h) (Or.inl ⟨by rfl, ?_⟩) ?_ ?_
                rotate_left
                ·
                 intro w'
                 go_simp
                 with_reducible rfl
                rotate_left
                ·
                 simp only [Act.put, sA_, sB_, sC_, i64_w, i32_w]
                 rfl
                refine pure_ (i := 4) (N := some 30) (v := ?_) (a' := ?_) #[true, true, true, false, true, false, false, false] rfl rfl (any_of HT_.out (by kernel_rfl)) (fun _ _ _ h => h) (Or.inl ⟨by rfl, ?_⟩) ?_ ?_
                rotate_left
                ·
                 intro w'
                 go_simp
                 with_reducible rfl
                rotate_left
                ·
                 simp only [Act.put, sA_, sB_, sC_, i64_w, i32_w]
                 rfl
                refine take_ (i := 3) (N := some 29) (v := ?_) (a' := ?_) #[true, true, true, true, true, false, false, false] rfl rfl (take_ofW HT_.out HW_.out (by kernel_rfl)) (fun _ _ _ h => h) (Or.inl ⟨by rfl, ?_⟩) hHeld ?_ ?_
                rotate_left
                ·
                 rintro w' ⟨s0, s1, s2, s3, s4, s5, s6, s7⟩
                 go_simp
                 with_reducible rfl
                rotate_left
                ·
                 simp only [Act.put, sA_, sB_, sC_, i64_w, i32_w]
                 rfl
                refine take_ (i := 5) (N := some 31) (v := ?_) (a' := ?_) #[true, true, true, true, true, true, false, false] rfl rfl (take_ofW HT_.out HW_.out (by kernel_rfl)) (fun _ _ _ h => h) (Or.inl ⟨by rfl, ?_⟩) hHeld ?_ ?_
                rotate_left
                ·
                 rintro w' ⟨s0, s1, s2, s3, s4, s5, s6, s7⟩
                 go_simp
                 with_reducible rfl
                rotate_left
                ·
                 simp only [Act.put, sA_, sB_, sC_, i64_w, i32_w]
                 rfl
                refine pure_ (i := 6) (N := some 32) (v := ?_) (a' := ?_) #[true, true, true, true, true, true, true, false] rfl rfl (any_of HT_.out (by kernel_rfl)) (fun _ _ _ h => h) (Or.inl ⟨by rfl, ?_⟩) ?_ ?_
                rotate_left
                ·
                 intro w'
                 go_simp
                 with_reducible rfl
                rotate_left
                ·
                 simp only [Act.put, sA_, sB_, sC_, i64_w, i32_w]
                 rfl
                refine pure_ (i := 7) (N := some 9) (v := ?_) (a' := ?_) #[true, true, true, true, true, true, true, true] rfl rfl (any_of HT_.out (by kernel_rfl)) (fun _ _ _ h => h) (Or.inl ⟨by rfl, ?_⟩) ?_ ?_
                rotate_left
                ·
                 intro w'
                 go_simp
                 with_reducible rfl
                rotate_left
                ·
                 simp only [Act.put, sA_, sB_, sC_, i64_w, i32_w]
                 rfl
                refine done_ (done_of HT_.out (by kernel_rfl)) ?_
                try go_wp2
                have _ := A_ (blk_drew BK159.out)
                have _ := A_ (blk_drew BK160.out)
                have _ := A_ (below_drew1 HB.out)
                clear BK159 BK160 HB
                rename_i BK159 BK160 HB
                have q166 : 0 < (l1.length : Int) := of_decide_eq_true (by assumption)
                obtain ⟨ad166, A166_0, c166_0, e166, hx166_0, hl166_0, hi166_0⟩ := rp_T34 HR1.out q166
                have hw166_0 := hx166_0
                obtain rfl : ad162 = ad166 := (by injection e166)
                replace hx166_0 := cel HB.out hx166_0
                have HR166_0 := A_ hi166_0
                have HC166_0 := A_ hl166_0
                clear hi166_0 hl166_0
                have p167 : 0 ≤ (x160001_1 : Int) := of_decide_eq_true (by assumption)
                have q167 : x160001_1 < (((rd_T34 l1 0).f0).length : Int) := of_decide_eq_true (by assumption)
                obtain ⟨ad167, e167, hx167_0, hx167_1, hx167_2, hx167_3, hx167_4⟩ := at_T89 HR166_0.out x160001_1 p167 q167
                have hw167_4 := hx167_4
                have hw167_3 := hx167_3
                have hw167_2 := hx167_2
                have hw167_1 := hx167_1
                have hw167_0 := hx167_0
                cases e167
                replace hx167_0 := cel HB.out hx167_0
                replace hx167_1 := cel HB.out hx167_1
                replace hx167_2 := cel HB.out hx167_2
                replace hx167_3 := cel HB.out hx167_3
                replace hx167_4 := cel HB.out hx167_4
                replace p167 := eq_true p167
                replace q167 := eq_true q167
                have HR168 := A_ (show Kd.C k89 w (some (Addr.add ad167 (x160001_1.toNat * 5))) [rd_T89 ((rd_T34 l1 0).f0) x160001_1].length [rd_T89 ((rd_T34 l1 0).f0) x160001_1] from Kd.C_el k89 z89 HR166_0.out (x160001_1 : Int) (of_eq_true p167) (of_eq_true q167))
                refine start_ (n := 8) (S := fun w' => w'.cell? ⟨gb159, 0, none⟩ = some (.int .i16 x160000_1) ∧ w'.cell? ⟨gb159, 1, none⟩ = some (.int .i16 x160001_1) ∧ w'.cell? ad162 = some (.slice (some ad167) ((rd_T34 l1 0).f0).length c166_0) ∧ w'.cell? (ad167.add ((x160001_1).toNat * 5)) = some (.int .i8 ((rd_T89 ((rd_T34 l1 0).f0) x160001_1).f0)) ∧ w'.cell? ⟨(ad167.add ((x160001_1).toNat * 5)).block, (ad167.add ((x160001_1).toNat * 5)).off + 1, none⟩ = some (.int .i8 ((rd_T89 ((rd_T34 l1 0).f0) x160001_1).f1)) ∧ w'.cell? ⟨(ad167.add ((x160001_1).toNat * 5)).block, (ad167.add ((x160001_1).toNat * 5)).off + 2, none⟩ = some (.int .i16 ((rd_T89 ((rd_T34 l1 0).f0) x160001_1).f2.f0)) ∧ w'.cell? ⟨(ad167.add ((x160001_1).toNat * 5)).block, (ad167.add ((x160001_1).toNat * 5)).off + 3, none⟩ = some (.int .i16 ((rd_T89 ((rd_T34 l1 0).f0) x160001_1).f2.f1)) ∧ w'.cell? ⟨(ad167.add ((x160001_1).toNat * 5)).block, (ad167.add ((x160001_1).toNat * 5)).off + 4, none⟩ = some (.int .i16 ((rd_T89 ((rd_T34 l1 0).f0) x160001_1).f2.f2))) (ds := []) #[false, false, false, false, false, false, false, false] (by kernel_rfl) rfl rfl ⟨(blk_cell BK159.out 0).trans rfl, (blk_cell BK159.out 1).trans rfl, (cel HB.out hw166_0), (cel HB.out hw167_0), (cel HB.out hw167_1), (cel HB.out hw167_2), (cel HB.out hw167_3), (cel HB.out hw167_4)⟩ (fun hHeld => ?_); refine with_tabW spec_l06Loud.tab5 spec_l06Loud.bits5 (fun HT_ HW_ => ?_)
                generalize w33.drew = w34 at BK159 BK160 HB HR166_0 HR168 hx166_0 hx167_0 hx167_1 hx167_2 hx167_3 hx167_4 hHeld ⊢
                refine pure_ (i := 0) (N := some 33) (v := ?_) (a' := ?_) #[true, false, false, false, false, false, false, false] rfl rfl (any_of HT_.out (by kernel_rfl)) (fun _ _ _ h => h) (Or.inl ⟨by rfl, ?_⟩) ?_ ?_
                rotate_left
                ·
                 intro w'
                 go_simp
                 with_reducible rfl
                rotate_left
                ·
                 simp only [Act.put, sA_, sB_, sC_, i64_w, i32_w]
                 rfl
                refine pure_ (i := 1) (N := some 34) (v := ?_) (a' := ?_) #[true, true, false, false, false, false, false, false] rfl rfl (any_of HT_.out (by kernel_rfl)) (fun _ _ _ h => h) (Or.inl ⟨by rfl, ?_⟩) ?_ ?_
                rotate_left
                ·
                 intro w'
                 go_simp
                 with_reducible rfl
                rotate_left
                ·
                 simp only [Act.put, sA_, sB_, sC_, i64_w, i32_w]
                 rfl
                refine pure_ (i := 2) (N := some 35) (v := ?_) (a' := ?_) #[true, true, true, false, false, false, false, false] rfl rfl (any_of HT_.out (by kernel_rfl)) (fun _ _ _ h => h) (Or.inl ⟨by rfl, ?_⟩) ?_ ?_
                rotate_left
                ·
                 intro w'
                 go_simp
                 with_reducible rfl
                rotate_left
                ·
                 simp only [Act.put, sA_, sB_, sC_, i64_w, i32_w]
                 rfl
                refine pure_ (i := 4) (N := some 37) (v := ?_) (a' := ?_) #[true, true, true, false, true, false, false, false] rfl rfl (any_of HT_.out (by kernel_rfl)) (fun _ _ _ h => h) (Or.inl ⟨by rfl, ?_⟩) ?_ ?_
                rotate_left
                ·
                 intro w'
                 go_simp
                 with_reducible rfl
                rotate_left
                ·
                 simp only [Act.put, sA_, sB_, sC_, i64_w, i32_w]
                 rfl
                refine take_ (i := 3) (N := some 36) (v := ?_) (a' := ?_) #[true, true, true, true, true, false, false, false] rfl rfl (take_ofW HT_.out HW_.out (by kernel_rfl)) (fun _ _ _ h => h) (Or.inl ⟨by rfl, ?_⟩) hHeld ?_ ?_
                rotate_left
                ·
                 rintro w' ⟨s0, s1, s2, s3, s4, s5, s6, s7⟩
                 go_simp
                 with_reducible rfl
                rotate_left
                ·
                 simp only [Act.put, sA_, sB_, sC_, i64_w, i32_w]
                 rfl
                refine take_ (i := 5) (N := some 38) (v := ?_) (a' := ?_) #[true, true, true, true, true, true, false, false] rfl rfl (take_ofW HT_.out HW_.out (by kernel_rfl)) (fun _ _ _ h => h) (Or.inl ⟨by rfl, ?_⟩) hHeld ?_ ?_
                rotate_left
                ·
                 rintro w' ⟨s0, s1, s2, s3, s4, s5, s6, s7⟩
                 go_simp
                 with_reducible rfl
                rotate_left
                ·
                 simp only [Act.put, sA_, sB_, sC_, i64_w, i32_w]
                 rfl
                refine pure_ (i := 6) (N := some 39) (v := ?_) (a' := ?_) #[true, true, true, true, true, true, true, false] rfl rfl (any_of HT_.out (by kernel_rfl)) (fun _ _ _ h => h) (Or.inl ⟨by rfl, ?_⟩) ?_ ?_
                rotate_left
                ·
                 intro w'
                 go_simp
                 with_reducible rfl
                rotate_left
                ·
                 simp only [Act.put, sA_, sB_, sC_, i64_w, i32_w]
                 rfl
                refine pure_ (i := 7) (N := some 10) (v := ?_) (a' := ?_) #[true, true, true, true, true, true, true, true] rfl rfl (any_of HT_.out (by kernel_rfl)) (fun _ _ _ h => h) (Or.inl ⟨by rfl, ?_⟩) ?_ ?_
                rotate_left
                ·
                 intro w'
                 go_simp
                 with_reducible rfl
                rotate_left
                ·
                 simp only [Act.put, sA_, sB_, sC_, i64_w, i32_w]
                 rfl
                refine done_ (done_of HT_.out (by kernel_rfl)) ?_
                have q169 : 0 < ([rd_T89 ((rd_T34 l0 0).f0) x160000_1].length : Int) := of_decide_eq_true (by assumption)
                obtain ⟨ad169, e169, hx169_0, hx169_1, hx169_2, hx169_3, hx169_4⟩ := rp_T89 HR165.out q169
                (try simp only [rd1_T89] at hx169_0 hx169_1 hx169_2 hx169_3 hx169_4)
                obtain rfl : (Addr.add ad164 (x160000_1.toNat * 5)) = ad169 := (by injection e169)
                replace hx169_0 := cel HB.out hx169_0
                replace hx169_1 := cel HB.out hx169_1
                replace hx169_2 := cel HB.out hx169_2
                replace hx169_3 := cel HB.out hx169_3
                replace hx169_4 := cel HB.out hx169_4
                have q170 : 0 < ([rd_T89 ((rd_T34 l1 0).f0) x160001_1].length : Int) := of_decide_eq_true (by assumption)
                obtain ⟨ad170, e170, hx170_0, hx170_1, hx170_2, hx170_3, hx170_4⟩ := rp_T89 HR168.out q170
                (try simp only [rd1_T89] at hx170_0 hx170_1 hx170_2 hx170_3 hx170_4)
                obtain rfl : (Addr.add ad167 (x160001_1.toNat * 5)) = ad170 := (by injection e170)
                replace hx170_0 := cel HB.out hx170_0
                replace hx170_1 := cel HB.out hx170_1
                replace hx170_2 := cel HB.out hx170_2
                replace hx170_3 := cel HB.out hx170_3
                replace hx170_4 := cel HB.out hx170_4
                try go_wp2
                have _ := A_ (blk_drew BK159.out)
                have _ := A_ (blk_drew BK160.out)
                have _ := A_ (below_drew1 HB.out)
                clear BK159 BK160 HB
                rename_i BK159 BK160 HB
                have q171 : 0 < ([rd_T89 ((rd_T34 l1 0).f0) x160001_1].length : Int) := of_decide_eq_true (by assumption)
                obtain ⟨ad171, e171, hx171_0, hx171_1, hx171_2, hx171_3, hx171_4⟩ := rp_T89 HR168.out q171
                have hw171_4 := hx171_4
                have hw171_3 := hx171_3
                have hw171_2 := hx171_2
                have hw171_1 := hx171_1
                have hw171_0 := hx171_0
                (try simp only [rd1_T89] at hx171_0 hx171_1 hx171_2 hx171_3 hx171_4)
                obtain rfl : (Addr.add ad167 (x160001_1.toNat * 5)) = ad171 := (by injection e171)
                replace hx171_0 := cel HB.out hx171_0
                replace hx171_1 := cel HB.out hx171_1
                replace hx171_2 := cel HB.out hx171_2
                replace hx171_3 := cel HB.out hx171_3
                replace hx171_4 := cel HB.out hx171_4
                have q172 : 0 < ([rd_T89 ((rd_T34 l0 0).f0) x160000_1].length : Int) := of_decide_eq_true (by assumption)
                obtain ⟨ad172, e172, hx172_0, hx172_1, hx172_2, hx172_3, hx172_4⟩ := rp_T89 HR165.out q172
                have hw172_4 := hx172_4
                have hw172_3 := hx172_3
                have hw172_2 := hx172_2
                have hw172_1 := hx172_1
                have hw172_0 := hx172_0
                (try simp only [rd1_T89] at hx172_0 hx172_1 hx172_2 hx172_3 hx172_4)
                obtain rfl : (Addr.add ad164 (x160000_1.toNat * 5)) = ad172 := (by injection e172)
                replace hx172_0 := cel HB.out hx172_0
                replace hx172_1 := cel HB.out hx172_1
                replace hx172_2 := cel HB.out hx172_2
                replace hx172_3 := cel HB.out hx172_3
                replace hx172_4 := cel HB.out hx172_4
                have p173 : 0 ≤ ((ji29) : Int) := of_decide_eq_true (by assumption)
                have q173 : ((ji29) : Int) < 3 := of_decide_eq_true (by assumption)
                have hx173_0 := cell_arr3 hx172_2 hx172_3 hx172_4 (ji29) p173 q173
                (try simp only [Nat.zero_add, Nat.add_zero] at hx173_0)
                replace p173 := eq_true p173
                replace q173 := eq_true q173
                refine start_ (n := 17) (S := fun w' => w'.cell? (Addr.add ad167 (x160001_1.toNat * 5)) = some (.int .i8 ((rd_T89 ((rd_T34 l1 0).f0) x160001_1).f0)) ∧ w'.cell? ⟨(Addr.add ad167 (x160001_1.toNat * 5)).block, (Addr.add ad167 (x160001_1.toNat * 5)).off + 1, none⟩ = some (.int .i8 ((rd_T89 ((rd_T34 l1 0).f0) x160001_1).f1)) ∧ w'.cell? ⟨(Addr.add ad167 (x160001_1.toNat * 5)).block, (Addr.add ad167 (x160001_1.toNat * 5)).off + 2, none⟩ = some (.int .i16 ((rd_T89 ((rd_T34 l1 0).f0) x160001_1).f2.f0)) ∧ w'.cell? ⟨(Addr.add ad167 (x160001_1.toNat * 5)).block, (Addr.add ad167 (x160001_1.toNat * 5)).off + 3, none⟩ = some (.int .i16 ((rd_T89 ((rd_T34 l1 0).f0) x160001_1).f2.f1)) ∧ w'.cell? ⟨(Addr.add ad167 (x160001_1.toNat * 5)).block, (Addr.add ad167 (x160001_1.toNat * 5)).off + 4, none⟩ = some (.int .i16 ((rd_T89 ((rd_T34 l1 0).f0) x160001_1).f2.f2)) ∧ w'.cell? (Addr.add ad164 (x160000_1.toNat * 5)) = some (.int .i8 ((rd_T89 ((rd_T34 l0 0).f0) x160000_1).f0)) ∧ w'.cell? ⟨(Addr.add ad164 (x160000_1.toNat * 5)).block, (Addr.add ad164 (x160000_1.toNat * 5)).off + 1, none⟩ = some (.int .i8 ((rd_T89 ((rd_T34 l0 0).f0) x160000_1).f1)) ∧ w'.cell? ⟨(Addr.add ad164 (x160000_1.toNat * 5)).block, (Addr.add ad164 (x160000_1.toNat * 5)).off + 2, none⟩ = some (.int .i16 ((rd_T89 ((rd_T34 l0 0).f0) x160000_1).f2.f0)) ∧ w'.cell? ⟨(Addr.add ad164 (x160000_1.toNat * 5)).block, (Addr.add ad164 (x160000_1.toNat * 5)).off + 3, none⟩ = some (.int .i16 ((rd_T89 ((rd_T34 l0 0).f0) x160000_1).f2.f1)) ∧ w'.cell? ⟨(Addr.add ad164 (x160000_1.toNat * 5)).block, (Addr.add ad164 (x160000_1.toNat * 5)).off + 4, none⟩ = some (.int .i16 ((rd_T89 ((rd_T34 l0 0).f0) x160000_1).f2.f2))) (ds := []) #[false, false, false, false, false, false, false, false, false, false, false, false, false, false, false, false, false] (by kernel_rfl) rfl rfl ⟨(cel HB.out hw171_0), (cel HB.out hw171_1), (cel HB.out hw171_2), (cel HB.out hw171_3), (cel HB.out hw171_4), (cel HB.out hw172_0), (cel HB.out hw172_1), (cel HB.out hw172_2), (cel HB.out hw172_3), (cel HB.out hw172_4)⟩ (fun hHeld => ?_); refine with_tabW spec_l06Loud.tab8 spec_l06Loud.bits8 (fun HT_ HW_ => ?_)
                generalize w34.drew = w35 at BK159 BK160 HB hx171_0 hx171_1 hx171_2 hx171_3 hx171_4 hx172_0 hx172_1 hx172_2 hx172_3 hx172_4 hx173_0 hHeld ⊢
                refine pure_ (i := 0) (N := some 53) (v := ?_) (a' := ?_) #[true, false, false, false, false, false, false, false, false, false, false, false, false, false, false, false, false] rfl rfl (any_of HT_.out (by kernel_rfl)) (fun _ _ _ h => h) (Or.inl ⟨by rfl, ?_⟩) ?_ ?_
                rotate_left
                ·
                 intro w'
                 go_simp
                 with_reducible rfl
                rotate_left
                ·
                 simp only [Act.put, sA_, sB_, sC_, i64_w, i32_w]
                 rfl
                refine pure_ (i := 1) (N := some 54) (v := ?_) (a' := ?_) #[true, true, false, false, false, false, false, false, false, false, false, false, false, false, false, false, false] rfl rfl (any_of HT_.out (by kernel_rfl)) (fun _ _ _ h => h) (Or.inl ⟨by rfl, ?_⟩) ?_ ?_
                rotate_left
                ·
                 intro w'
                 go_simp
                 with_reducible rfl
                rotate_left
                ·
                 simp only [Act.put, sA_, sB_, sC_, i64_w, i32_w]
                 rfl
                refine pure_ (i := 2) (N := some 55) (v := ?_) (a' := ?_) #[true, true, true, false, false, false, false, false, false, false, false, false, false, false, false, false, false] rfl rfl (any_of HT_.out (by kernel_rfl)) (fun _ _ _ h => h) (Or.inl ⟨by rfl, ?_⟩) ?_ ?_
                rotate_left
                ·
                 intro w'
                 go_simp
                 with_reducible rfl
                rotate_left
                ·
                 simp only [Act.put, sA_, sB_, sC_, i64_w, i32_w]
                 rfl
                refine pure_ (i := 3) (N := some 56) (v := ?_) (a' := ?_) #[true, true, true, true, false, false, false, false, false, false, false, false, false, false, false, false, false] rfl rfl (any_of HT_.out (by kernel_rfl)) (fun _ _ _ h => h) (Or.inl ⟨by rfl, ?_⟩) ?_ ?_
                rotate_left
                ·
                 intro w'
                 go_simp
                 with_reducible rfl
                rotate_left
                ·
                 simp only [Act.put, sA_, sB_, sC_, i64_w, i32_w]
                 rfl
                refine pure_ (i := 6) (N := some 59) (v := ?_) (a' := ?_) #[true, true, true, true, false, false, true, false, false, false, false, false, false, false, false, false, false] rfl rfl (any_of HT_.out (by kernel_rfl)) (fun _ _ _ h => h) (Or.inl ⟨by rfl, ?_⟩) ?_ ?_
                rotate_left
                ·
                 intro w'
                 go_simp
                 with_reducible rfl
                rotate_left
                ·
                 simp only [Act.put, sA_, sB_, sC_, i64_w, i32_w]
                 rfl
                refine pure_ (i := 7) (N := some 60) (v := ?_) (a' := ?_) #[true, true, true, true, false, false, true, true, false, false, false, false, false, false, false, false, false] rfl rfl (any_of HT_.out (by kernel_rfl)) (fun _ _ _ h => h) (Or.inl ⟨by rfl, ?_⟩) ?_ ?_
                rotate_left
                ·
                 intro w'
                 go_simp
                 with_reducible rfl
                rotate_left
                ·
                 simp only [Act.put, sA_, sB_, sC_, i64_w, i32_w]
                 rfl
                refine pure_ (i := 10) (N := some 63) (v := ?_) (a' := ?_) #[true, true, true, true, false, false, true, true, false, false, true, false, false, false, false, false, false] rfl rfl (any_of HT_.out (by kernel_rfl)) (fun _ _ _ h => h) (Or.inl ⟨by rfl, ?_⟩) ?_ ?_
                rotate_left
                ·
                 intro w'
                 go_simp
                 with_reducible rfl
                rotate_left
                ·
                 simp only [Act.put, sA_, sB_, sC_, i64_w, i32_w]
                 rfl
                refine pure_ (i := 11) (N := some 64) (v := ?_) (a' := ?_) #[true, true, true, true, false, false, true, true, false, false, true, true, false, false, false, false, false] rfl rfl (any_of HT_.out (by kernel_rfl)) (fun _ _ _ h => h) (Or.inl ⟨by rfl, ?_⟩) ?_ ?_
                rotate_left
                ·
                 intro w'
                 go_simp
                 with_reducible rfl
                rotate_left
                ·
                 simp only [Act.put, sA_, sB_, sC_, i64_w, i32_w]
                 rfl
                refine pure_ (i := 12) (N := some 65) (v := ?_) (a' := ?_) #[true, true, true, true, false, false, true, true, false, false, true, true, true, false, false, false, false] rfl rfl (any_of HT_.out (by kernel_rfl)) (fun _ _ _ h => h) (Or.inl ⟨by rfl, ?_⟩) ?_ ?_
                rotate_left
                ·
                 intro w'
                 go_simp
                 with_reducible rfl
                rotate_left
                ·
                 simp only [Act.put, sA_, sB_, sC_, i64_w, i32_w]
                 rfl
                refine pure_ (i := 13) (N := some 66) (v := ?_) (a' := ?_) #[true, true, true, true, false, false, true, true, false, false, true, true, true, true, false, false, false] rfl rfl (any_of HT_.out (by kernel_rfl)) (fun _ _ _ h => h) (Or.inl ⟨by rfl, ?_⟩) ?_ ?_
                rotate_left
                ·
                 intro w'
                 go_simp
                 with_reducible rfl
                rotate_left
                ·
                 simp only [Act.put, sA_, sB_, sC_, i64_w, i32_w]
                 rfl
                refine take_ (i := 4) (N := some 57) (v := ?_) (a' := ?_) #[true, true, true, true, true, false, true, true, false, false, true, true, true, true, false, false, false] rfl rfl (take_ofW HT_.out HW_.out (by kernel_rfl)) (fun _ _ _ h => h) (Or.inl ⟨by rfl, ?_⟩) hHeld ?_ ?_
                rotate_left
                ·
                 rintro w' ⟨s0, s1, s2, s3, s4, s5, s6, s7, s8, s9⟩
                 have hz173 := cell_arr3 s7 s8 s9 (ji29) (of_eq_true p173) (of_eq_true q173)
                 go_simp
                 with_reducible rfl
                rotate_left
                ·
                 simp only [Act.put, sA_, sB_, sC_, i64_w, i32_w]
                 rfl
                refine pure_ (i := 5) (N := some 58) (v := ?_) (a' := ?_) #[true, true, true, true, true, true, true, true, false, false, true, true, true, true, false, false, false] rfl rfl (any_of HT_.out (by kernel_rfl)) (fun _ _ _ h => h) (Or.inl ⟨by rfl, ?_⟩) ?_ ?_
                rotate_left
                ·
                 intro w'
                 go_simp
                 with_reducible rfl
                rotate_left
                ·
                 simp only [Act.put, sA_, sB_, sC_, i64_w, i32_w]
                 rfl
                refine pure_ (i := 8) (N := some 61) (v := ?_) (a' := ?_) #[true, true, true, true, true, true, true, true, true, false, true, true, true, true, false, false, false] rfl rfl (any_of HT_.out (by kernel_rfl)) (fun _ _ _ h => h) (Or.inl ⟨by rfl, ?_⟩) ?_ ?_
                rotate_left
                ·
                 intro w'
                 go_simp
                 with_reducible rfl
                rotate_left
                ·
                 simp only [Act.put, sA_, sB_, sC_, i64_w, i32_w]
                 rfl
                refine take_ (i := 9) (N := some 62) (v := ?_) (a' := ?_) #[true, true, true, true, true, true, true, true, true, true, true, true, true, true, false, false, false] rfl rfl (take_ofW HT_.out HW_.out (by kernel_rfl)) (fun _ _ _ h => h) (Or.inl ⟨by rfl, ?_⟩) hHeld ?_ ?_
                rotate_left
                ·
                 rintro w' ⟨s0, s1, s2, s3, s4, s5, s6, s7, s8, s9⟩
                 have hz173 := cell_arr3 s7 s8 s9 (ji29) (of_eq_true p173) (of_eq_true q173)
                 go_simp
                 with_reducible rfl
                rotate_left
                ·
                 simp only [Act.put, sA_, sB_, sC_, i64_w, i32_w]
                 rfl
                refine take_ (i := 14) (N := some 67) (v := ?_) (a' := ?_) #[true, true, true, true, true, true, true, true, true, true, true, true, true, true, true, false, false] rfl rfl (take_ofW HT_.out HW_.out (by kernel_rfl)) (fun _ _ _ h => h) (Or.inl ⟨by rfl, ?_⟩) hHeld ?_ ?_
                rotate_left
                ·
                 rintro w' ⟨s0, s1, s2, s3, s4, s5, s6, s7, s8, s9⟩
                 have hz173 := cell_arr3 s7 s8 s9 (ji29) (of_eq_true p173) (of_eq_true q173)
                 go_simp
                 with_reducible rfl
                rotate_left
                ·
                 simp only [Act.put, sA_, sB_, sC_, i64_w, i32_w]
                 rfl
                refine pure_ (i := 15) (N := some 68) (v := ?_) (a' := ?_) #[true, true, true, true, true, true, true, true, true, true, true, true, true, true, true, true, false] rfl rfl (any_of HT_.out (by kernel_rfl)) (fun _ _ _ h => h) (Or.inl ⟨by rfl, ?_⟩) ?_ ?_
                rotate_left
                ·
                 intro w'
                 go_simp
                 with_reducible rfl
                rotate_left
                ·
                 simp only [Act.put, sA_, sB_, sC_, i64_w, i32_w]
                 rfl
                refine one_ (i := 16) (N := none) #[true, true, true, true, true, true, true, true, true, true, true, true, true, true, true, true, true] rfl rfl (one_of HT_.out (by kernel_rfl)) (by decide) (fun K hK => ?_)
                have hs36 : w35.cell? ⟨gb159, 0, none⟩ = some (.int .i16 x160000_1) := (blk_cell BK159.out 0).trans rfl
                have hfs36 := blk_frozen BK159.out 0
                have hns36_1 := NB160_159.out
                have hms36_1 := NB159_160.out
                have hs37 : w35.cell? ⟨gb159, 1, none⟩ = some (.int .i16 x160001_1) := (blk_cell BK159.out 1).trans rfl
                have hfs37 := blk_frozen BK159.out 1
                have hns37_1 := NB160_159.out
                have hms37_1 := NB159_160.out
                refine skip_ (w1 := ?_) (by rfl) rfl ?_ ?_
                rotate_left
                ·
                 go_simp
                 rfl
                refine hK.out _ _ ⟨((cell_far (p := ⟨gb159, _, none⟩) z3_12_ _).trans (((cell_far (p := ⟨gb159, _, none⟩) z3_12_ _).trans (hHeld.1)))), ((cell_far (p := ⟨gb159, _, none⟩) z3_11_ _).trans (((cell_far (p := ⟨gb159, _, none⟩) z3_11_ _).trans (hHeld.2.1)))), ((cell_far (p := ⟨gb159, _, none⟩) z3_10_ _).trans (((cell_far (p := ⟨gb159, _, none⟩) z3_10_ _).trans (hHeld.2.2.1)))), ((cell_far (p := ⟨gb159, _, none⟩) z3_9_ _).trans (((cell_far (p := ⟨gb159, _, none⟩) z3_9_ _).trans (hHeld.2.2.2.1)))), ((cell_far (p := ⟨gb159, _, none⟩) z3_8_ _).trans (((cell_far (p := ⟨gb159, _, none⟩) z3_8_ _).trans (hHeld.2.2.2.2.1)))), ((cell_far (p := ⟨gb159, _, none⟩) z3_7_ _).trans (((cell_far (p := ⟨gb159, _, none⟩) z3_7_ _).trans (hHeld.2.2.2.2.2.1)))), ((cell_far (p := ⟨gb159, _, none⟩) z3_6_ _).trans (((cell_far (p := ⟨gb159, _, none⟩) z3_6_ _).trans (hHeld.2.2.2.2.2.2.1)))), ((cell_far (p := ⟨gb159, _, none⟩) z3_5_ _).trans (((cell_far (p := ⟨gb159, _, none⟩) z3_5_ _).trans (hHeld.2.2.2.2.2.2.2.1)))), ((cell_far (p := ⟨gb159, _, none⟩) z3_4_ _).trans (((cell_far (p := ⟨gb159, _, none⟩) z3_4_ _).trans (hHeld.2.2.2.2.2.2.2.2.1)))), ((cell_far (p := ⟨gb159, _, none⟩) z3_3_ _).trans (((cell_far (p := ⟨gb159, _, none⟩) z3_3_ _).trans (hHeld.2.2.2.2.2.2.2.2.2))))⟩ (fun hHeld => ?_)
                clear hK K
                refine done_ (done_of HT_.out (by kernel_rfl)) ?_
                try go_wp2
                go_roundg k1
                case measure => have := HK1.out; omega
                case rel => exact ⟨(wrap64 (x8_1 + 1)), (rd [(rd_T89 ((rd_T34 l0 0).f0) x160000_1).f2.f0, (rd_T89 ((rd_T34 l0 0).f0) x160000_1).f2.f1, (rd_T89 ((rd_T34 l0 0).f0) x160000_1).f2.f2] (ji29)), ((rd_T89 ((rd_T34 l1 0).f0) x160001_1).f2.f0), (x161000_1), (x161001_1), (by first | rfl | (simp; done) | (simp [*]; done) | (simp [isE_]; done)), H', ⟨(by have := HK1.out; omega)⟩, ⟨(by (with_reducible repeat (first | refine blk_drewN ?_ _ | refine blk_drew ?_ | refine blk_alloc ?_ _)); refine blk_put (cs := #[.int .i16 (rd [(rd_T89 ((rd_T34 l0 0).f0) x160000_1).f2.f0, (rd_T89 ((rd_T34 l0 0).f0) x160000_1).f2.f1, (rd_T89 ((rd_T34 l0 0).f0) x160000_1).f2.f2] (ji29)), .int .i16 x160001_1]) ?_ 1 _ rfl; (with_reducible repeat (first | refine blk_drewN ?_ _ | refine blk_drew ?_ | refine blk_alloc ?_ _)); refine blk_put (cs := #[.int .i16 x160000_1, .int .i16 x160001_1]) ?_ 0 _ rfl; (with_reducible repeat (first | refine blk_drewN ?_ _ | refine blk_drew ?_ | refine blk_alloc ?_ _)); exact BK159.out)⟩, ⟨(by (with_reducible repeat (first | refine blk_drewN ?_ _ | refine blk_drew ?_ | refine blk_alloc ?_ _)); refine blk_far ?_ NB160_159.out _; (with_reducible repeat (first | refine blk_drewN ?_ _ | refine blk_drew ?_ | refine blk_alloc ?_ _)); refine blk_far ?_ NB160_159.out _; (with_reducible repeat (first | refine blk_drewN ?_ _ | refine blk_drew ?_ | refine blk_alloc ?_ _)); exact BK160.out)⟩, ⟨z3_2_⟩⟩
               ·
                rw [if_neg c31] at H
                exact absurd H (by simp)
              ·
               rw [if_neg c30] at H
               exact absurd H (by simp)
            ·
             rw [if_neg c21] at H
             exact absurd H (by simp)
          ·
           rw [if_neg c13] at H
           exact absurd H (by simp)
         ·
          rw [if_neg c12] at H
          exact absurd H (by simp)
        ·
         rw [if_neg c11] at H
         exact absurd H (by simp)
       ·
        rw [if_neg c10] at H
        exact absurd H (by simp)
      ·
       rw [if_neg c9] at H
       exact absurd H (by simp)
     ·
      rw [if_neg c8] at H
      have c8b0 := decide_eq_false c8
      clear c8
      simp only [Option.some.injEq, Prod.mk.injEq] at H
      obtain ⟨rfl, rfl, rfl⟩ := H
      try go_wp2
      have _ := A_ (blk_drew BK159.out)
      have _ := A_ (blk_drew BK160.out)
      have _ := A_ (below_drew1 HB.out)
      clear BK159 BK160 HB
      rename_i BK159 BK160 HB
      have q161 : 0 < (l0.length : Int) := of_decide_eq_true (by assumption)
      obtain ⟨ad161, A161_0, c161_0, e161, hx161_0, hl161_0, hi161_0⟩ := rp_T34 HR0.out q161
      have hw161_0 := hx161_0
      cases e161
      replace hx161_0 := cel HB.out hx161_0
      have HR161_0 := A_ hi161_0
      have HC161_0 := A_ hl161_0
      clear hi161_0 hl161_0
      have q162 : 0 < (l1.length : Int) := of_decide_eq_true (by assumption)
      obtain ⟨ad162, A162_0, c162_0, e162, hx162_0, hl162_0, hi162_0⟩ := rp_T34 HR1.out q162
      have hw162_0 := hx162_0
      cases e162
      replace hx162_0 := cel HB.out hx162_0
      have HR162_0 := A_ hi162_0
      have HC162_0 := A_ hl162_0
      clear hi162_0 hl162_0
      refine start_ (n := 13) (S := fun w' => w'.cell? ad161 = some (.slice A161_0 ((rd_T34 l0 0).f0).length c161_0) ∧ w'.cell? ad162 = some (.slice A162_0 ((rd_T34 l1 0).f0).length c162_0)) (ds := []) #[false, false, false, false, false, false, false, false, false, false, false, false, false] (by kernel_rfl) rfl rfl ⟨(cel HB.out hw161_0), (cel HB.out hw162_0)⟩ (fun hHeld => ?_); refine with_tabW spec_l06Loud.tab2 spec_l06Loud.bits2 (fun HT_ HW_ => ?_)
      generalize wr.drew = w38 at BK159 BK160 HB HR161_0 HR162_0 hx161_0 hx162_0 hHeld ⊢
      refine pure_ (i := 0) (N := some 11) (v := ?_) (a' := ?_) #[true, false, false, false, false, false, false, false, false, false, false, false, false] rfl rfl (any_of HT_.out (by kernel_rfl)) (fun _ _ _ h => h) (Or.inl ⟨by rfl, ?_⟩) ?_ ?_
      rotate_left
      ·
       intro w'
       go_simp
       with_reducible rfl
      rotate_left
      ·
       simp only [Act.put, sA_, sB_, sC_, i64_w, i32_w]
       rfl
      refine pure_ (i := 1) (N := some 12) (v := ?_) (a' := ?_) #[true, true, false, false, false, false, false, false, false, false, false, false, false] rfl rfl (any_of HT_.out (by kernel_rfl)) (fun _ _ _ h => h) (Or.inl ⟨by rfl, ?_⟩) ?_ ?_
      rotate_left
      ·
       intro w'
       go_simp
       with_reducible rfl
      rotate_left
      ·
       simp only [Act.put, sA_, sB_, sC_, i64_w, i32_w]
       rfl
      refine pure_ (i := 2) (N := some 13) (v := ?_) (a' := ?_) #[true, true, true, false, false, false, false, false, false, false, false, false, false] rfl rfl (any_of HT_.out (by kernel_rfl)) (fun _ _ _ h => h) (Or.inl ⟨by rfl, ?_⟩) ?_ ?_
      rotate_left
      ·
       intro w'
       go_simp
       with_reducible rfl
      rotate_left
      ·
       simp only [Act.put, sA_, sB_, sC_, i64_w, i32_w]
       rfl
      refine pure_ (i := 3) (N := some 14) (v := ?_) (a' := ?_) #[true, true, true, true, false, false, false, false, false, false, false, false, false] rfl rfl (any_of HT_.out (by kernel_rfl)) (fun _ _ _ h => h) (Or.inl ⟨by rfl, ?_⟩) ?_ ?_
      rotate_left
      ·
       intro w'
       go_simp
       with_reducible rfl
      rotate_left
      ·
       simp only [Act.put, sA_, sB_, sC_, i64_w, i32_w]
       rfl
      refine pure_ (i := 6) (N := some 17) (v := ?_) (a' := ?_) #[true, true, true, true, false, false, true, false, false, false, false, false, false] rfl rfl (any_of HT_.out (by kernel_rfl)) (fun _ _ _ h => h) (Or.inl ⟨by rfl, ?_⟩) ?_ ?_
      rotate_left
      ·
       intro w'
       go_simp
       with_reducible rfl
      rotate_left
      ·
       simp only [Act.put, sA_, sB_, sC_, i64_w, i32_w]
       rfl
      refine pure_ (i := 7) (N := some 18) (v := ?_) (a' := ?_) #[true, true, true, true, false, false, true, true, false, false, false, false, false] rfl rfl (any_of HT_.out (by kernel_rfl)) (fun _ _ _ h => h) (Or.inl ⟨by rfl, ?_⟩) ?_ ?_
      rotate_left
      ·
       intro w'
       go_simp
       with_reducible rfl
      rotate_left
      ·
       simp only [Act.put, sA_, sB_, sC_, i64_w, i32_w]
       rfl
      refine pure_ (i := 8) (N := some 19) (v := ?_) (a' := ?_) #[true, true, true, true, false, false, true, true, true, false, false, false, false] rfl rfl (any_of HT_.out (by kernel_rfl)) (fun _ _ _ h => h) (Or.inl ⟨by rfl, ?_⟩) ?_ ?_
      rotate_left
      ·
       intro w'
       go_simp
       with_reducible rfl
      rotate_left
      ·
       simp only [Act.put, sA_, sB_, sC_, i64_w, i32_w]
       rfl
      refine take_ (i := 4) (N := some 15) (v := ?_) (a' := ?_) #[true, true, true, true, true, false, true, true, true, false, false, false, false] rfl rfl (take_ofW HT_.out HW_.out (by kernel_rfl)) (fun _ _ _ h => h) (Or.inl ⟨by rfl, ?_⟩) hHeld ?_ ?_
      rotate_left
      ·
       rintro w' ⟨s0, s1⟩
       go_simp
       with_reducible rfl
      rotate_left
      ·
       simp only [Act.put, sA_, sB_, sC_, i64_w, i32_w]
       rfl
      refine pure_ (i := 5) (N := some 16) (v := ?_) (a' := ?_) #[true, true, true, true, true, true, true, true, true, false, false, false, false] rfl rfl (any_of HT_.out (by kernel_rfl)) (fun _ _ _ h => h) (Or.inl ⟨by rfl, ?_⟩) ?_ ?_
      rotate_left
      ·
       intro w'
       go_simp
       with_reducible rfl
      rotate_left
      ·
       simp only [Act.put, sA_, sB_, sC_, i64_w, i32_w]
       rfl
      refine take_ (i := 9) (N := some 20) (v := ?_) (a' := ?_) #[true, true, true, true, true, true, true, true, true, true, false, false, false] rfl rfl (take_ofW HT_.out HW_.out (by kernel_rfl)) (fun _ _ _ h => h) (Or.inl ⟨by rfl, ?_⟩) hHeld ?_ ?_
      rotate_left
      ·
       rintro w' ⟨s0, s1⟩
       go_simp
       with_reducible rfl
      rotate_left
      ·
       simp only [Act.put, sA_, sB_, sC_, i64_w, i32_w]
       rfl
      refine pure_ (i := 10) (N := some 21) (v := ?_) (a' := ?_) #[true, true, true, true, true, true, true, true, true, true, true, false, false] rfl rfl (any_of HT_.out (by kernel_rfl)) (fun _ _ _ h => h) (Or.inl ⟨by rfl, ?_⟩) ?_ ?_
      rotate_left
      ·
       intro w'
       go_simp
       with_reducible rfl
      rotate_left
      ·
       simp only [Act.put, sA_, sB_, sC_, i64_w, i32_w]
       rfl
      refine pure_ (i := 11) (N := some 22) (v := ?_) (a' := ?_) #[true, true, true, true, true, true, true, true, true, true, true, true, false] rfl rfl (any_of HT_.out (by kernel_rfl)) (fun _ _ _ h => h) (Or.inl ⟨by rfl, ?_⟩) ?_ ?_
      rotate_left
      ·
       intro w'
       go_simp
       with_reducible rfl
      rotate_left
      ·
       simp only [Act.put, sA_, sB_, sC_, i64_w, i32_w]
       rfl
      refine pure_ (i := 12) (N := some 23) (v := ?_) (a' := ?_) #[true, true, true, true, true, true, true, true, true, true, true, true, true] rfl rfl (any_of HT_.out (by kernel_rfl)) (fun _ _ _ h => h) (Or.inl ⟨by rfl, ?_⟩) ?_ ?_
      rotate_left
      ·
       intro w'
       go_simp
       with_reducible rfl
      rotate_left
      ·
       simp only [Act.put, sA_, sB_, sC_, i64_w, i32_w]
       rfl
      refine done_ (done_of HT_.out (by kernel_rfl)) ?_
      have hnb39 := NB159_160.out
      have hnc39 := NB160_159.out
      obtain ⟨hcz40_0, hcz40_1⟩ := bc2 BK159.out
      obtain ⟨hfz40_0, hfz40_1⟩ := bf2 BK159.out
      obtain ⟨hcz41_0, hcz41_1⟩ := bc2 BK160.out
      obtain ⟨hfz41_0, hfz41_1⟩ := bf2 BK160.out
      try go_wp2
      refine bodyPost_ret (results_ct rfl _ _ gb160 98 #[.int .i16 x160000_1, .int .i16 x160001_1] (0, 0) _ rfl z3_1_ Try.underlying98 rfl (by kernel_rfl)) rfl ?_
      exact ⟨z3_16_, z3_2_⟩
    ·
     rw [if_neg c7] at H
     exact absurd H (by simp)
   ·
    rw [if_neg c6] at H
    exact absurd H (by simp)
end Go.Proofs.Ytpfnohdnaocpdaa.PT

import Derived.Test.YtififhihgkbafaaPMx0
import Derived.Test.YtififhihgkbafaaPMx4
namespace Go.Proofs.Ytififhihgkbafaa.PM
open Go.RowKit Go.Proofs.YtififhihgkbafaaW.PrintWords Go.Proofs.YtififhihgkbafaaW.PrintLast Go.Proofs.YtififhihgkbafaaW.PrintMore Go.Proofs.YtififhihgkbafaaRP
attribute [local go_sem] max2_int min2_int max_two min_two max_three min_three max_four min_four Go.Proofs.YtififhihgkbafaaRP.max_eight Go.Proofs.YtififhihgkbafaaRP.tmod_len   -- for this text's walks alone
set_option linter.unusedVariables false
set_option linter.unusedSimpArgs false
theorem z5_1_ {P : Prop} (h : P := by repeat (first | (with_reducible first | exact HB.out | apply below_alloc | apply pw_below_drewN | apply below_drew1) | exact HB.out)) : P := h
theorem z5_2_ {P : Prop} (h : P := by repeat (first | (with_reducible first | exact HB.out | apply below_alloc | apply pw_below_drewN | apply below_drew1 | refine below_set ?_ GE235.out) | exact HB.out)) : P := h
theorem z5_3_ {P : Prop} (h : P := by repeat (first | (with_reducible first | exact HK.out | apply KeepBut.set_ | apply keep_drewN | apply keep_drew | apply keep_alloc) | exact HK.out)) : P := h
theorem z5_4_ {P : Prop} (h : P := by first | rfl | (simp [errW_none, errW_some] <;> rfl) | (simp [*, errW_none, errW_some] <;> rfl)) : P := h
theorem z5_5_ {P : Prop} (h : P := by repeat (first | (with_reducible first | exact HB.out | apply below_alloc | apply pw_below_drewN | apply below_drew1 | refine below_set ?_ GE228.out | refine below_set ?_ GE229.out) | exact HB.out)) : P := h
theorem z5_6_ {P : Prop} (h : P := by (try simp only [List.map_toArray, List.map_cons, List.map_nil]); first | done | rfl | (simp only [List.length_drop, List.length_take]; rfl)) : P := h
theorem z5_7_ {P : Prop} (h : P := by repeat (first | (with_reducible first | exact HB.out | apply below_alloc | apply pw_below_drewN | apply below_drew1 | refine below_set ?_ (IsS115.ge HI0.out)) | exact HB.out)) : P := h
theorem z5_8_ {P : Prop} (h : P := by repeat (first | (with_reducible first | exact HB.out | apply below_alloc | apply pw_below_drewN | apply below_drew1 | refine below_set ?_ GE240.out) | exact HB.out)) : P := h
theorem z5_9_ {P : Prop} (h : P := by (with_reducible repeat (first | refine blk_drewN ?_ _ | refine blk_drew ?_ | refine blk_alloc ?_ _)); exact BK228.out) : P := h
theorem z5_10_ {P : Prop} (h : P := by repeat (first | (with_reducible first | exact HB.out | apply below_alloc | apply pw_below_drewN | apply below_drew1 | refine below_set ?_ GE228.out) | exact HB.out)) : P := h
theorem z5_11_ {P : Prop} (h : P := by (try simp only [Int.add_zero]); repeat (first | (with_reducible first | exact HI0.out | apply IsS115.alloc | apply IsS115.drewN | apply IsS115.drew | apply IsS115.set_1 | apply IsS115.set_2) | exact HI0.out)) : P := h
theorem z5_12_ {P : Prop} (h : P := by repeat (first | (with_reducible first | exact HI0.out | apply IsS115.alloc | apply IsS115.drewN | apply IsS115.drew | apply IsS115.set_1 | apply IsS115.set_2) | exact HI0.out)) : P := h
theorem z5_13_ {P : Prop} (h : P := by (with_reducible repeat (first | refine blk_drewN ?_ _ | refine blk_drew ?_ | refine blk_alloc ?_ _)); exact BK240.out) : P := h
theorem z5_14_ {P : Prop} (h : P := by (with_reducible repeat (first | refine blk_drewN ?_ _ | refine blk_drew ?_ | refine blk_alloc ?_ _)); exact BK235.out) : P := h
theorem z5_15_ {P : Prop} (h : P := by (with_reducible repeat (first | refine blk_drewN ?_ _ | refine blk_drew ?_ | refine blk_alloc ?_ _)); exact BK252.out) : P := h
theorem z5_16_ {P : Prop} (h : P := by (with_reducible repeat (first | refine blk_drewN ?_ _ | refine blk_drew ?_ | refine blk_alloc ?_ _)); exact BK246.out) : P := h
theorem z5_17_ {P : Prop} (h : P := by (with_reducible repeat (first | refine blk_drewN ?_ _ | refine blk_drew ?_ | refine blk_alloc ?_ _)); exact BK229.out) : P := h
theorem z5_18_ {P : Prop} (h : P := by first | rfl | (simp; done) | (simp [*]; done) | (simp [isE_]; done)) : P := h
theorem z5_19_ {P : Prop} (h : P := by repeat (first | (with_reducible first | exact HB.out | apply below_alloc | apply pw_below_drewN | apply below_drew1 | refine below_set ?_ GE252.out) | exact HB.out)) : P := h
theorem z5_20_ {P : Prop} (h : P := by repeat (first | (with_reducible first | exact HB.out | apply below_alloc | apply pw_below_drewN | apply below_drew1 | refine below_set ?_ GE246.out) | exact HB.out)) : P := h
theorem z5_21_ {P : Prop} (h : P := by (with_reducible repeat (first | apply Kd.R_alloc | apply Kd.R_drewN | apply Kd.R_drew)); exact HO_6.out) : P := h
theorem z5_22_ {P : Prop} (h : P := by repeat (first | (with_reducible first | exact HB.out | apply below_alloc | apply pw_below_drewN | apply below_drew1 | refine below_set ?_ GE252.out | refine below_set ?_ GE253.out) | exact HB.out)) : P := h
theorem z5_23_ {P : Prop} (h : P := by repeat (first | (with_reducible first | exact HB.out | apply below_alloc | apply pw_below_drewN | apply below_drew1 | refine below_set ?_ GE246.out | refine below_set ?_ GE247.out) | exact HB.out)) : P := h
theorem z5_24_ {P : Prop} (h : P := by (with_reducible repeat (first | apply Kd.R_alloc | apply Kd.R_drewN | apply Kd.R_drew)); exact HO232.out) : P := h
/-! ### impl_Moebius_reduced: function 65 -/
def impl_Moebius_reduced.f (k : Nat) (a0_0 : Int) (a0_1 : Int) (a0_2 : Int) (a0_3 : Int) : Option (Int × Int × Int × Int) := (impl_common.f k (([a0_0, a0_1, a0_2, a0_3] : List Int))).bind fun t233 => (if t233 = 0 then (some (a0_0, a0_1, a0_2, a0_3)) else (some (wrap64 (Int.tdiv a0_0 t233), wrap64 (Int.tdiv a0_1 t233), wrap64 (Int.tdiv a0_2 t233), wrap64 (Int.tdiv a0_3 t233))))
theorem impl_Moebius_reduced.mono : ∀ a0 a1 a2 a3 k, LeO (impl_Moebius_reduced.f k a0 a1 a2 a3) (impl_Moebius_reduced.f (k + 1) a0 a1 a2 a3) := by
 intro a0 a1 a2 a3 k
 unfold impl_Moebius_reduced.f
 repeat' first
   | (with_reducible exact impl_common.mono _ _)
   | (with_reducible exact LeO.refl _)
   | (with_reducible exact LeO.none _)
   | (with_reducible refine LeO.ite ?_ ?_)
   | (with_reducible refine LeO.bind ?_ (fun _ => ?_))
   | exact LeO.none _
   | refine LeO.ite ?_ ?_
   | refine LeO.bind ?_ (fun _ => ?_)
def impl_Moebius_reduced.T4 : Bool × List (List Nat × List Nat) := (true, [([], []), ([0], [0]), ([], []), ([1, 2], [1, 2]), ([], []), ([4], [4]), ([], []), ([5, 6], [5, 6]), ([], []), ([8], [8]), ([], []), ([9, 10], [9, 10]), ([], []), ([12], [12]), ([], []), ([13, 14], [13, 14]), ([3, 7, 11, 15], [3, 7, 11, 15]), ([16, 0, 1, 2, 3, 4, 5, 6, 7, 8, 9, 10, 11, 12, 13, 14, 15, 16], [16])])
def impl_Moebius_reduced.B4 : List Nat := [0, 1, 0, 7, 0, 16, 0, 112, 0, 256, 0, 1792, 0, 4096, 0, 28672, 65535, 131071]
theorem impl_Moebius_reduced.tab4 : rtab .any (opsOf Try.f65 4) = impl_Moebius_reduced.T4 := by kernel_rfl
theorem impl_Moebius_reduced.bits4 : waitsOk impl_Moebius_reduced.T4.2 impl_Moebius_reduced.B4 = true := by kernel_rfl
set_option maxHeartbeats 8000000 in
set_option maxRecDepth 100000 in
theorem impl_Moebius_reduced.calls (k : Nat) (a0_0 : Int) (a0_1 : Int) (a0_2 : Int) (a0_3 : Int) (r1 : Int) (r2 : Int) (r3 : Int) (r4 : Int) (w : World) (h : impl_Moebius_reduced.f k a0_0 a0_1 a0_2 a0_3 = some (r1, r2, r3, r4)) :
  Calls Try.prog 65 #[.agg #[.int .i64 a0_0, .int .i64 a0_1, .int .i64 a0_2, .int .i64 a0_3]] w fun e w' => e = .returned (.agg #[.int .i64 r1, .int .i64 r2, .int .i64 r3, .int .i64 r4]) ∧ Below w.heap.size w w' := by
 have hu31 := Try.underlying31
 have HB := A_ (Below.refl w.heap.size w)
 have H : ((impl_common.f k (([a0_0, a0_1, a0_2, a0_3] : List Int))).bind fun t233 => (if t233 = 0 then (some (a0_0, a0_1, a0_2, a0_3)) else (some (wrap64 (Int.tdiv a0_0 t233), wrap64 (Int.tdiv a0_1 t233), wrap64 (Int.tdiv a0_2 t233), wrap64 (Int.tdiv a0_3 t233))))) = some (r1, r2, r3, r4) := h
 clear h
 obtain ⟨y230, hy230⟩ : ∃ y_ : List Int, y_ = (([a0_0, a0_1, a0_2, a0_3] : List Int)) := ⟨_, rfl⟩
 replace H : ((impl_common.f k y230).bind fun t233 => (if t233 = 0 then (some (a0_0, a0_1, a0_2, a0_3)) else (some (wrap64 (Int.tdiv a0_0 t233), wrap64 (Int.tdiv a0_1 t233), wrap64 (Int.tdiv a0_2 t233), wrap64 (Int.tdiv a0_3 t233))))) = some (r1, r2, r3, r4) := by first | (rw [hy230]; with_reducible exact H) | (have H2_ := (Option.bind_some _ _).symm.trans H; rw [hy230]; with_reducible exact H2_) | (have H2_ := (Option.bind_some _ _).symm.trans H; with_reducible exact H2_) | with_reducible exact H | (rw [hy230]; exact H) | exact H
 have Ny230 := A_ hy230
 clear hy230
 replace H := Option.bind_eq_some_iff.mp H
 obtain ⟨t233, A20, H⟩ := H
 try dsimp only at H
 have A2 := A_ A20
 clear A20
 by_cases c3 : t233 = 0
 ·
  rw [if_pos c3] at H
  have c3b0 := beq_iff_eq.mpr c3
  have c3b1 := bne_eq_false_iff_eq.mpr c3
  clear c3
  simp only [Option.some.injEq, Prod.mk.injEq] at H
  obtain ⟨rfl, rfl, rfl, rfl⟩ := H
  go_enter Try.func65, Try.ntmps65
  go_wp2_with (first | ((with_reducible refine gate_dst (N := 1) rfl ?_); refine box_event ?hg (N := 1) ?hd (cs := #[.int .i64 a0_0, .int .i64 a0_1, .int .i64 a0_2, .int .i64 a0_3]) (t := 31) ?hr ?_; (case hd => rfl); (case hg => rfl); (case hr => first | (go_simp; done) | (go_simp; rfl)); intro gb228 hg w4 hbox hb; have _ := A_ (below_step z5_1_ hb); have _ := A_ (hbox); have _ := A_ ((by rw [hg]; exact (below_size z5_1_) : w.heap.size ≤ gb228)); have _ := A_ ((by rw [hg]; exact (below_size z5_1_) : w.heap.size ≤ gb228)); clear HB; rename_i HB BK228 GW228 GE228; clear hb hbox hg) | ((with_reducible refine gate_dst (N := 2) rfl ?_); refine box_event ?hg (N := 2) ?hd (cs := #[.int .i64 0, .int .i64 0, .int .i64 0, .int .i64 0]) (t := 31) ?hr ?_; (case hd => rfl); (case hg => rfl); (case hr => first | (go_simp; done) | (go_simp; rfl)); intro gb229 hg w5 hbox hb; have _ := A_ (blk_below (g := gb228) (o := .cells #[.int .i64 a0_0, .int .i64 a0_1, .int .i64 a0_2, .int .i64 a0_3] 31 (0, 0)) z5_9_ hb); have _ := A_ (below_step z5_10_ hb); have _ := A_ (hbox); have _ := A_ ((by rw [hg]; exact (below_size z5_10_) : w.heap.size ≤ gb229)); have _ := A_ ((by rw [hg]; exact (below_size z5_10_) : w.heap.size ≤ gb229)); have _ := A_ ((by rw [hg]; exact Nat.ne_of_lt (blk_lt (g := gb228) (o := .cells #[.int .i64 a0_0, .int .i64 a0_1, .int .i64 a0_2, .int .i64 a0_3] 31 (0, 0)) z5_9_) : gb228 ≠ gb229)); have _ := A_ ((by rw [hg]; exact Nat.ne_of_gt (blk_lt (g := gb228) (o := .cells #[.int .i64 a0_0, .int .i64 a0_1, .int .i64 a0_2, .int .i64 a0_3] 31 (0, 0)) z5_9_) : gb229 ≠ gb228)); clear BK228 HB; rename_i BK228 HB BK229 GW229 GE229 NB228_229 NB229_228; clear hb hbox hg; have hnb6 := NB228_229.out; have hnc6 := NB229_228.out; obtain ⟨hcz7_0, hcz7_1, hcz7_2, hcz7_3⟩ := bc4 BK228.out; obtain ⟨hfz7_0, hfz7_1, hfz7_2, hfz7_3⟩ := bf4 BK228.out) | ((with_reducible refine gate_dst (N := 12) rfl ?_); refine Kd.R_lit (Kd.int .i64) _ 2 ?hg (N := 12) ?hd (xs := ([a0_0, a0_1, a0_2, a0_3] : List Int)) (inner := [.int .i64 a0_0, .int .i64 a0_1, .int .i64 a0_2, .int .i64 a0_3]) (ok := fun _ => True) (okp := fun _ => True) ?hr ?hp (fun _ hk => hk) trivial (Below.refl _ _) (Nat.le_refl _) (by simp) ?_; (case hd => rfl); (case hg => rfl); (case hr => first | (go_simp; done) | (go_simp; rfl)); (case hp => exact (Reps.one (show Kd.M (Kd.int .i64) _ _ _ a0_0 [.int .i64 a0_0] from rfl) (Reps.one (show Kd.M (Kd.int .i64) _ _ _ a0_1 [.int .i64 a0_1] from rfl) (Reps.one (show Kd.M (Kd.int .i64) _ _ _ a0_2 [.int .i64 a0_2] from rfl) (Reps.one (show Kd.M (Kd.int .i64) _ _ _ a0_3 [.int .i64 a0_3] from rfl) (Reps.none _ _)))))); intro v231 w8 ho9 hb hg_ hnew_; clear hg_ hnew_; (first | rw [← Ny230.out] at ho9 | (simp only [Int.reduceToNat] at ho9; rw [← Ny230.out] at ho9)); have _ := A_ (Kd.R_lower ho9 (below_size z5_5_)); have _ := A_ (blk_below (g := gb228) (o := .cells #[.int .i64 a0_0, .int .i64 a0_1, .int .i64 a0_2, .int .i64 a0_3] 31 (0, 0)) z5_9_ hb); have _ := A_ (blk_below (g := gb229) (o := .cells #[.int .i64 0, .int .i64 0, .int .i64 0, .int .i64 0] 31 (0, 0)) z5_17_ hb); have _ := A_ (below_step z5_5_ hb); clear BK228 BK229 HB; rename_i HO232 BK228 BK229 HB; clear hb ho9; obtain ⟨Ao10, co10, eo10⟩ := Kd.R_slice HO232.out; subst eo10) | ((with_reducible refine gate_callee (f := 83) rfl ?_); refine goesL_ (some 13) rfl rfl Try.func83 (by kernel_rfl) rfl #[.slice Ao10 y230.length co10] rfl z5_6_ ?_; (with_reducible refine (impl_common.calls k _ _ y230 t233 _ ?side1 ?side2 A2.out).mono ?_); (case side1 => have hx_ := (Kd.R_reads' HO232.out).2.2; exact kc_); (case side2 => exact (Kd.R_reads' HO232.out).2.1); rintro e w11 ⟨rfl, hb⟩; refine ⟨_, rfl, ?_⟩; have _ := A_ (Kd.R_below z5_24_ hb); have _ := A_ (blk_below (g := gb228) (o := .cells #[.int .i64 a0_0, .int .i64 a0_1, .int .i64 a0_2, .int .i64 a0_3] 31 (0, 0)) z5_9_ hb); have _ := A_ (blk_below (g := gb229) (o := .cells #[.int .i64 0, .int .i64 0, .int .i64 0, .int .i64 0] 31 (0, 0)) z5_17_ hb); have _ := A_ (below_step z5_5_ hb); clear HO232 BK228 BK229 HB; rename_i HO232 BK228 BK229 HB; (try clear hb); obtain ⟨hcz12_0, hcz12_1, hcz12_2, hcz12_3⟩ := bc4 BK228.out; obtain ⟨hfz12_0, hfz12_1, hfz12_2, hfz12_3⟩ := bf4 BK228.out; obtain ⟨hcz13_0, hcz13_1, hcz13_2, hcz13_3⟩ := bc4 BK229.out; obtain ⟨hfz13_0, hfz13_1, hfz13_2, hfz13_3⟩ := bf4 BK229.out))
  refine bodyPost_ret (results_cell_row rfl _ _ gb229 31 #[.int .i64 a0_0, .int .i64 a0_1, .int .i64 a0_2, .int .i64 a0_3] (0, 0) _ rfl (by (with_reducible repeat (first | refine blk_drewN ?_ _ | refine blk_drew ?_ | refine blk_alloc ?_ _)); refine blk_put (cs := #[.int .i64 a0_0, .int .i64 a0_1, .int .i64 a0_2, .int .i64 0]) ?_ 3 _ rfl; (with_reducible repeat (first | refine blk_drewN ?_ _ | refine blk_drew ?_ | refine blk_alloc ?_ _)); refine blk_put (cs := #[.int .i64 a0_0, .int .i64 a0_1, .int .i64 0, .int .i64 0]) ?_ 2 _ rfl; (with_reducible repeat (first | refine blk_drewN ?_ _ | refine blk_drew ?_ | refine blk_alloc ?_ _)); refine blk_put (cs := #[.int .i64 a0_0, .int .i64 0, .int .i64 0, .int .i64 0]) ?_ 1 _ rfl; (with_reducible repeat (first | refine blk_drewN ?_ _ | refine blk_drew ?_ | refine blk_alloc ?_ _)); refine blk_put (cs := #[.int .i64 0, .int .i64 0, .int .i64 0, .int .i64 0]) ?_ 0 _ rfl; (with_reducible repeat (first | refine blk_drewN ?_ _ | refine blk_drew ?_ | refine blk_alloc ?_ _)); exact BK229.out) Try.underlying31 rfl (by kernel_rfl)) rfl ?_
  exact ⟨z5_4_, z5_5_⟩
 ·
  rw [if_neg c3] at H
  have c3b0 : (t233 == 0) = false := beq_eq_false_iff_ne.mpr c3
  have c3b1 : (t233 != 0) = true := bne_iff_ne.mpr c3
  simp only [Option.some.injEq, Prod.mk.injEq] at H
  obtain ⟨rfl, rfl, rfl, rfl⟩ := H
  go_enter Try.func65, Try.ntmps65
  try go_wp2_with (first | ((with_reducible refine gate_dst (N := 1) rfl ?_); refine box_event ?hg (N := 1) ?hd (cs := #[.int .i64 a0_0, .int .i64 a0_1, .int .i64 a0_2, .int .i64 a0_3]) (t := 31) ?hr ?_; (case hd => rfl); (case hg => rfl); (case hr => first | (go_simp; done) | (go_simp; rfl)); intro gb228 hg w14 hbox hb; have _ := A_ (below_step z5_1_ hb); have _ := A_ (hbox); have _ := A_ ((by rw [hg]; exact (below_size z5_1_) : w.heap.size ≤ gb228)); have _ := A_ ((by rw [hg]; exact (below_size z5_1_) : w.heap.size ≤ gb228)); clear HB; rename_i HB BK228 GW228 GE228; clear hb hbox hg) | ((with_reducible refine gate_dst (N := 2) rfl ?_); refine box_event ?hg (N := 2) ?hd (cs := #[.int .i64 0, .int .i64 0, .int .i64 0, .int .i64 0]) (t := 31) ?hr ?_; (case hd => rfl); (case hg => rfl); (case hr => first | (go_simp; done) | (go_simp; rfl)); intro gb229 hg w15 hbox hb; have _ := A_ (blk_below (g := gb228) (o := .cells #[.int .i64 a0_0, .int .i64 a0_1, .int .i64 a0_2, .int .i64 a0_3] 31 (0, 0)) z5_9_ hb); have _ := A_ (below_step z5_10_ hb); have _ := A_ (hbox); have _ := A_ ((by rw [hg]; exact (below_size z5_10_) : w.heap.size ≤ gb229)); have _ := A_ ((by rw [hg]; exact (below_size z5_10_) : w.heap.size ≤ gb229)); have _ := A_ ((by rw [hg]; exact Nat.ne_of_lt (blk_lt (g := gb228) (o := .cells #[.int .i64 a0_0, .int .i64 a0_1, .int .i64 a0_2, .int .i64 a0_3] 31 (0, 0)) z5_9_) : gb228 ≠ gb229)); have _ := A_ ((by rw [hg]; exact Nat.ne_of_gt (blk_lt (g := gb228) (o := .cells #[.int .i64 a0_0, .int .i64 a0_1, .int .i64 a0_2, .int .i64 a0_3] 31 (0, 0)) z5_9_) : gb229 ≠ gb228)); clear BK228 HB; rename_i BK228 HB BK229 GW229 GE229 NB228_229 NB229_228; clear hb hbox hg; have hnb16 := NB228_229.out; have hnc16 := NB229_228.out; obtain ⟨hcz17_0, hcz17_1, hcz17_2, hcz17_3⟩ := bc4 BK228.out; obtain ⟨hfz17_0, hfz17_1, hfz17_2, hfz17_3⟩ := bf4 BK228.out) | ((with_reducible refine gate_dst (N := 12) rfl ?_); refine Kd.R_lit (Kd.int .i64) _ 2 ?hg (N := 12) ?hd (xs := ([a0_0, a0_1, a0_2, a0_3] : List Int)) (inner := [.int .i64 a0_0, .int .i64 a0_1, .int .i64 a0_2, .int .i64 a0_3]) (ok := fun _ => True) (okp := fun _ => True) ?hr ?hp (fun _ hk => hk) trivial (Below.refl _ _) (Nat.le_refl _) (by simp) ?_; (case hd => rfl); (case hg => rfl); (case hr => first | (go_simp; done) | (go_simp; rfl)); (case hp => exact (Reps.one (show Kd.M (Kd.int .i64) _ _ _ a0_0 [.int .i64 a0_0] from rfl) (Reps.one (show Kd.M (Kd.int .i64) _ _ _ a0_1 [.int .i64 a0_1] from rfl) (Reps.one (show Kd.M (Kd.int .i64) _ _ _ a0_2 [.int .i64 a0_2] from rfl) (Reps.one (show Kd.M (Kd.int .i64) _ _ _ a0_3 [.int .i64 a0_3] from rfl) (Reps.none _ _)))))); intro v231 w18 ho19 hb hg_ hnew_; clear hg_ hnew_; (first | rw [← Ny230.out] at ho19 | (simp only [Int.reduceToNat] at ho19; rw [← Ny230.out] at ho19)); have _ := A_ (Kd.R_lower ho19 (below_size z5_5_)); have _ := A_ (blk_below (g := gb228) (o := .cells #[.int .i64 a0_0, .int .i64 a0_1, .int .i64 a0_2, .int .i64 a0_3] 31 (0, 0)) z5_9_ hb); have _ := A_ (blk_below (g := gb229) (o := .cells #[.int .i64 0, .int .i64 0, .int .i64 0, .int .i64 0] 31 (0, 0)) z5_17_ hb); have _ := A_ (below_step z5_5_ hb); clear BK228 BK229 HB; rename_i HO232 BK228 BK229 HB; clear hb ho19; obtain ⟨Ao20, co20, eo20⟩ := Kd.R_slice HO232.out; subst eo20) | ((with_reducible refine gate_callee (f := 83) rfl ?_); refine goesL_ (some 13) rfl rfl Try.func83 (by kernel_rfl) rfl #[.slice Ao20 y230.length co20] rfl z5_6_ ?_; (with_reducible refine (impl_common.calls k _ _ y230 t233 _ ?side1 ?side2 A2.out).mono ?_); (case side1 => have hx_ := (Kd.R_reads' HO232.out).2.2; exact kc_); (case side2 => exact (Kd.R_reads' HO232.out).2.1); rintro e w21 ⟨rfl, hb⟩; refine ⟨_, rfl, ?_⟩; have _ := A_ (Kd.R_below z5_24_ hb); have _ := A_ (blk_below (g := gb228) (o := .cells #[.int .i64 a0_0, .int .i64 a0_1, .int .i64 a0_2, .int .i64 a0_3] 31 (0, 0)) z5_9_ hb); have _ := A_ (blk_below (g := gb229) (o := .cells #[.int .i64 0, .int .i64 0, .int .i64 0, .int .i64 0] 31 (0, 0)) z5_17_ hb); have _ := A_ (below_step z5_5_ hb); clear HO232 BK228 BK229 HB; rename_i HO232 BK228 BK229 HB; (try clear hb)))
  have _ := A_ (Kd.R_drew HO232.out)
  have _ := A_ (blk_drew BK228.out)
  have _ := A_ (blk_drew BK229.out)
  have _ := A_ (below_drew1 HB.out)
  clear HO232 BK228 BK229 HB
  rename_i HO232 BK228 BK229 HB
  refine start_ (n := 18) (S := fun w' => w'.cell? ⟨gb228, 0, none⟩ = some (.int .i64 a0_0) ∧ w'.cell? ⟨gb228, 1, none⟩ = some (.int .i64 a0_1) ∧ w'.cell? ⟨gb228, 2, none⟩ = some (.int .i64 a0_2) ∧ w'.cell? ⟨gb228, 3, none⟩ = some (.int .i64 a0_3)) (ds := []) #[false, false, false, false, false, false, false, false, false, false, false, false, false, false, false, false, false, false] (by kernel_rfl) rfl rfl ⟨(blk_cell BK228.out 0).trans rfl, (blk_cell BK228.out 1).trans rfl, (blk_cell BK228.out 2).trans rfl, (blk_cell BK228.out 3).trans rfl⟩ (fun hHeld => ?_); refine with_tabW impl_Moebius_reduced.tab4 impl_Moebius_reduced.bits4 (fun HT_ HW_ => ?_)
  generalize w21.drew = w22 at HO232 BK228 BK229 HB hHeld ⊢
  refine pure_ (i := 0) (N := some 17) (v := ?_) (a' := ?_) #[true, false, false, false, false, false, false, false, false, false, false, false, false, false, false, false, false, false] rfl rfl (any_of HT_.out (by kernel_rfl)) (fun _ _ _ h => h) (Or.inl ⟨by rfl, ?_⟩) ?_ ?_
  rotate_left
  ·
   intro w'
   go_simp
   with_reducible rfl
  rotate_left
  ·
   simp only [Act.put, sA_, sB_, sC_, i64_w, i32_w]
   rfl
  refine pure_ (i := 2) (N := some 19) (v := ?_) (a' := ?_) #[true, false, true, false, false, false, false, false, false, false, false, false, false, false, false, false, false, false] rfl rfl (any_of HT_.out (by kernel_rfl)) (fun _ _ _ h => h) (Or.inl ⟨by rfl, ?_⟩) ?_ ?_
  rotate_left
  ·
   intro w'
   go_simp
   with_reducible rfl
  rotate_left
  ·
   simp only [Act.put, sA_, sB_, sC_, i64_w, i32_w]
   rfl
  refine pure_ (i := 4) (N := some 21) (v := ?_) (a' := ?_) #[true, false, true, false, true, false, false, false, false, false, false, false, false, false, false, false, false, false] rfl rfl (any_of HT_.out (by kernel_rfl)) (fun _ _ _ h => h) (Or.inl ⟨by rfl, ?_⟩) ?_ ?_
  rotate_left
  ·
   intro w'
   go_simp
   with_reducible rfl
  rotate_left
  ·
   simp only [Act.put, sA_, sB_, sC_, i64_w, i32_w]
   rfl
  refine pure_ (i := 6) (N := some 23) (v := ?_) (a' := ?_) #[true, false, true, false, true, false, true, false, false, false, false, false, false, false, false, false, false, false] rfl rfl (any_of HT_.out (by kernel_rfl)) (fun _ _ _ h => h) (Or.inl ⟨by rfl, ?_⟩) ?_ ?_
  rotate_left
  ·
   intro w'
   go_simp
   with_reducible rfl
  rotate_left
  ·
   simp only [Act.put, sA_, sB_, sC_, i64_w, i32_w]
   rfl
  refine pure_ (i := 8) (N := some 25) (v := ?_) (a' := ?_) #[true, false, true, false, true, false, true, false, true, false, false, false, false, false, false, false, false, false] rfl rfl (any_of HT_.out (by kernel_rfl)) (fun _ _ _ h => h) (Or.inl ⟨by rfl, ?_⟩) ?_ ?_
  rotate_left
  ·
   intro w'
   go_simp
   with_reducible rfl
  rotate_left
  ·
   simp only [Act.put, sA_, sB_, sC_, i64_w, i32_w]
   rfl
  refine pure_ (i := 10) (N := some 27) (v := ?_) (a' := ?_) #[true, false, true, false, true, false, true, false, true, false, true, false, false, false, false, false, false, false] rfl rfl (any_of HT_.out (by kernel_rfl)) (fun _ _ _ h => h) (Or.inl ⟨by rfl, ?_⟩) ?_ ?_
  rotate_left
  ·
   intro w'
   go_simp
   with_reducible rfl
  rotate_left
  ·
   simp only [Act.put, sA_, sB_, sC_, i64_w, i32_w]
   rfl
  refine pure_ (i := 12) (N := some 29) (v := ?_) (a' := ?_) #[true, false, true, false, true, false, true, false, true, false, true, false, true, false, false, false, false, false] rfl rfl (any_of HT_.out (by kernel_rfl)) (fun _ _ _ h => h) (Or.inl ⟨by rfl, ?_⟩) ?_ ?_
  rotate_left
  ·
   intro w'
   go_simp
   with_reducible rfl
  rotate_left
  ·
   simp only [Act.put, sA_, sB_, sC_, i64_w, i32_w]
   rfl
  refine pure_ (i := 14) (N := some 31) (v := ?_) (a' := ?_) #[true, false, true, false, true, false, true, false, true, false, true, false, true, false, true, false, false, false] rfl rfl (any_of HT_.out (by kernel_rfl)) (fun _ _ _ h => h) (Or.inl ⟨by rfl, ?_⟩) ?_ ?_
  rotate_left
  ·
   intro w'
   go_simp
   with_reducible rfl
  rotate_left
  ·
   simp only [Act.put, sA_, sB_, sC_, i64_w, i32_w]
   rfl
  refine take_ (i := 1) (N := some 18) (v := ?_) (a' := ?_) #[true, true, true, false, true, false, true, false, true, false, true, false, true, false, true, false, false, false] rfl rfl (take_ofW HT_.out HW_.out (by kernel_rfl)) (fun _ _ _ h => h) (Or.inl ⟨by rfl, ?_⟩) hHeld ?_ ?_
  rotate_left
  ·
   rintro w' ⟨s0, s1, s2, s3⟩
   go_simp
   with_reducible rfl
  rotate_left
  ·
   simp only [Act.put, sA_, sB_, sC_, i64_w, i32_w]
   rfl
  refine pure_ (i := 3) (N := some 20) (v := ?_) (a' := ?_) #[true, true, true, true, true, false, true, false, true, false, true, false, true, false, true, false, false, false] rfl rfl (any_of HT_.out (by kernel_rfl)) (fun _ _ _ h => h) (Or.inl ⟨by rfl, ?_⟩) ?_ ?_
  rotate_left
  ·
   intro w'
   go_simp
   with_reducible rfl
  rotate_left
  ·
   simp only [Act.put, sA_, sB_, sC_, i64_w, i32_w]
   rfl
  refine take_ (i := 5) (N := some 22) (v := ?_) (a' := ?_) #[true, true, true, true, true, true, true, false, true, false, true, false, true, false, true, false, false, false] rfl rfl (take_ofW HT_.out HW_.out (by kernel_rfl)) (fun _ _ _ h => h) (Or.inl ⟨by rfl, ?_⟩) hHeld ?_ ?_
  rotate_left
  ·
   rintro w' ⟨s0, s1, s2, s3⟩
   go_simp
   with_reducible rfl
  rotate_left
  ·
   simp only [Act.put, sA_, sB_, sC_, i64_w, i32_w]
   rfl
  refine pure_ (i := 7) (N := some 24) (v := ?_) (a' := ?_) #[true, true, true, true, true, true, true, true, true, false, true, false, true, false, true, false, false, false] rfl rfl (any_of HT_.out (by kernel_rfl)) (fun _ _ _ h => h) (Or.inl ⟨by rfl, ?_⟩) ?_ ?_
  rotate_left
  ·
   intro w'
   go_simp
   with_reducible rfl
  rotate_left
  ·
   simp only [Act.put, sA_, sB_, sC_, i64_w, i32_w]
   rfl
  refine take_ (i := 9) (N := some 26) (v := ?_) (a' := ?_) #[true, true, true, true, true, true, true, true, true, true, true, false, true, false, true, false, false, false] rfl rfl (take_ofW HT_.out HW_.out (by kernel_rfl)) (fun _ _ _ h => h) (Or.inl ⟨by rfl, ?_⟩) hHeld ?_ ?_
  rotate_left
  ·
   rintro w' ⟨s0, s1, s2, s3⟩
   go_simp
   with_reducible rfl
  rotate_left
  ·
   simp only [Act.put, sA_, sB_, sC_, i64_w, i32_w]
   rfl
  refine pure_ (i := 11) (N := some 28) (v := ?_) (a' := ?_) #[true, true, true, true, true, true, true, true, true, true, true, true, true, false, true, false, false, false] rfl rfl (any_of HT_.out (by kernel_rfl)) (fun _ _ _ h => h) (Or.inl ⟨by rfl, ?_⟩) ?_ ?_
  rotate_left
  ·
   intro w'
   go_simp
   with_reducible rfl
  rotate_left
  ·
   simp only [Act.put, sA_, sB_, sC_, i64_w, i32_w]
   rfl
  refine take_ (i := 13) (N := some 30) (v := ?_) (a' := ?_) #[true, true, true, true, true, true, true, true, true, true, true, true, true, true, true, false, false, false] rfl rfl (take_ofW HT_.out HW_.out (by kernel_rfl)) (fun _ _ _ h => h) (Or.inl ⟨by rfl, ?_⟩) hHeld ?_ ?_
  rotate_left
  ·
   rintro w' ⟨s0, s1, s2, s3⟩
   go_simp
   with_reducible rfl
  rotate_left
  ·
   simp only [Act.put, sA_, sB_, sC_, i64_w, i32_w]
   rfl
  refine pure_ (i := 15) (N := some 32) (v := ?_) (a' := ?_) #[true, true, true, true, true, true, true, true, true, true, true, true, true, true, true, true, false, false] rfl rfl (any_of HT_.out (by kernel_rfl)) (fun _ _ _ h => h) (Or.inl ⟨by rfl, ?_⟩) ?_ ?_
  rotate_left
  ·
   intro w'
   go_simp
   with_reducible rfl
  rotate_left
  ·
   simp only [Act.put, sA_, sB_, sC_, i64_w, i32_w]
   rfl
  refine pure_ (i := 16) (N := some 33) (v := ?_) (a' := ?_) #[true, true, true, true, true, true, true, true, true, true, true, true, true, true, true, true, true, false] rfl rfl (any_of HT_.out (by kernel_rfl)) (fun _ _ _ h => h) (Or.inl ⟨by rfl, ?_⟩) ?_ ?_
  rotate_left
  ·
   intro w'
   go_simp
   with_reducible rfl
  rotate_left
  ·
   simp only [Act.put, sA_, sB_, sC_, i64_w, i32_w]
   rfl
  refine one_ (i := 17) (N := none) #[true, true, true, true, true, true, true, true, true, true, true, true, true, true, true, true, true, true] rfl rfl (one_of HT_.out (by kernel_rfl)) (by decide) (fun K hK => ?_)
  have hs23 : w22.cell? ⟨gb229, 0, none⟩ = some (.int .i64 0) := (blk_cell BK229.out 0).trans rfl
  have hfs23 := blk_frozen BK229.out 0
  have hns23_0 := NB228_229.out
  have hms23_0 := NB229_228.out
  have hs24 : w22.cell? ⟨gb229, 1, none⟩ = some (.int .i64 0) := (blk_cell BK229.out 1).trans rfl
  have hfs24 := blk_frozen BK229.out 1
  have hns24_0 := NB228_229.out
  have hms24_0 := NB229_228.out
  have hs25 : w22.cell? ⟨gb229, 2, none⟩ = some (.int .i64 0) := (blk_cell BK229.out 2).trans rfl
  have hfs25 := blk_frozen BK229.out 2
  have hns25_0 := NB228_229.out
  have hms25_0 := NB229_228.out
  have hs26 : w22.cell? ⟨gb229, 3, none⟩ = some (.int .i64 0) := (blk_cell BK229.out 3).trans rfl
  have hfs26 := blk_frozen BK229.out 3
  have hns26_0 := NB228_229.out
  have hms26_0 := NB229_228.out
  refine skip_ (w1 := ?_) (by rfl) rfl ?_ ?_
  rotate_left
  ·
   go_simp
   rfl
  refine hK.out _ _ ⟨((cell_far (p := ⟨gb229, _, none⟩) NB228_229.out _).trans (((cell_far (p := ⟨gb229, _, none⟩) NB228_229.out _).trans (((cell_far (p := ⟨gb229, _, none⟩) NB228_229.out _).trans (((cell_far (p := ⟨gb229, _, none⟩) NB228_229.out _).trans (hHeld.1)))))))), ((cell_far (p := ⟨gb229, _, none⟩) NB228_229.out _).trans (((cell_far (p := ⟨gb229, _, none⟩) NB228_229.out _).trans (((cell_far (p := ⟨gb229, _, none⟩) NB228_229.out _).trans (((cell_far (p := ⟨gb229, _, none⟩) NB228_229.out _).trans (hHeld.2.1)))))))), ((cell_far (p := ⟨gb229, _, none⟩) NB228_229.out _).trans (((cell_far (p := ⟨gb229, _, none⟩) NB228_229.out _).trans (((cell_far (p := ⟨gb229, _, none⟩) NB228_229.out _).trans (((cell_far (p := ⟨gb229, _, none⟩) NB228_229.out _).trans (hHeld.2.2.1)))))))), ((cell_far (p := ⟨gb229, _, none⟩) NB228_229.out _).trans (((cell_far (p := ⟨gb229, _, none⟩) NB228_229.out _).trans (((cell_far (p := ⟨gb229, _, none⟩) NB228_229.out _).trans (((cell_far (p := ⟨gb229, _, none⟩) NB228_229.out _).trans (hHeld.2.2.2))))))))⟩ (fun hHeld => ?_)
  clear hK K
  refine done_ (done_of HT_.out (by kernel_rfl)) ?_
  try go_wp2
  refine bodyPost_ret (results_cell_row rfl _ _ gb229 31 #[.int .i64 (wrap64 (Int.tdiv a0_0 t233)), .int .i64 (wrap64 (Int.tdiv a0_1 t233)), .int .i64 (wrap64 (Int.tdiv a0_2 t233)), .int .i64 (wrap64 (Int.tdiv a0_3 t233))] (0, 0) _ rfl (by (with_reducible repeat (first | refine blk_drewN ?_ _ | refine blk_drew ?_ | refine blk_alloc ?_ _)); refine blk_put (cs := #[.int .i64 (wrap64 (Int.tdiv a0_0 t233)), .int .i64 (wrap64 (Int.tdiv a0_1 t233)), .int .i64 (wrap64 (Int.tdiv a0_2 t233)), .int .i64 0]) ?_ 3 _ rfl; (with_reducible repeat (first | refine blk_drewN ?_ _ | refine blk_drew ?_ | refine blk_alloc ?_ _)); refine blk_put (cs := #[.int .i64 (wrap64 (Int.tdiv a0_0 t233)), .int .i64 (wrap64 (Int.tdiv a0_1 t233)), .int .i64 0, .int .i64 0]) ?_ 2 _ rfl; (with_reducible repeat (first | refine blk_drewN ?_ _ | refine blk_drew ?_ | refine blk_alloc ?_ _)); refine blk_put (cs := #[.int .i64 (wrap64 (Int.tdiv a0_0 t233)), .int .i64 0, .int .i64 0, .int .i64 0]) ?_ 1 _ rfl; (with_reducible repeat (first | refine blk_drewN ?_ _ | refine blk_drew ?_ | refine blk_alloc ?_ _)); refine blk_put (cs := #[.int .i64 0, .int .i64 0, .int .i64 0, .int .i64 0]) ?_ 0 _ rfl; (with_reducible repeat (first | refine blk_drewN ?_ _ | refine blk_drew ?_ | refine blk_alloc ?_ _)); exact BK229.out) Try.underlying31 rfl (by kernel_rfl)) rfl ?_
  exact ⟨z5_4_, z5_5_⟩
/-! ### impl_Moebius_largest: function 66 -/
def impl_Moebius_largest.f (a0_0 : Int) (a0_1 : Int) (a0_2 : Int) (a0_3 : Int) : Option (Int) := some (mx (mx (mx (mx (mx (mx (mx a0_0 (wrap64 (-a0_0))) a0_1) (wrap64 (-a0_1))) a0_2) (wrap64 (-a0_2))) a0_3) (wrap64 (-a0_3)))
set_option maxHeartbeats 8000000 in
set_option maxRecDepth 100000 in
theorem impl_Moebius_largest.calls (a0_0 : Int) (a0_1 : Int) (a0_2 : Int) (a0_3 : Int) (r : Int) (w : World) (h : impl_Moebius_largest.f a0_0 a0_1 a0_2 a0_3 = some r) :
  Calls Try.prog 66 #[.agg #[.int .i64 a0_0, .int .i64 a0_1, .int .i64 a0_2, .int .i64 a0_3]] w fun e w' => e = .returned (.int .i64 r) ∧ Below w.heap.size w w' := by
 have hu31 := Try.underlying31
 have HB := A_ (Below.refl w.heap.size w)
 have H : (some (mx (mx (mx (mx (mx (mx (mx a0_0 (wrap64 (-a0_0))) a0_1) (wrap64 (-a0_1))) a0_2) (wrap64 (-a0_2))) a0_3) (wrap64 (-a0_3)))) = some r := h
 clear h
 obtain ⟨ji2, hji2⟩ : ∃ j_ : Int, (mx a0_0 (wrap64 (-a0_0))) = j_ := ⟨_, rfl⟩
 replace H : (some (mx (mx (mx (mx (mx (mx (ji2) a0_1) (wrap64 (-a0_1))) a0_2) (wrap64 (-a0_2))) a0_3) (wrap64 (-a0_3)))) = some r := by first | (rw [hji2] at H; exact H) | (simp only [hji2] at H ⊢; exact H)
 have hji2_ : (if a0_0 < (wrap64 (-a0_0)) then (wrap64 (-a0_0)) else a0_0) = ji2 := hji2
 obtain ⟨ji3, hji3⟩ : ∃ j_ : Int, (mx (ji2) a0_1) = j_ := ⟨_, rfl⟩
 replace H : (some (mx (mx (mx (mx (mx (ji3) (wrap64 (-a0_1))) a0_2) (wrap64 (-a0_2))) a0_3) (wrap64 (-a0_3)))) = some r := by first | (rw [hji3] at H; exact H) | (simp only [hji3] at H ⊢; exact H)
 have hji3_ : (if (ji2) < a0_1 then a0_1 else (ji2)) = ji3 := hji3
 obtain ⟨ji4, hji4⟩ : ∃ j_ : Int, (mx (ji3) (wrap64 (-a0_1))) = j_ := ⟨_, rfl⟩
 replace H : (some (mx (mx (mx (mx (ji4) a0_2) (wrap64 (-a0_2))) a0_3) (wrap64 (-a0_3)))) = some r := by first | (rw [hji4] at H; exact H) | (simp only [hji4] at H ⊢; exact H)
 have hji4_ : (if (ji3) < (wrap64 (-a0_1)) then (wrap64 (-a0_1)) else (ji3)) = ji4 := hji4
 obtain ⟨ji5, hji5⟩ : ∃ j_ : Int, (mx (ji4) a0_2) = j_ := ⟨_, rfl⟩
 replace H : (some (mx (mx (mx (ji5) (wrap64 (-a0_2))) a0_3) (wrap64 (-a0_3)))) = some r := by first | (rw [hji5] at H; exact H) | (simp only [hji5] at H ⊢; exact H)
 have hji5_ : (if (ji4) < a0_2 then a0_2 else (ji4)) = ji5 := hji5
 obtain ⟨ji6, hji6⟩ : ∃ j_ : Int, (mx (ji5) (wrap64 (-a0_2))) = j_ := ⟨_, rfl⟩
 replace H : (some (mx (mx (ji6) a0_3) (wrap64 (-a0_3)))) = some r := by first | (rw [hji6] at H; exact H) | (simp only [hji6] at H ⊢; exact H)
 have hji6_ : (if (ji5) < (wrap64 (-a0_2)) then (wrap64 (-a0_2)) else (ji5)) = ji6 := hji6
 obtain ⟨ji7, hji7⟩ : ∃ j_ : Int, (mx (ji6) a0_3) = j_ := ⟨_, rfl⟩
 replace H : (some (mx (ji7) (wrap64 (-a0_3)))) = some r := by first | (rw [hji7] at H; exact H) | (simp only [hji7] at H ⊢; exact H)
 have hji7_ : (if (ji6) < a0_3 then a0_3 else (ji6)) = ji7 := hji7
 obtain ⟨ji8, hji8⟩ : ∃ j_ : Int, (mx (ji7) (wrap64 (-a0_3))) = j_ := ⟨_, rfl⟩
 replace H : (some ji8) = some r := by first | (rw [hji8] at H; exact H) | (simp only [hji8] at H ⊢; exact H)
 have hji8_ : (if (ji7) < (wrap64 (-a0_3)) then (wrap64 (-a0_3)) else (ji7)) = ji8 := hji8
 obtain rfl := Option.some.inj H
 go_enter Try.func66, Try.ntmps66
 go_wp2_with (first | ((with_reducible refine gate_dst (N := 1) rfl ?_); refine box_event ?hg (N := 1) ?hd (cs := #[.int .i64 a0_0, .int .i64 a0_1, .int .i64 a0_2, .int .i64 a0_3]) (t := 31) ?hr ?_; (case hd => rfl); (case hg => rfl); (case hr => first | (go_simp; done) | (go_simp; rfl)); intro gb234 hg w9 hbox hb; have _ := A_ (below_step z5_1_ hb); have _ := A_ (hbox); have _ := A_ ((by rw [hg]; exact (below_size z5_1_) : w.heap.size ≤ gb234)); have _ := A_ ((by rw [hg]; exact (below_size z5_1_) : w.heap.size ≤ gb234)); clear HB; rename_i HB BK234 GW234 GE234; clear hb hbox hg; obtain ⟨hcz10_0, hcz10_1, hcz10_2, hcz10_3⟩ := bc4 BK234.out; obtain ⟨hfz10_0, hfz10_1, hfz10_2, hfz10_3⟩ := bf4 BK234.out))
 go_ret
 exact ⟨(by first | rfl | (simp [errW_none, errW_some] <;> rfl) | (simp only [← hji2, ← hji3, ← hji4, ← hji5, ← hji6, ← hji7, ← hji8]; first | rfl | (simp [errW_none, errW_some] <;> rfl)) | (simp [*, errW_none, errW_some] <;> rfl)), (by repeat (first | (with_reducible first | exact HB.out | apply below_alloc | apply pw_below_drewN | apply below_drew1 | refine below_set ?_ GE234.out) | exact HB.out))⟩
/-! ### impl_Moebius_lies: function 74 -/
def impl_Moebius_lies.l0 : Nat → Int → Int → List Int → Int → Int → Int → Int → Int → Int → Option (Bool)
 | 0, _, _, _, _, _, _, _, _, _ => none
 | k + 1, x1, x2, x11, x12, x13, x236000, x236001, x236002, x236003 => if x13 < x12 then (if 0 ≤ x13 then (if x13 < (x11.length : Int) then (if (wrap64 (2 * (wrap64 ((wrap64 ((rd x11 x13) * x236000)) + x236001)))) < (wrap64 (x1 * (wrap64 ((wrap64 ((rd x11 x13) * x236002)) + x236003)))) then (some false) else (if (wrap64 (2 * (wrap64 ((wrap64 ((rd x11 x13) * x236000)) + x236001)))) > (wrap64 (x2 * (wrap64 ((wrap64 ((rd x11 x13) * x236002)) + x236003)))) then (some false) else (impl_Moebius_lies.l0 k x1 x2 x11 x12 (wrap64 (x13 + 1)) x236000 x236001 x236002 x236003))) else (none)) else (none)) else (some true)
def impl_Moebius_lies.f (k : Nat) (a0_0 : Int) (a0_1 : Int) (a0_2 : Int) (a0_3 : Int) (a1 : Int) (a2 : Int) : Option (Bool) := (some (([(-1), 1] : List Int) : List Int)).bind fun y236 => (impl_Moebius_lies.l0 k a1 a2 y236 (y236.length : Int) 0 a0_0 a0_1 a0_2 a0_3)
theorem impl_Moebius_lies.mono_l : ∀ k, (∀ y0 y1 y2 y3 y4 y5 y6 y7 y8, LeO (impl_Moebius_lies.l0 k y0 y1 y2 y3 y4 y5 y6 y7 y8) (impl_Moebius_lies.l0 (k + 1) y0 y1 y2 y3 y4 y5 y6 y7 y8))
 | 0 => fun _ _ _ _ _ _ _ _ _ r h => by simp [impl_Moebius_lies.l0] at h
 | k + 1 => by
  have ih0 := impl_Moebius_lies.mono_l k
  ·
   intro y0 y1 y2 y3 y4 y5 y6 y7 y8
   unfold impl_Moebius_lies.l0
   repeat' first
   | (with_reducible exact ih0 _ _ _ _ _ _ _ _ _)
   | (with_reducible exact LeO.refl _)
   | (with_reducible exact LeO.none _)
   | (with_reducible refine LeO.ite ?_ ?_)
   | (with_reducible refine LeO.bind ?_ (fun _ => ?_))
   | exact ih0 _ _ _ _ _ _ _ _ _
   | exact LeO.none _
   | refine LeO.ite ?_ ?_
   | refine LeO.bind ?_ (fun _ => ?_)
theorem impl_Moebius_lies.mono : ∀ a0 a1 a2 a3 a4 a5 k, LeO (impl_Moebius_lies.f k a0 a1 a2 a3 a4 a5) (impl_Moebius_lies.f (k + 1) a0 a1 a2 a3 a4 a5) := by
 intro a0 a1 a2 a3 a4 a5 k
 have ih0 := impl_Moebius_lies.mono_l k
 unfold impl_Moebius_lies.f
 repeat' first
   | (with_reducible exact ih0 _ _ _ _ _ _ _ _ _)
   | (with_reducible exact LeO.refl _)
   | (with_reducible exact LeO.none _)
   | (with_reducible refine LeO.ite ?_ ?_)
   | (with_reducible refine LeO.bind ?_ (fun _ => ?_))
   | exact ih0 _ _ _ _ _ _ _ _ _
   | exact LeO.none _
   | refine LeO.ite ?_ ?_
   | refine LeO.bind ?_ (fun _ => ?_)
set_option maxHeartbeats 8000000 in
set_option maxRecDepth 100000 in
theorem impl_Moebius_lies.calls (k : Nat) (a0_0 : Int) (a0_1 : Int) (a0_2 : Int) (a0_3 : Int) (a1 : Int) (a2 : Int) (r : Bool) (w : World) (h : impl_Moebius_lies.f k a0_0 a0_1 a0_2 a0_3 a1 a2 = some r) :
  Calls Try.prog 74 #[.agg #[.int .i64 a0_0, .int .i64 a0_1, .int .i64 a0_2, .int .i64 a0_3], .int .i64 a1, .int .i64 a2] w fun e w' => e = .returned (.bool r) ∧ Below w.heap.size w w' := by
 have hu31 := Try.underlying31
 have HB := A_ (Below.refl w.heap.size w)
 have H : ((some (([(-1), 1] : List Int) : List Int)).bind fun y236 => (impl_Moebius_lies.l0 k a1 a2 y236 (y236.length : Int) 0 a0_0 a0_1 a0_2 a0_3)) = some r := h
 clear h
 obtain ⟨y236, hy236⟩ : ∃ y_ : List Int, y_ = (([(-1), 1] : List Int)) := ⟨_, rfl⟩
 replace H : (impl_Moebius_lies.l0 k a1 a2 y236 (y236.length : Int) 0 a0_0 a0_1 a0_2 a0_3) = some r := by first | (rw [hy236]; with_reducible exact H) | (have H2_ := (Option.bind_some _ _).symm.trans H; rw [hy236]; with_reducible exact H2_) | (have H2_ := (Option.bind_some _ _).symm.trans H; with_reducible exact H2_) | with_reducible exact H | (rw [hy236]; exact H) | exact H
 have Ny236 := A_ hy236
 clear hy236
 have H' := A_ H
 clear H
 go_enter Try.func74, Try.ntmps74
 go_wp2_with (first | ((with_reducible refine gate_dst (N := 3) rfl ?_); refine box_event ?hg (N := 3) ?hd (cs := #[.int .i64 a0_0, .int .i64 a0_1, .int .i64 a0_2, .int .i64 a0_3]) (t := 31) ?hr ?_; (case hd => rfl); (case hg => rfl); (case hr => first | (go_simp; done) | (go_simp; rfl)); intro gb235 hg w4 hbox hb; have _ := A_ (below_step z5_1_ hb); have _ := A_ (hbox); have _ := A_ ((by rw [hg]; exact (below_size z5_1_) : w.heap.size ≤ gb235)); have _ := A_ ((by rw [hg]; exact (below_size z5_1_) : w.heap.size ≤ gb235)); clear HB; rename_i HB BK235 GW235 GE235; clear hb hbox hg) | ((with_reducible refine gate_dst (N := 11) rfl ?_); refine Kd.R_lit (Kd.int .i64) _ 2 ?hg (N := 11) ?hd (xs := ([(-1), 1] : List Int)) (inner := [.int .i64 (-1), .int .i64 1]) (ok := fun _ => True) (okp := fun _ => True) ?hr ?hp (fun _ hk => hk) trivial (Below.refl _ _) (Nat.le_refl _) (by simp) ?_; (case hd => rfl); (case hg => rfl); (case hr => first | (go_simp; done) | (go_simp; rfl)); (case hp => exact (Reps.one (show Kd.M (Kd.int .i64) _ _ _ (-1) [.int .i64 (-1)] from rfl) (Reps.one (show Kd.M (Kd.int .i64) _ _ _ 1 [.int .i64 1] from rfl) (Reps.none _ _)))); intro v237 w5 ho6 hb hg_ hnew_; clear hg_ hnew_; (first | rw [← Ny236.out] at ho6 | (simp only [Int.reduceToNat] at ho6; rw [← Ny236.out] at ho6)); have _ := A_ (Kd.R_lower ho6 (below_size z5_2_)); have _ := A_ (blk_below (g := gb235) (o := .cells #[.int .i64 a0_0, .int .i64 a0_1, .int .i64 a0_2, .int .i64 a0_3] 31 (0, 0)) z5_14_ hb); have _ := A_ (below_step z5_2_ hb); clear BK235 HB; rename_i HO238 BK235 HB; clear hb ho6; obtain ⟨Ao7, co7, eo7⟩ := Kd.R_slice HO238.out; subst eo7))
 repeat (go_quiet (first | ((with_reducible refine gate_dst (N := 3) rfl ?_); refine box_event ?hg (N := 3) ?hd (cs := #[.int .i64 a0_0, .int .i64 a0_1, .int .i64 a0_2, .int .i64 a0_3]) (t := 31) ?hr ?_; (case hd => rfl); (case hg => rfl); (case hr => first | (go_simp; done) | (go_simp; rfl)); intro gb235 hg w4 hbox hb; have _ := A_ (below_step z5_1_ hb); have _ := A_ (hbox); have _ := A_ ((by rw [hg]; exact (below_size z5_1_) : w.heap.size ≤ gb235)); have _ := A_ ((by rw [hg]; exact (below_size z5_1_) : w.heap.size ≤ gb235)); clear HB; rename_i HB BK235 GW235 GE235; clear hb hbox hg) | ((with_reducible refine gate_dst (N := 11) rfl ?_); refine Kd.R_lit (Kd.int .i64) _ 2 ?hg (N := 11) ?hd (xs := ([(-1), 1] : List Int)) (inner := [.int .i64 (-1), .int .i64 1]) (ok := fun _ => True) (okp := fun _ => True) ?hr ?hp (fun _ hk => hk) trivial (Below.refl _ _) (Nat.le_refl _) (by simp) ?_; (case hd => rfl); (case hg => rfl); (case hr => first | (go_simp; done) | (go_simp; rfl)); (case hp => exact (Reps.one (show Kd.M (Kd.int .i64) _ _ _ (-1) [.int .i64 (-1)] from rfl) (Reps.one (show Kd.M (Kd.int .i64) _ _ _ 1 [.int .i64 1] from rfl) (Reps.none _ _)))); intro v237 w5 ho6 hb hg_ hnew_; clear hg_ hnew_; (first | rw [← Ny236.out] at ho6 | (simp only [Int.reduceToNat] at ho6; rw [← Ny236.out] at ho6)); have _ := A_ (Kd.R_lower ho6 (below_size z5_2_)); have _ := A_ (blk_below (g := gb235) (o := .cells #[.int .i64 a0_0, .int .i64 a0_1, .int .i64 a0_2, .int .i64 a0_3] 31 (0, 0)) z5_14_ hb); have _ := A_ (below_step z5_2_ hb); clear BK235 HB; rename_i HO238 BK235 HB; clear hb ho6; obtain ⟨Ao7, co7, eo7⟩ := Kd.R_slice HO238.out; subst eo7)); try go_wp2_with (first | ((with_reducible refine gate_dst (N := 3) rfl ?_); refine box_event ?hg (N := 3) ?hd (cs := #[.int .i64 a0_0, .int .i64 a0_1, .int .i64 a0_2, .int .i64 a0_3]) (t := 31) ?hr ?_; (case hd => rfl); (case hg => rfl); (case hr => first | (go_simp; done) | (go_simp; rfl)); intro gb235 hg w4 hbox hb; have _ := A_ (below_step z5_1_ hb); have _ := A_ (hbox); have _ := A_ ((by rw [hg]; exact (below_size z5_1_) : w.heap.size ≤ gb235)); have _ := A_ ((by rw [hg]; exact (below_size z5_1_) : w.heap.size ≤ gb235)); clear HB; rename_i HB BK235 GW235 GE235; clear hb hbox hg) | ((with_reducible refine gate_dst (N := 11) rfl ?_); refine Kd.R_lit (Kd.int .i64) _ 2 ?hg (N := 11) ?hd (xs := ([(-1), 1] : List Int)) (inner := [.int .i64 (-1), .int .i64 1]) (ok := fun _ => True) (okp := fun _ => True) ?hr ?hp (fun _ hk => hk) trivial (Below.refl _ _) (Nat.le_refl _) (by simp) ?_; (case hd => rfl); (case hg => rfl); (case hr => first | (go_simp; done) | (go_simp; rfl)); (case hp => exact (Reps.one (show Kd.M (Kd.int .i64) _ _ _ (-1) [.int .i64 (-1)] from rfl) (Reps.one (show Kd.M (Kd.int .i64) _ _ _ 1 [.int .i64 1] from rfl) (Reps.none _ _)))); intro v237 w5 ho6 hb hg_ hnew_; clear hg_ hnew_; (first | rw [← Ny236.out] at ho6 | (simp only [Int.reduceToNat] at ho6; rw [← Ny236.out] at ho6)); have _ := A_ (Kd.R_lower ho6 (below_size z5_2_)); have _ := A_ (blk_below (g := gb235) (o := .cells #[.int .i64 a0_0, .int .i64 a0_1, .int .i64 a0_2, .int .i64 a0_3] 31 (0, 0)) z5_14_ hb); have _ := A_ (below_step z5_2_ hb); clear BK235 HB; rename_i HO238 BK235 HB; clear hb ho6; obtain ⟨Ao7, co7, eo7⟩ := Kd.R_slice HO238.out; subst eo7)))
 go_loopg [13] k (fun kq v13 w' => ∃ (x13_1 : Int), v13 = .int .i64 x13_1 ∧ Aside0 (impl_Moebius_lies.l0 kq a1 a2 y236 (y236.length : Int) x13_1 a0_0 a0_1 a0_2 a0_3 = some r) ∧ Aside0 (kq ≤ k) ∧ Aside0 (Kd.R (Kd.int .i64) 2 w' w.heap.size (fun _ => True) (.slice Ao7 y236.length co7) y236) ∧ Aside0 (w'.heap[gb235]? = some (.cells #[.int .i64 a0_0, .int .i64 a0_1, .int .i64 a0_2, .int .i64 a0_3] 31 (0, 0))) ∧ Aside0 (Below w.heap.size w w'))
 case atStart => exact ⟨(0), z5_18_, H', ⟨Nat.le_refl _⟩, ⟨(by (with_reducible repeat (first | apply Kd.R_alloc | apply Kd.R_drewN | apply Kd.R_drew)); exact HO238.out)⟩, ⟨z5_14_⟩, ⟨z5_2_⟩⟩
 case round =>
  clear H'
  try clear p2
  try clear c7
  obtain ⟨x13_1, rfl, HA, HK1, HO_11, BK235, HB⟩ := hrel
  cases gk with
  | zero => exact absurd HA.out (by simp [impl_Moebius_lies.l0])
  | succ k1 =>
   have H := HA.out
   clear HA
   simp only [impl_Moebius_lies.l0] at H
   by_cases c8 : x13_1 < (y236.length : Int)
   ·
    rw [if_pos c8] at H
    have c8b0 := decide_eq_true c8
    clear c8
    by_cases c9 : 0 ≤ x13_1
    ·
     rw [if_pos c9] at H
     have c9b0 := decide_eq_true c9
     clear c9
     by_cases c10 : x13_1 < (y236.length : Int)
     ·
      rw [if_pos c10] at H
      have c10b0 := decide_eq_true c10
      clear c10
      by_cases c11 : (wrap64 (2 * (wrap64 ((wrap64 ((rd y236 x13_1) * a0_0)) + a0_1)))) < (wrap64 (a1 * (wrap64 ((wrap64 ((rd y236 x13_1) * a0_2)) + a0_3))))
      ·
       rw [if_pos c11] at H
       have c11b0 := decide_eq_true c11
       clear c11
       obtain rfl := Option.some.inj H
       have p239 : 0 ≤ (x13_1 : Int) := of_decide_eq_true (by assumption)
       have q239 : x13_1 < (y236.length : Int) := of_decide_eq_true (by assumption)
       obtain ⟨ad239, e239, hx239_0⟩ := Kd.at_int (Kd.R_reads' HO_11.out).2.2 x13_1 p239 q239
       cases e239
       replace p239 := eq_true p239
       replace q239 := eq_true q239
       obtain ⟨hcz12_0, hcz12_1, hcz12_2, hcz12_3⟩ := bc4 BK235.out
       obtain ⟨hfz12_0, hfz12_1, hfz12_2, hfz12_3⟩ := bf4 BK235.out
       go_wp2
       repeat (go_quiet (fail); try go_wp2)
       go_ret
       exact ⟨z5_4_, z5_2_⟩
      ·
       rw [if_neg c11] at H
       have c11b0 := decide_eq_false c11
       clear c11
       by_cases c13 : (wrap64 (2 * (wrap64 ((wrap64 ((rd y236 x13_1) * a0_0)) + a0_1)))) > (wrap64 (a2 * (wrap64 ((wrap64 ((rd y236 x13_1) * a0_2)) + a0_3))))
       ·
        rw [if_pos c13] at H
        have c13b0 := decide_eq_true c13
        clear c13
        obtain rfl := Option.some.inj H
        have p239 : 0 ≤ (x13_1 : Int) := of_decide_eq_true (by assumption)
        have q239 : x13_1 < (y236.length : Int) := of_decide_eq_true (by assumption)
        obtain ⟨ad239, e239, hx239_0⟩ := Kd.at_int (Kd.R_reads' HO_11.out).2.2 x13_1 p239 q239
        cases e239
        replace p239 := eq_true p239
        replace q239 := eq_true q239
        obtain ⟨hcz14_0, hcz14_1, hcz14_2, hcz14_3⟩ := bc4 BK235.out
        obtain ⟨hfz14_0, hfz14_1, hfz14_2, hfz14_3⟩ := bf4 BK235.out
        go_wp2
        repeat (go_quiet (fail); try go_wp2)
        go_ret
        exact ⟨z5_4_, z5_2_⟩
       ·
        rw [if_neg c13] at H
        have c13b0 := decide_eq_false c13
        clear c13
        have H' := A_ H
        clear H
        have p239 : 0 ≤ (x13_1 : Int) := of_decide_eq_true (by assumption)
        have q239 : x13_1 < (y236.length : Int) := of_decide_eq_true (by assumption)
        obtain ⟨ad239, e239, hx239_0⟩ := Kd.at_int (Kd.R_reads' HO_11.out).2.2 x13_1 p239 q239
        cases e239
        replace p239 := eq_true p239
        replace q239 := eq_true q239
        obtain ⟨hcz15_0, hcz15_1, hcz15_2, hcz15_3⟩ := bc4 BK235.out
        obtain ⟨hfz15_0, hfz15_1, hfz15_2, hfz15_3⟩ := bf4 BK235.out
        go_wp2
        repeat (go_quiet (fail); try go_wp2)
        go_roundg k1
        case measure => have := HK1.out; omega
        case rel => exact ⟨(wrap64 (x13_1 + 1)), z5_18_, H', ⟨(by have := HK1.out; omega)⟩, ⟨(by (with_reducible repeat (first | apply Kd.R_alloc | apply Kd.R_drewN | apply Kd.R_drew)); exact HO_11.out)⟩, ⟨z5_14_⟩, ⟨z5_2_⟩⟩
     ·
      rw [if_neg c10] at H
      exact absurd H (by simp)
    ·
     rw [if_neg c9] at H
     exact absurd H (by simp)
   ·
    rw [if_neg c8] at H
    have c8b0 := decide_eq_false c8
    clear c8
    obtain rfl := Option.some.inj H
    go_wp2
    repeat (go_quiet (fail); try go_wp2)
    go_ret
    exact ⟨z5_4_, z5_2_⟩
/-! ### impl_Moebius_tells: function 75 -/
def impl_Moebius_tells.l0 : Nat → List Int → Int → Int → Int → Int → Int → Int → Option (Int × Bool)
 | 0, _, _, _, _, _, _, _ => none
 | k + 1, x6, x7, x8, x241000, x241001, x241002, x241003 => if x8 < x7 then (if 0 ≤ x8 then (if x8 < (x6.length : Int) then ((impl_Moebius_lies.f k x241000 x241001 x241002 x241003 (wrap64 ((wrap64 (rd x6 x8)) - 1)) (wrap64 ((wrap64 (rd x6 x8)) + 1))).bind fun t245 => (if t245 = true then (some (rd x6 x8, true)) else (impl_Moebius_tells.l0 k x6 x7 (wrap64 (x8 + 1)) x241000 x241001 x241002 x241003))) else (none)) else (none)) else (some (0, false))
def impl_Moebius_tells.f (k : Nat) (a0_0 : Int) (a0_1 : Int) (a0_2 : Int) (a0_3 : Int) : Option (Int × Bool) := (some (([0, 1, (-1)] : List Int) : List Int)).bind fun y241 => (impl_Moebius_tells.l0 k y241 (y241.length : Int) 0 a0_0 a0_1 a0_2 a0_3)
theorem impl_Moebius_tells.mono_l : ∀ k, (∀ y0 y1 y2 y3 y4 y5 y6, LeO (impl_Moebius_tells.l0 k y0 y1 y2 y3 y4 y5 y6) (impl_Moebius_tells.l0 (k + 1) y0 y1 y2 y3 y4 y5 y6))
 | 0 => fun _ _ _ _ _ _ _ r h => by simp [impl_Moebius_tells.l0] at h
 | k + 1 => by
  have ih0 := impl_Moebius_tells.mono_l k
  ·
   intro y0 y1 y2 y3 y4 y5 y6
   unfold impl_Moebius_tells.l0
   repeat' first
   | (with_reducible exact ih0 _ _ _ _ _ _ _)
   | (with_reducible exact impl_Moebius_lies.mono _ _ _ _ _ _ _)
   | (with_reducible exact LeO.refl _)
   | (with_reducible exact LeO.none _)
   | (with_reducible refine LeO.ite ?_ ?_)
   | (with_reducible refine LeO.bind ?_ (fun _ => ?_))
   | exact ih0 _ _ _ _ _ _ _
   | exact LeO.none _
   | refine LeO.ite ?_ ?_
   | refine LeO.bind ?_ (fun _ => ?_)
theorem impl_Moebius_tells.mono : ∀ a0 a1 a2 a3 k, LeO (impl_Moebius_tells.f k a0 a1 a2 a3) (impl_Moebius_tells.f (k + 1) a0 a1 a2 a3) := by
 intro a0 a1 a2 a3 k
 have ih0 := impl_Moebius_tells.mono_l k
 unfold impl_Moebius_tells.f
 repeat' first
   | (with_reducible exact ih0 _ _ _ _ _ _ _)
   | (with_reducible exact impl_Moebius_lies.mono _ _ _ _ _ _ _)
   | (with_reducible exact LeO.refl _)
   | (with_reducible exact LeO.none _)
   | (with_reducible refine LeO.ite ?_ ?_)
   | (with_reducible refine LeO.bind ?_ (fun _ => ?_))
   | exact ih0 _ _ _ _ _ _ _
   | exact LeO.none _
   | refine LeO.ite ?_ ?_
   | refine LeO.bind ?_ (fun _ => ?_)
set_option maxHeartbeats 8000000 in
set_option maxRecDepth 100000 in
theorem impl_Moebius_tells.calls (k : Nat) (a0_0 : Int) (a0_1 : Int) (a0_2 : Int) (a0_3 : Int) (r1 : Int) (r2 : Bool) (w : World) (h : impl_Moebius_tells.f k a0_0 a0_1 a0_2 a0_3 = some (r1, r2)) :
  Calls Try.prog 75 #[.agg #[.int .i64 a0_0, .int .i64 a0_1, .int .i64 a0_2, .int .i64 a0_3]] w fun e w' => e = .returned (.tuple #[.int .i8 r1, .bool r2]) ∧ Below w.heap.size w w' := by
 have hu31 := Try.underlying31
 have HB := A_ (Below.refl w.heap.size w)
 have H : ((some (([0, 1, (-1)] : List Int) : List Int)).bind fun y241 => (impl_Moebius_tells.l0 k y241 (y241.length : Int) 0 a0_0 a0_1 a0_2 a0_3)) = some (r1, r2) := h
 clear h
 obtain ⟨y241, hy241⟩ : ∃ y_ : List Int, y_ = (([0, 1, (-1)] : List Int)) := ⟨_, rfl⟩
 replace H : (impl_Moebius_tells.l0 k y241 (y241.length : Int) 0 a0_0 a0_1 a0_2 a0_3) = some (r1, r2) := by first | (rw [hy241]; with_reducible exact H) | (have H2_ := (Option.bind_some _ _).symm.trans H; rw [hy241]; with_reducible exact H2_) | (have H2_ := (Option.bind_some _ _).symm.trans H; with_reducible exact H2_) | with_reducible exact H | (rw [hy241]; exact H) | exact H
 have Ny241 := A_ hy241
 clear hy241
 have H' := A_ H
 clear H
 go_enter Try.func75, Try.ntmps75
 go_wp2_with (first | ((with_reducible refine gate_dst (N := 1) rfl ?_); refine box_event ?hg (N := 1) ?hd (cs := #[.int .i64 a0_0, .int .i64 a0_1, .int .i64 a0_2, .int .i64 a0_3]) (t := 31) ?hr ?_; (case hd => rfl); (case hg => rfl); (case hr => first | (go_simp; done) | (go_simp; rfl)); intro gb240 hg w2 hbox hb; have _ := A_ (below_step z5_1_ hb); have _ := A_ (hbox); have _ := A_ ((by rw [hg]; exact (below_size z5_1_) : w.heap.size ≤ gb240)); have _ := A_ ((by rw [hg]; exact (below_size z5_1_) : w.heap.size ≤ gb240)); clear HB; rename_i HB BK240 GW240 GE240; clear hb hbox hg) | ((with_reducible refine gate_dst (N := 6) rfl ?_); refine Kd.R_lit (Kd.int .i8) _ 49 ?hg (N := 6) ?hd (xs := ([0, 1, (-1)] : List Int)) (inner := [.int .i8 0, .int .i8 1, .int .i8 (-1)]) (ok := fun _ => True) (okp := fun _ => True) ?hr ?hp (fun _ hk => hk) trivial (Below.refl _ _) (Nat.le_refl _) (by simp) ?_; (case hd => rfl); (case hg => rfl); (case hr => first | (go_simp; done) | (go_simp; rfl)); (case hp => exact (Reps.one (show Kd.M (Kd.int .i8) _ _ _ 0 [.int .i8 0] from rfl) (Reps.one (show Kd.M (Kd.int .i8) _ _ _ 1 [.int .i8 1] from rfl) (Reps.one (show Kd.M (Kd.int .i8) _ _ _ (-1) [.int .i8 (-1)] from rfl) (Reps.none _ _))))); intro v242 w3 ho4 hb hg_ hnew_; clear hg_ hnew_; (first | rw [← Ny241.out] at ho4 | (simp only [Int.reduceToNat] at ho4; rw [← Ny241.out] at ho4)); have _ := A_ (Kd.R_lower ho4 (below_size z5_8_)); have _ := A_ (blk_below (g := gb240) (o := .cells #[.int .i64 a0_0, .int .i64 a0_1, .int .i64 a0_2, .int .i64 a0_3] 31 (0, 0)) z5_13_ hb); have _ := A_ (below_step z5_8_ hb); clear BK240 HB; rename_i HO243 BK240 HB; clear hb ho4; obtain ⟨Ao5, co5, eo5⟩ := Kd.R_slice HO243.out; subst eo5))
 go_loopg [8] k (fun kq v8 w' => ∃ (x8_1 : Int), v8 = .int .i64 x8_1 ∧ Aside0 (impl_Moebius_tells.l0 kq y241 (y241.length : Int) x8_1 a0_0 a0_1 a0_2 a0_3 = some (r1, r2)) ∧ Aside0 (kq ≤ k) ∧ Aside0 (Kd.R (Kd.int .i8) 49 w' w.heap.size (fun _ => True) (.slice Ao5 y241.length co5) y241) ∧ Aside0 (w'.heap[gb240]? = some (.cells #[.int .i64 a0_0, .int .i64 a0_1, .int .i64 a0_2, .int .i64 a0_3] 31 (0, 0))) ∧ Aside0 (Below w.heap.size w w'))
 case atStart => exact ⟨(0), z5_18_, H', ⟨Nat.le_refl _⟩, ⟨(by (with_reducible repeat (first | apply Kd.R_alloc | apply Kd.R_drewN | apply Kd.R_drew)); exact HO243.out)⟩, ⟨z5_13_⟩, ⟨z5_8_⟩⟩
 case round =>
  clear H'
  try clear p2
  obtain ⟨x8_1, rfl, HA, HK1, HO_6, BK240, HB⟩ := hrel
  cases gk with
  | zero => exact absurd HA.out (by simp [impl_Moebius_tells.l0])
  | succ k1 =>
   have H := HA.out
   clear HA
   simp only [impl_Moebius_tells.l0] at H
   by_cases c6 : x8_1 < (y241.length : Int)
   ·
    rw [if_pos c6] at H
    have c6b0 := decide_eq_true c6
    clear c6
    by_cases c7 : 0 ≤ x8_1
    ·
     rw [if_pos c7] at H
     have c7b0 := decide_eq_true c7
     clear c7
     by_cases c8 : x8_1 < (y241.length : Int)
     ·
      rw [if_pos c8] at H
      have c8b0 := decide_eq_true c8
      clear c8
      replace H := Option.bind_eq_some_iff.mp H
      obtain ⟨t245, A90, H⟩ := H
      try dsimp only at H
      have A9 := A_ A90
      clear A90
      by_cases c10 : t245 = true
      ·
       subst c10
       have H1 := H; rw [if_pos rfl] at H1
       clear H
       have H := H1
       clear H1
       simp only [Option.some.injEq, Prod.mk.injEq] at H
       obtain ⟨rfl, rfl⟩ := H
       have p244 : 0 ≤ (x8_1 : Int) := of_decide_eq_true (by assumption)
       have q244 : x8_1 < (y241.length : Int) := of_decide_eq_true (by assumption)
       obtain ⟨ad244, e244, hx244_0⟩ := Kd.at_int (Kd.R_reads' HO_6.out).2.2 x8_1 p244 q244
       cases e244
       replace p244 := eq_true p244
       replace q244 := eq_true q244
       obtain ⟨hcz11_0, hcz11_1, hcz11_2, hcz11_3⟩ := bc4 BK240.out
       obtain ⟨hfz11_0, hfz11_1, hfz11_2, hfz11_3⟩ := bf4 BK240.out
       go_wp2_with (first | ((with_reducible refine gate_callee (f := 74) rfl ?_); refine goesL_ (some 19) rfl rfl Try.func74 (by kernel_rfl) rfl #[.agg #[.int .i64 a0_0, .int .i64 a0_1, .int .i64 a0_2, .int .i64 a0_3], .int .i64 (wrap64 ((wrap64 (rd y241 x8_1)) - 1)), .int .i64 (wrap64 ((wrap64 (rd y241 x8_1)) + 1))] rfl z5_6_ ?_; (with_reducible refine (impl_Moebius_lies.calls k1 a0_0 a0_1 a0_2 a0_3 (wrap64 ((wrap64 (rd y241 x8_1)) - 1)) (wrap64 ((wrap64 (rd y241 x8_1)) + 1)) true _ A9.out).mono ?_); rintro e w12 ⟨rfl, hb⟩; refine ⟨_, rfl, ?_⟩; have _ := A_ (Kd.R_below z5_21_ hb); have _ := A_ (blk_below (g := gb240) (o := .cells #[.int .i64 a0_0, .int .i64 a0_1, .int .i64 a0_2, .int .i64 a0_3] 31 (0, 0)) z5_13_ hb); have _ := A_ (below_step z5_8_ hb); clear HO_6 BK240 HB; rename_i HO_6 BK240 HB; (try clear hb)))
       go_ret2
       exact ⟨z5_4_, z5_8_⟩
      ·
       replace c10 := Bool.eq_false_iff.mpr c10
       subst c10
       have H1 := H; rw [if_neg (show ¬ (false = true) by decide)] at H1
       clear H
       have H := H1
       clear H1
       have H' := A_ H
       clear H
       have p244 : 0 ≤ (x8_1 : Int) := of_decide_eq_true (by assumption)
       have q244 : x8_1 < (y241.length : Int) := of_decide_eq_true (by assumption)
       obtain ⟨ad244, e244, hx244_0⟩ := Kd.at_int (Kd.R_reads' HO_6.out).2.2 x8_1 p244 q244
       cases e244
       replace p244 := eq_true p244
       replace q244 := eq_true q244
       obtain ⟨hcz13_0, hcz13_1, hcz13_2, hcz13_3⟩ := bc4 BK240.out
       obtain ⟨hfz13_0, hfz13_1, hfz13_2, hfz13_3⟩ := bf4 BK240.out
       go_wp2_with (first | ((with_reducible refine gate_callee (f := 74) rfl ?_); refine goesL_ (some 19) rfl rfl Try.func74 (by kernel_rfl) rfl #[.agg #[.int .i64 a0_0, .int .i64 a0_1, .int .i64 a0_2, .int .i64 a0_3], .int .i64 (wrap64 ((wrap64 (rd y241 x8_1)) - 1)), .int .i64 (wrap64 ((wrap64 (rd y241 x8_1)) + 1))] rfl z5_6_ ?_; (with_reducible refine (impl_Moebius_lies.calls k1 a0_0 a0_1 a0_2 a0_3 (wrap64 ((wrap64 (rd y241 x8_1)) - 1)) (wrap64 ((wrap64 (rd y241 x8_1)) + 1)) false _ A9.out).mono ?_); rintro e w14 ⟨rfl, hb⟩; refine ⟨_, rfl, ?_⟩; have _ := A_ (Kd.R_below z5_21_ hb); have _ := A_ (blk_below (g := gb240) (o := .cells #[.int .i64 a0_0, .int .i64 a0_1, .int .i64 a0_2, .int .i64 a0_3] 31 (0, 0)) z5_13_ hb); have _ := A_ (below_step z5_8_ hb); clear HO_6 BK240 HB; rename_i HO_6 BK240 HB; (try clear hb)))
       go_roundg k1
       case measure => have := HK1.out; omega
       case rel => exact ⟨(wrap64 (x8_1 + 1)), z5_18_, H', ⟨(by have := HK1.out; omega)⟩, ⟨z5_21_⟩, ⟨z5_13_⟩, ⟨z5_8_⟩⟩
     ·
      rw [if_neg c8] at H
      exact absurd H (by simp)
    ·
     rw [if_neg c7] at H
     exact absurd H (by simp)
   ·
    rw [if_neg c6] at H
    have c6b0 := decide_eq_false c6
    clear c6
    simp only [Option.some.injEq, Prod.mk.injEq] at H
    obtain ⟨rfl, rfl⟩ := H
    go_wp2
    go_ret2
    exact ⟨z5_4_, z5_8_⟩
/-! ### impl_Moebius_behind: function 76 -/
def impl_Moebius_behind.f (k : Nat) (a0_0 : Int) (a0_1 : Int) (a0_2 : Int) (a0_3 : Int) (a1 : Int) : Option (Int × Int × Int × Int) := (impl_Moebius_reduced.f k (wrap64 ((wrap64 (2 * a0_0)) - (wrap64 ((wrap64 (a1)) * a0_2)))) (wrap64 ((wrap64 (2 * a0_1)) - (wrap64 ((wrap64 (a1)) * a0_3)))) a0_2 a0_3).bind fun bt248 => (some (bt248.1, bt248.2.1, bt248.2.2.1, bt248.2.2.2))
theorem impl_Moebius_behind.mono : ∀ a0 a1 a2 a3 a4 k, LeO (impl_Moebius_behind.f k a0 a1 a2 a3 a4) (impl_Moebius_behind.f (k + 1) a0 a1 a2 a3 a4) := by
 intro a0 a1 a2 a3 a4 k
 unfold impl_Moebius_behind.f
 repeat' first
   | (with_reducible exact impl_Moebius_reduced.mono _ _ _ _ _)
   | (with_reducible exact LeO.refl _)
   | (with_reducible exact LeO.none _)
   | (with_reducible refine LeO.ite ?_ ?_)
   | (with_reducible refine LeO.bind ?_ (fun _ => ?_))
   | exact LeO.none _
   | refine LeO.ite ?_ ?_
   | refine LeO.bind ?_ (fun _ => ?_)
set_option maxHeartbeats 8000000 in
set_option maxRecDepth 100000 in
theorem impl_Moebius_behind.calls (k : Nat) (a0_0 : Int) (a0_1 : Int) (a0_2 : Int) (a0_3 : Int) (a1 : Int) (r1 : Int) (r2 : Int) (r3 : Int) (r4 : Int) (w : World) (h : impl_Moebius_behind.f k a0_0 a0_1 a0_2 a0_3 a1 = some (r1, r2, r3, r4)) :
  Calls Try.prog 76 #[.agg #[.int .i64 a0_0, .int .i64 a0_1, .int .i64 a0_2, .int .i64 a0_3], .int .i8 a1] w fun e w' => e = .returned (.agg #[.int .i64 r1, .int .i64 r2, .int .i64 r3, .int .i64 r4]) ∧ Below w.heap.size w w' := by
 have hu31 := Try.underlying31
 have HB := A_ (Below.refl w.heap.size w)
 have H : ((impl_Moebius_reduced.f k (wrap64 ((wrap64 (2 * a0_0)) - (wrap64 ((wrap64 (a1)) * a0_2)))) (wrap64 ((wrap64 (2 * a0_1)) - (wrap64 ((wrap64 (a1)) * a0_3)))) a0_2 a0_3).bind fun bt248 => (some (bt248.1, bt248.2.1, bt248.2.2.1, bt248.2.2.2))) = some (r1, r2, r3, r4) := h
 clear h
 replace H := Option.bind_eq_some_iff.mp H
 obtain ⟨⟨t248, t249, t250, t251⟩, A30, H⟩ := H
 try dsimp only at H
 have A3 := A_ A30
 clear A30
 simp only [Option.some.injEq, Prod.mk.injEq] at H
 obtain ⟨rfl, rfl, rfl, rfl⟩ := H
 go_enter Try.func76, Try.ntmps76
 go_wp2_with (first | ((with_reducible refine gate_dst (N := 2) rfl ?_); refine box_event ?hg (N := 2) ?hd (cs := #[.int .i64 a0_0, .int .i64 a0_1, .int .i64 a0_2, .int .i64 a0_3]) (t := 31) ?hr ?_; (case hd => rfl); (case hg => rfl); (case hr => first | (go_simp; done) | (go_simp; rfl)); intro gb246 hg w4 hbox hb; have _ := A_ (below_step z5_1_ hb); have _ := A_ (hbox); have _ := A_ ((by rw [hg]; exact (below_size z5_1_) : w.heap.size ≤ gb246)); have _ := A_ ((by rw [hg]; exact (below_size z5_1_) : w.heap.size ≤ gb246)); clear HB; rename_i HB BK246 GW246 GE246; clear hb hbox hg) | ((with_reducible refine gate_dst (N := 4) rfl ?_); refine box_event ?hg (N := 4) ?hd (cs := #[.int .i64 0, .int .i64 0, .int .i64 0, .int .i64 0]) (t := 31) ?hr ?_; (case hd => rfl); (case hg => rfl); (case hr => first | (go_simp; done) | (go_simp; rfl)); intro gb247 hg w5 hbox hb; have _ := A_ (blk_below (g := gb246) (o := .cells #[.int .i64 a0_0, .int .i64 a0_1, .int .i64 a0_2, .int .i64 a0_3] 31 (0, 0)) z5_16_ hb); have _ := A_ (below_step z5_20_ hb); have _ := A_ (hbox); have _ := A_ ((by rw [hg]; exact (below_size z5_20_) : w.heap.size ≤ gb247)); have _ := A_ ((by rw [hg]; exact (below_size z5_20_) : w.heap.size ≤ gb247)); have _ := A_ ((by rw [hg]; exact Nat.ne_of_lt (blk_lt (g := gb246) (o := .cells #[.int .i64 a0_0, .int .i64 a0_1, .int .i64 a0_2, .int .i64 a0_3] 31 (0, 0)) z5_16_) : gb246 ≠ gb247)); have _ := A_ ((by rw [hg]; exact Nat.ne_of_gt (blk_lt (g := gb246) (o := .cells #[.int .i64 a0_0, .int .i64 a0_1, .int .i64 a0_2, .int .i64 a0_3] 31 (0, 0)) z5_16_) : gb247 ≠ gb246)); clear BK246 HB; rename_i BK246 HB BK247 GW247 GE247 NB246_247 NB247_246; clear hb hbox hg; have hnb6 := NB246_247.out; have hnc6 := NB247_246.out; obtain ⟨hcz7_0, hcz7_1, hcz7_2, hcz7_3⟩ := bc4 BK246.out; obtain ⟨hfz7_0, hfz7_1, hfz7_2, hfz7_3⟩ := bf4 BK246.out) | ((with_reducible refine gate_callee (f := 65) rfl ?_); refine goesL_ (some 29) rfl rfl Try.func65 (by kernel_rfl) rfl #[.agg #[.int .i64 (wrap64 ((wrap64 (2 * a0_0)) - (wrap64 ((wrap64 (a1)) * a0_2)))), .int .i64 (wrap64 ((wrap64 (2 * a0_1)) - (wrap64 ((wrap64 (a1)) * a0_3)))), .int .i64 a0_2, .int .i64 a0_3]] rfl z5_6_ ?_; (with_reducible refine (impl_Moebius_reduced.calls k (wrap64 ((wrap64 (2 * a0_0)) - (wrap64 ((wrap64 (a1)) * a0_2)))) (wrap64 ((wrap64 (2 * a0_1)) - (wrap64 ((wrap64 (a1)) * a0_3)))) a0_2 a0_3 t248 t249 t250 t251 _ A3.out).mono ?_); rintro e w8 ⟨rfl, hb⟩; refine ⟨_, rfl, ?_⟩; have _ := A_ (blk_below (g := gb246) (o := .cells #[.int .i64 a0_0, .int .i64 a0_1, .int .i64 a0_2, .int .i64 a0_3] 31 (0, 0)) z5_16_ hb); have _ := A_ (blk_below (g := gb247) (o := .cells #[.int .i64 0, .int .i64 0, .int .i64 0, .int .i64 0] 31 (0, 0)) (by (with_reducible repeat (first | refine blk_drewN ?_ _ | refine blk_drew ?_ | refine blk_alloc ?_ _)); exact BK247.out) hb); have _ := A_ (below_step z5_23_ hb); clear BK246 BK247 HB; rename_i BK246 BK247 HB; (try clear hb); obtain ⟨hcz9_0, hcz9_1, hcz9_2, hcz9_3⟩ := bc4 BK247.out; obtain ⟨hfz9_0, hfz9_1, hfz9_2, hfz9_3⟩ := bf4 BK247.out))
 refine bodyPost_ret (results_cell_row rfl _ _ gb247 31 #[.int .i64 t248, .int .i64 t249, .int .i64 t250, .int .i64 t251] (0, 0) _ rfl (by (with_reducible repeat (first | refine blk_drewN ?_ _ | refine blk_drew ?_ | refine blk_alloc ?_ _)); refine blk_put (cs := #[.int .i64 t248, .int .i64 t249, .int .i64 t250, .int .i64 0]) ?_ 3 _ rfl; (with_reducible repeat (first | refine blk_drewN ?_ _ | refine blk_drew ?_ | refine blk_alloc ?_ _)); refine blk_put (cs := #[.int .i64 t248, .int .i64 t249, .int .i64 0, .int .i64 0]) ?_ 2 _ rfl; (with_reducible repeat (first | refine blk_drewN ?_ _ | refine blk_drew ?_ | refine blk_alloc ?_ _)); refine blk_put (cs := #[.int .i64 t248, .int .i64 0, .int .i64 0, .int .i64 0]) ?_ 1 _ rfl; (with_reducible repeat (first | refine blk_drewN ?_ _ | refine blk_drew ?_ | refine blk_alloc ?_ _)); refine blk_put (cs := #[.int .i64 0, .int .i64 0, .int .i64 0, .int .i64 0]) ?_ 0 _ rfl; (with_reducible repeat (first | refine blk_drewN ?_ _ | refine blk_drew ?_ | refine blk_alloc ?_ _)); exact BK247.out) Try.underlying31 rfl (by kernel_rfl)) rfl ?_
 exact ⟨z5_4_, z5_23_⟩
/-! ### impl_Moebius_with: function 77 -/
def impl_Moebius_with.f (k : Nat) (a0_0 : Int) (a0_1 : Int) (a0_2 : Int) (a0_3 : Int) (a1 : Int) : Option (Int × Int × Int × Int) := (impl_Moebius_reduced.f k a0_0 (wrap64 ((wrap64 (a0_0 * (wrap64 (a1)))) + (wrap64 (2 * a0_1)))) a0_2 (wrap64 ((wrap64 (a0_2 * (wrap64 (a1)))) + (wrap64 (2 * a0_3))))).bind fun bt254 => (some (bt254.1, bt254.2.1, bt254.2.2.1, bt254.2.2.2))
theorem impl_Moebius_with.mono : ∀ a0 a1 a2 a3 a4 k, LeO (impl_Moebius_with.f k a0 a1 a2 a3 a4) (impl_Moebius_with.f (k + 1) a0 a1 a2 a3 a4) := by
 intro a0 a1 a2 a3 a4 k
 unfold impl_Moebius_with.f
 repeat' first
   | (with_reducible exact impl_Moebius_reduced.mono _ _ _ _ _)
   | (with_reducible exact LeO.refl _)
   | (with_reducible exact LeO.none _)
   | (with_reducible refine LeO.ite ?_ ?_)
   | (with_reducible refine LeO.bind ?_ (fun _ => ?_))
   | exact LeO.none _
   | refine LeO.ite ?_ ?_
   | refine LeO.bind ?_ (fun _ => ?_)
set_option maxHeartbeats 8000000 in
set_option maxRecDepth 100000 in
theorem impl_Moebius_with.calls (k : Nat) (a0_0 : Int) (a0_1 : Int) (a0_2 : Int) (a0_3 : Int) (a1 : Int) (r1 : Int) (r2 : Int) (r3 : Int) (r4 : Int) (w : World) (h : impl_Moebius_with.f k a0_0 a0_1 a0_2 a0_3 a1 = some (r1, r2, r3, r4)) :
  Calls Try.prog 77 #[.agg #[.int .i64 a0_0, .int .i64 a0_1, .int .i64 a0_2, .int .i64 a0_3], .int .i8 a1] w fun e w' => e = .returned (.agg #[.int .i64 r1, .int .i64 r2, .int .i64 r3, .int .i64 r4]) ∧ Below w.heap.size w w' := by
 have hu31 := Try.underlying31
 have HB := A_ (Below.refl w.heap.size w)
 have H : ((impl_Moebius_reduced.f k a0_0 (wrap64 ((wrap64 (a0_0 * (wrap64 (a1)))) + (wrap64 (2 * a0_1)))) a0_2 (wrap64 ((wrap64 (a0_2 * (wrap64 (a1)))) + (wrap64 (2 * a0_3))))).bind fun bt254 => (some (bt254.1, bt254.2.1, bt254.2.2.1, bt254.2.2.2))) = some (r1, r2, r3, r4) := h
 clear h
 replace H := Option.bind_eq_some_iff.mp H
 obtain ⟨⟨t254, t255, t256, t257⟩, A30, H⟩ := H
 try dsimp only at H
 have A3 := A_ A30
 clear A30
 simp only [Option.some.injEq, Prod.mk.injEq] at H
 obtain ⟨rfl, rfl, rfl, rfl⟩ := H
 go_enter Try.func77, Try.ntmps77
 go_wp2_with (first | ((with_reducible refine gate_dst (N := 2) rfl ?_); refine box_event ?hg (N := 2) ?hd (cs := #[.int .i64 a0_0, .int .i64 a0_1, .int .i64 a0_2, .int .i64 a0_3]) (t := 31) ?hr ?_; (case hd => rfl); (case hg => rfl); (case hr => first | (go_simp; done) | (go_simp; rfl)); intro gb252 hg w4 hbox hb; have _ := A_ (below_step z5_1_ hb); have _ := A_ (hbox); have _ := A_ ((by rw [hg]; exact (below_size z5_1_) : w.heap.size ≤ gb252)); have _ := A_ ((by rw [hg]; exact (below_size z5_1_) : w.heap.size ≤ gb252)); clear HB; rename_i HB BK252 GW252 GE252; clear hb hbox hg) | ((with_reducible refine gate_dst (N := 4) rfl ?_); refine box_event ?hg (N := 4) ?hd (cs := #[.int .i64 0, .int .i64 0, .int .i64 0, .int .i64 0]) (t := 31) ?hr ?_; (case hd => rfl); (case hg => rfl); (case hr => first | (go_simp; done) | (go_simp; rfl)); intro gb253 hg w5 hbox hb; have _ := A_ (blk_below (g := gb252) (o := .cells #[.int .i64 a0_0, .int .i64 a0_1, .int .i64 a0_2, .int .i64 a0_3] 31 (0, 0)) z5_15_ hb); have _ := A_ (below_step z5_19_ hb); have _ := A_ (hbox); have _ := A_ ((by rw [hg]; exact (below_size z5_19_) : w.heap.size ≤ gb253)); have _ := A_ ((by rw [hg]; exact (below_size z5_19_) : w.heap.size ≤ gb253)); have _ := A_ ((by rw [hg]; exact Nat.ne_of_lt (blk_lt (g := gb252) (o := .cells #[.int .i64 a0_0, .int .i64 a0_1, .int .i64 a0_2, .int .i64 a0_3] 31 (0, 0)) z5_15_) : gb252 ≠ gb253)); have _ := A_ ((by rw [hg]; exact Nat.ne_of_gt (blk_lt (g := gb252) (o := .cells #[.int .i64 a0_0, .int .i64 a0_1, .int .i64 a0_2, .int .i64 a0_3] 31 (0, 0)) z5_15_) : gb253 ≠ gb252)); clear BK252 HB; rename_i BK252 HB BK253 GW253 GE253 NB252_253 NB253_252; clear hb hbox hg; have hnb6 := NB252_253.out; have hnc6 := NB253_252.out; obtain ⟨hcz7_0, hcz7_1, hcz7_2, hcz7_3⟩ := bc4 BK252.out; obtain ⟨hfz7_0, hfz7_1, hfz7_2, hfz7_3⟩ := bf4 BK252.out) | ((with_reducible refine gate_callee (f := 65) rfl ?_); refine goesL_ (some 29) rfl rfl Try.func65 (by kernel_rfl) rfl #[.agg #[.int .i64 a0_0, .int .i64 (wrap64 ((wrap64 (a0_0 * (wrap64 (a1)))) + (wrap64 (2 * a0_1)))), .int .i64 a0_2, .int .i64 (wrap64 ((wrap64 (a0_2 * (wrap64 (a1)))) + (wrap64 (2 * a0_3))))]] rfl z5_6_ ?_; (with_reducible refine (impl_Moebius_reduced.calls k a0_0 (wrap64 ((wrap64 (a0_0 * (wrap64 (a1)))) + (wrap64 (2 * a0_1)))) a0_2 (wrap64 ((wrap64 (a0_2 * (wrap64 (a1)))) + (wrap64 (2 * a0_3)))) t254 t255 t256 t257 _ A3.out).mono ?_); rintro e w8 ⟨rfl, hb⟩; refine ⟨_, rfl, ?_⟩; have _ := A_ (blk_below (g := gb252) (o := .cells #[.int .i64 a0_0, .int .i64 a0_1, .int .i64 a0_2, .int .i64 a0_3] 31 (0, 0)) z5_15_ hb); have _ := A_ (blk_below (g := gb253) (o := .cells #[.int .i64 0, .int .i64 0, .int .i64 0, .int .i64 0] 31 (0, 0)) (by (with_reducible repeat (first | refine blk_drewN ?_ _ | refine blk_drew ?_ | refine blk_alloc ?_ _)); exact BK253.out) hb); have _ := A_ (below_step z5_22_ hb); clear BK252 BK253 HB; rename_i BK252 BK253 HB; (try clear hb); obtain ⟨hcz9_0, hcz9_1, hcz9_2, hcz9_3⟩ := bc4 BK253.out; obtain ⟨hfz9_0, hfz9_1, hfz9_2, hfz9_3⟩ := bf4 BK253.out))
 refine bodyPost_ret (results_cell_row rfl _ _ gb253 31 #[.int .i64 t254, .int .i64 t255, .int .i64 t256, .int .i64 t257] (0, 0) _ rfl (by (with_reducible repeat (first | refine blk_drewN ?_ _ | refine blk_drew ?_ | refine blk_alloc ?_ _)); refine blk_put (cs := #[.int .i64 t254, .int .i64 t255, .int .i64 t256, .int .i64 0]) ?_ 3 _ rfl; (with_reducible repeat (first | refine blk_drewN ?_ _ | refine blk_drew ?_ | refine blk_alloc ?_ _)); refine blk_put (cs := #[.int .i64 t254, .int .i64 t255, .int .i64 0, .int .i64 0]) ?_ 2 _ rfl; (with_reducible repeat (first | refine blk_drewN ?_ _ | refine blk_drew ?_ | refine blk_alloc ?_ _)); refine blk_put (cs := #[.int .i64 t254, .int .i64 0, .int .i64 0, .int .i64 0]) ?_ 1 _ rfl; (with_reducible repeat (first | refine blk_drewN ?_ _ | refine blk_drew ?_ | refine blk_alloc ?_ _)); refine blk_put (cs := #[.int .i64 0, .int .i64 0, .int .i64 0, .int .i64 0]) ?_ 0 _ rfl; (with_reducible repeat (first | refine blk_drewN ?_ _ | refine blk_drew ?_ | refine blk_alloc ?_ _)); exact BK253.out) Try.underlying31 rfl (by kernel_rfl)) rfl ?_
 exact ⟨z5_4_, z5_22_⟩
/-! ### laws_a2Long: function 22 -/
def laws_a2Long.f (l0 : List Int) (l1 : List Int) : Option (Bool) := if (l0.length : Int) > 3000 then (some true) else (some (decide ((l1.length : Int) > 3000)))
set_option maxHeartbeats 8000000 in
set_option maxRecDepth 100000 in
theorem laws_a2Long.calls (A0 : Option Addr) (c0 : Nat) (l0 : List Int) (A1 : Option Addr) (c1 : Nat) (l1 : List Int) (r : Bool) (w : World) (hr0 : Kd.C (Kd.int .u8) w A0 l0.length l0) (hc0 : l0.length ≤ c0) (hr1 : Kd.C (Kd.int .u8) w A1 l1.length l1) (hc1 : l1.length ≤ c1) (h : laws_a2Long.f l0 l1 = some r) :
  Calls Try.prog 22 #[.slice A0 l0.length c0, .slice A1 l1.length c1] w fun e w' => e = .returned (.bool r) ∧ Drawn0 w w' := by
 have HR0 := A_ hr0
 have HC0 := A_ hc0
 clear hr0 hc0
 have HR1 := A_ hr1
 have HC1 := A_ hc1
 clear hr1 hc1
 have H : (if (l0.length : Int) > 3000 then (some true) else (some (decide ((l1.length : Int) > 3000)))) = some r := h
 clear h
 by_cases c3 : (l0.length : Int) > 3000
 ·
  rw [if_pos c3] at H
  have c3b0 := decide_eq_true c3
  have c3b1 : decide (3000 < l0.length) = true := decide_eq_true (by omega)
  clear c3
  obtain rfl := Option.some.inj H
  go_enter Try.func22, Try.ntmps22
  go_wp2
  go_ret
  exact ⟨z5_18_, (by repeat (first | exact Drawn0.refl _ | apply Drawn0.step))⟩
 ·
  rw [if_neg c3] at H
  have c3b0 := decide_eq_false c3
  have c3b1 : decide (3000 < l0.length) = false := decide_eq_false (by omega)
  clear c3
  obtain rfl := Option.some.inj H
  go_enter Try.func22, Try.ntmps22
  go_wp2
  go_ret
  exact ⟨z5_18_, (by repeat (first | exact Drawn0.refl _ | apply Drawn0.step))⟩
/-- A state of type 115 at block g of W; what its slices lead to came in by w0. -/
def IsS115 (w0 W : World) (g : Nat) (f0 : List Int) (f1 : Int) (f2 : Int) : Prop := ∃ A0 c0, W.heap[g]? = some (.cells #[.slice A0 f0.length c0, .int .i64 f1, .int .u64 f2] 115 (0, 0)) ∧ w0.heap.size ≤ g ∧ Kd.C (Kd.int .u8) w0 A0 f0.length f0
theorem IsS115.grown {w0 W : World} {g : Nat} {f0 : List Int} {f1 : Int} {f2 : Int} {W1 : World} {row : Option Nat} (h : IsS115 w0 W g f0 f1 f2) (hw : W.grownBy W1 row) (hne : some g ≠ row) : IsS115 w0 W1 g f0 f1 f2 := by
 obtain ⟨A0, c0, hb, hg, hr0⟩ := h
 exact ⟨A0, c0, blk_grown hb hw hne, hg, hr0⟩
theorem IsS115.own_neN {w0 W : World} {g : Nat} {f0 : List Int} {f1 : Int} {f2 : Int} {α : Type} {d : Kd α} {e : Nat} {base : Nat} {ok : Nat → Prop} {v : Value} {xs : List α} (h : IsS115 w0 W g f0 f1 f2) (ho : Kd.N d e W base ok v xs) (ht : e ≠ 115) : some g ≠ v.ownBlock := by
 obtain ⟨A0, c0, hb, hg, hr0⟩ := h
 exact Kd.N_ne ho hb ht
theorem IsS115.fresh {w0 W : World} {g : Nat} {f0 : List Int} {f1 : Int} {f2 : Int} (h : IsS115 w0 W g f0 f1 f2) : ∀ k, W.heap.size ≤ k → k ≠ g := by
 obtain ⟨A0, c0, hb, hg, hr0⟩ := h
 exact Kd.freshB hb
theorem IsS115.kept {w0 W : World} {g : Nat} {f0 : List Int} {f1 : Int} {f2 : Int} {W1 : World} {S : Nat → Prop} (h : IsS115 w0 W g f0 f1 f2) (hk : Kept W W1 S) (hne : ¬ S g) : IsS115 w0 W1 g f0 f1 f2 := by
 obtain ⟨A0, c0, hb, hg, hr0⟩ := h
 exact ⟨A0, c0, blk_kept hb hk hne, hg, hr0⟩
theorem IsS115.below {w0 W : World} {g : Nat} {f0 : List Int} {f1 : Int} {f2 : Int} {W1 : World} (h : IsS115 w0 W g f0 f1 f2) (hw : Below W.heap.size W W1) : IsS115 w0 W1 g f0 f1 f2 := h.grown (grown_of_below hw none) (by simp)
theorem IsS115.alloc {w0 W : World} {g : Nat} {f0 : List Int} {f1 : Int} {f2 : Int} (h : IsS115 w0 W g f0 f1 f2) (o : Obj) : IsS115 w0 (W.alloc o) g f0 f1 f2 := h.below (below_alloc (Below.refl _ _) o)
theorem IsS115.drewN {w0 W : World} {g : Nat} {f0 : List Int} {f1 : Int} {f2 : Int} (h : IsS115 w0 W g f0 f1 f2) (m : Nat) : IsS115 w0 (W.drewN m) g f0 f1 f2 := h
theorem IsS115.drew {w0 W : World} {g : Nat} {f0 : List Int} {f1 : Int} {f2 : Int} (h : IsS115 w0 W g f0 f1 f2) : IsS115 w0 W.drew g f0 f1 f2 := h
theorem IsS115.at_ {w0 W : World} {g : Nat} {f0 : List Int} {f1 : Int} {f2 : Int} {w' : World} {m : Nat} (hq : W.drewN m = w') (h : IsS115 w0 W g f0 f1 f2) : IsS115 w0 w' g f0 f1 f2 := by subst hq; exact IsS115.drewN h m
theorem IsS115.apart {w0 W : World} {g : Nat} {f0 : List Int} {f1 : Int} {f2 : Int} {α : Type} {d : Kd α} {e : Nat} {base : Nat} {ok : Nat → Prop} {v : Value} {xs : List α} (h : IsS115 w0 W g f0 f1 f2) (ho : d.R e W base ok v xs) (ht : ∀ q, q ∈ e :: d.E → q ≠ 115) : d.R e W base (fun k => ok k ∧ k ≠ g) v xs := by
 obtain ⟨A0, c0, hb, hg, hr0⟩ := h
 exact Kd.R_types ho hb ht
theorem IsS115.own_ne {w0 W : World} {g : Nat} {f0 : List Int} {f1 : Int} {f2 : Int} {α : Type} {d : Kd α} {e : Nat} {base : Nat} {ok : Nat → Prop} {v : Value} {xs : List α} (h : IsS115 w0 W g f0 f1 f2) (ho : d.R e W base ok v xs) (ht : e ≠ 115) : some g ≠ v.ownBlock := by
 obtain ⟨A0, c0, hb, hg, hr0⟩ := h
 exact Kd.R_ne ho hb ht
theorem IsS115.apartQ {w0 W : World} {g : Nat} {f0 : List Int} {f1 : Int} {f2 : Int} {α : Type} {d : Kd α} {e : Nat} {base : Nat} {ok : Nat → Prop} {v : Value} {xs : List α} (h : IsS115 w0 W g f0 f1 f2) (ho : d.Q e W base ok v xs) (ht : ∀ q, q ∈ e :: d.E → q ≠ 115) : d.Q e W base (fun k => ok k ∧ k ≠ g) v xs := by
 obtain ⟨A0, c0, hb, hg, hr0⟩ := h
 exact Kd.Q_types ho hb ht
theorem IsS115.own_neQ {w0 W : World} {g : Nat} {f0 : List Int} {f1 : Int} {f2 : Int} {α : Type} {d : Kd α} {e : Nat} {base : Nat} {ok : Nat → Prop} {v : Value} {xs : List α} (h : IsS115 w0 W g f0 f1 f2) (ho : d.Q e W base ok v xs) (ht : e ≠ 115) : some g ≠ v.ownBlock := by
 obtain ⟨A0, c0, hb, hg, hr0⟩ := h
 exact Kd.Q_ne ho hb ht
theorem IsS115.apartS {w0 W : World} {g : Nat} {f0 : List Int} {f1 : Int} {f2 : Int} {α : Type} {d : Kd α} {e : Nat} {base : Nat} {ok : Nat → Prop} {v : Value} {xs : List α} (h : IsS115 w0 W g f0 f1 f2) (ho : d.S e W base ok v xs) (ht : ∀ q, q ∈ e :: d.E → q ≠ 115) : d.S e W base (fun k => ok k ∧ k ≠ g) v xs := by
 obtain ⟨A0, c0, hb, hg, hr0⟩ := h
 exact Kd.S_types ho hb ht
theorem IsS115.own_neS {w0 W : World} {g : Nat} {f0 : List Int} {f1 : Int} {f2 : Int} {α : Type} {d : Kd α} {e : Nat} {base : Nat} {ok : Nat → Prop} {v : Value} {xs : List α} (h : IsS115 w0 W g f0 f1 f2) (ho : d.S e W base ok v xs) (ht : e ≠ 115) : some g ≠ v.ownBlock := by
 obtain ⟨A0, c0, hb, hg, hr0⟩ := h
 exact Kd.S_ne ho hb ht
theorem IsS115.lt {w0 W : World} {g : Nat} {f0 : List Int} {f1 : Int} {f2 : Int} (h : IsS115 w0 W g f0 f1 f2) : g < W.heap.size := by
 obtain ⟨A0, c0, hb, hg, hr0⟩ := h
 exact blk_lt hb
theorem IsS115.ge {w0 W : World} {g : Nat} {f0 : List Int} {f1 : Int} {f2 : Int} (h : IsS115 w0 W g f0 f1 f2) : w0.heap.size ≤ g := by
 obtain ⟨A0, c0, hb, hg, hr0⟩ := h
 exact hg
theorem IsS115.ne_blk {w0 W : World} {g : Nat} {f0 : List Int} {f1 : Int} {f2 : Int} {a : Nat} {cs : Array Value} {t : TypeId} {fr : Nat × Nat} (h : IsS115 w0 W g f0 f1 f2) (hb2 : W.heap[a]? = some (.cells cs t fr)) (ht : t ≠ 115) : g ≠ a := by
 obtain ⟨A0, c0, hb, hg, hr0⟩ := h
 rintro rfl
 rw [hb] at hb2
 injection hb2 with hb2
 injection hb2 with _ ht2
 exact ht ht2.symm
theorem IsS115.far {w0 W : World} {g : Nat} {f0 : List Int} {f1 : Int} {f2 : Int} {p : Addr} (h : IsS115 w0 W g f0 f1 f2) (hne : g ≠ p.block) (u : Value) : IsS115 w0 (W.setCell p u) g f0 f1 f2 := by
 obtain ⟨A0, c0, hb, hg, hr0⟩ := h
 exact ⟨A0, c0, blk_far hb hne u, hg, hr0⟩
theorem cellS115_0 {W : World} {g : Nat} {A0 : Option Addr} {c0 : Nat} {f0 : List Int} {f1 : Int} {f2 : Int} (h : W.heap[g]? = some (.cells #[.slice A0 f0.length c0, .int .i64 f1, .int .u64 f2] 115 (0, 0))) : W.cell? ⟨g, 0, none⟩ = some (.slice A0 f0.length c0) := (blk_cell h 0).trans rfl
theorem cellS115_1 {W : World} {g : Nat} {A0 : Option Addr} {c0 : Nat} {f0 : List Int} {f1 : Int} {f2 : Int} (h : W.heap[g]? = some (.cells #[.slice A0 f0.length c0, .int .i64 f1, .int .u64 f2] 115 (0, 0))) : W.cell? ⟨g, 1, none⟩ = some (.int .i64 f1) := (blk_cell h 1).trans rfl
theorem IsS115.set_1 {w0 W : World} {g : Nat} {f0 : List Int} {f1 : Int} {f2 : Int} (h : IsS115 w0 W g f0 f1 f2) (x : Int) : IsS115 w0 (W.setCell ⟨g, 1, none⟩ (.int .i64 x)) g f0 x f2 := by
 obtain ⟨A0, c0, hb, hg, hr0⟩ := h
 exact ⟨A0, c0, (by simpa using blk_set hb 1 (.int .i64 x)), hg, hr0⟩
theorem cellS115_2 {W : World} {g : Nat} {A0 : Option Addr} {c0 : Nat} {f0 : List Int} {f1 : Int} {f2 : Int} (h : W.heap[g]? = some (.cells #[.slice A0 f0.length c0, .int .i64 f1, .int .u64 f2] 115 (0, 0))) : W.cell? ⟨g, 2, none⟩ = some (.int .u64 f2) := (blk_cell h 2).trans rfl
theorem IsS115.set_2 {w0 W : World} {g : Nat} {f0 : List Int} {f1 : Int} {f2 : Int} (h : IsS115 w0 W g f0 f1 f2) (x : Int) : IsS115 w0 (W.setCell ⟨g, 2, none⟩ (.int .u64 x)) g f0 f1 x := by
 obtain ⟨A0, c0, hb, hg, hr0⟩ := h
 exact ⟨A0, c0, (by simpa using blk_set hb 2 (.int .u64 x)), hg, hr0⟩
theorem IsS115.new (w0 W : World) (A0 : Option Addr) (c0 : Nat) (f0 : List Int) (f1 : Int) (f2 : Int) (hB : Below w0.heap.size w0 W) (hr0 : Kd.C (Kd.int .u8) w0 A0 f0.length f0) : IsS115 w0 (W.alloc (.cells #[.slice A0 f0.length c0, .int .i64 f1, .int .u64 f2] 115)) W.heap.size f0 f1 f2 := ⟨A0, c0, (by simpa using heap_alloc_new W _), hB.size, hr0⟩
/-! ### spec_l00Src_next: function 87 -/
def spec_l00Src_next.f (s0_0 : List Int) (s0_1 : Int) (s0_2 : Int) : Option (Int × Int × Int) := if s0_1 < (s0_0.length : Int) then (if 0 ≤ s0_1 then (if (wrap64 (s0_1 + 1)) ≤ (s0_0.length : Int) then (some (wrap64 (rd s0_0 s0_1), wrap64 (s0_1 + 1), IntKind.u64.wrap ((IntKind.u64.wrap ((IntKind.u64.wrap (s0_2 * 6364136223846793005)) + (IntKind.u64.wrap (wrap64 (rd s0_0 s0_1))))) + 1442695040888963407))) else (some (wrap64 (Go.bits .and .u64 ((IntKind.u64.wrap ((IntKind.u64.wrap ((IntKind.u64.wrap (s0_2 * 6364136223846793005)) + (IntKind.u64.wrap (wrap64 (rd s0_0 s0_1))))) + 1442695040888963407)) / 1099511627776) 255), wrap64 (s0_1 + 1), IntKind.u64.wrap ((IntKind.u64.wrap ((IntKind.u64.wrap (s0_2 * 6364136223846793005)) + (IntKind.u64.wrap (wrap64 (rd s0_0 s0_1))))) + 1442695040888963407)))) else (none)) else (if (wrap64 (s0_1 + 1)) ≤ (s0_0.length : Int) then (some (0, wrap64 (s0_1 + 1), IntKind.u64.wrap ((IntKind.u64.wrap ((IntKind.u64.wrap (s0_2 * 6364136223846793005)) + 0)) + 1442695040888963407))) else (some (wrap64 (Go.bits .and .u64 ((IntKind.u64.wrap ((IntKind.u64.wrap ((IntKind.u64.wrap (s0_2 * 6364136223846793005)) + 0)) + 1442695040888963407)) / 1099511627776) 255), wrap64 (s0_1 + 1), IntKind.u64.wrap ((IntKind.u64.wrap ((IntKind.u64.wrap (s0_2 * 6364136223846793005)) + 0)) + 1442695040888963407))))
set_option maxHeartbeats 8000000 in
set_option maxRecDepth 100000 in
theorem spec_l00Src_next.calls (g : Nat) (s0_0 : List Int) (s0_1 : Int) (s0_2 : Int) (r1 : Int) (r2 : Int) (r3 : Int) (w0 w : World) (hI : IsS115 w0 w g s0_0 s0_1 s0_2) (hB : Below w0.heap.size w0 w) (h : spec_l00Src_next.f s0_0 s0_1 s0_2 = some (r1, r2, r3)) :
  Calls Try.prog 87 #[.pointer (some ⟨g, 0, none⟩)] w fun e w' => e = .returned (.int .i64 r1) ∧ IsS115 w0 w' g s0_0 r2 r3 ∧ Below w0.heap.size w0 w' ∧ KeepBut w w' g none := by
 have HI0 := A_ hI
 have HK := A_ (KeepBut.refl w g none)
 have HL := A_ hB.size
 clear hI
 have HW0 := A_ hB.size
 have HB := A_ hB
 clear hB
 have H : (if s0_1 < (s0_0.length : Int) then (if 0 ≤ s0_1 then (if (wrap64 (s0_1 + 1)) ≤ (s0_0.length : Int) then (some (wrap64 (rd s0_0 s0_1), wrap64 (s0_1 + 1), IntKind.u64.wrap ((IntKind.u64.wrap ((IntKind.u64.wrap (s0_2 * 6364136223846793005)) + (IntKind.u64.wrap (wrap64 (rd s0_0 s0_1))))) + 1442695040888963407))) else (some (wrap64 (Go.bits .and .u64 ((IntKind.u64.wrap ((IntKind.u64.wrap ((IntKind.u64.wrap (s0_2 * 6364136223846793005)) + (IntKind.u64.wrap (wrap64 (rd s0_0 s0_1))))) + 1442695040888963407)) / 1099511627776) 255), wrap64 (s0_1 + 1), IntKind.u64.wrap ((IntKind.u64.wrap ((IntKind.u64.wrap (s0_2 * 6364136223846793005)) + (IntKind.u64.wrap (wrap64 (rd s0_0 s0_1))))) + 1442695040888963407)))) else (none)) else (if (wrap64 (s0_1 + 1)) ≤ (s0_0.length : Int) then (some (0, wrap64 (s0_1 + 1), IntKind.u64.wrap ((IntKind.u64.wrap ((IntKind.u64.wrap (s0_2 * 6364136223846793005)) + 0)) + 1442695040888963407))) else (some (wrap64 (Go.bits .and .u64 ((IntKind.u64.wrap ((IntKind.u64.wrap ((IntKind.u64.wrap (s0_2 * 6364136223846793005)) + 0)) + 1442695040888963407)) / 1099511627776) 255), wrap64 (s0_1 + 1), IntKind.u64.wrap ((IntKind.u64.wrap ((IntKind.u64.wrap (s0_2 * 6364136223846793005)) + 0)) + 1442695040888963407))))) = some (r1, r2, r3) := h
 clear h
 by_cases c2 : s0_1 < (s0_0.length : Int)
 ·
  rw [if_pos c2] at H
  have c2b0 := decide_eq_true c2
  clear c2
  by_cases c3 : 0 ≤ s0_1
  ·
   rw [if_pos c3] at H
   have c3b0 := decide_eq_true c3
   clear c3
   by_cases c4 : (wrap64 (s0_1 + 1)) ≤ (s0_0.length : Int)
   ·
    rw [if_pos c4] at H
    have c4b0 := decide_eq_true c4
    clear c4
    simp only [Option.some.injEq, Prod.mk.injEq] at H
    obtain ⟨rfl, rfl, rfl⟩ := H
    obtain ⟨ASz5_0, cSz5_0, HGz5, hgz5, HSz5_0⟩ := HI0.out
    have hcz5_0 := cellS115_0 HGz5
    have hcz5_1 := cellS115_1 HGz5
    have hcz5_2 := cellS115_2 HGz5
    have hfz5_1 := blk_frozen HGz5 1
    have hfz5_2 := blk_frozen HGz5 2
    clear HGz5 hgz5
    have p311 : 0 ≤ (s0_1 : Int) := of_decide_eq_true (by assumption)
    have q311 : s0_1 < (s0_0.length : Int) := of_decide_eq_true (by assumption)
    obtain ⟨ad311, e311, hx311_0⟩ := Kd.at_int HSz5_0 s0_1 p311 q311
    cases e311
    replace hx311_0 := pw_cell_below HB.out hx311_0
    replace p311 := eq_true p311
    replace q311 := eq_true q311
    go_enter Try.func87, Try.ntmps87
    go_wp2
    repeat (go_quiet (fail); try go_wp2)
    go_ret
    exact ⟨z5_4_, z5_11_, z5_7_, z5_3_⟩
   ·
    rw [if_neg c4] at H
    have c4b0 := decide_eq_false c4
    clear c4
    simp only [Option.some.injEq, Prod.mk.injEq] at H
    obtain ⟨rfl, rfl, rfl⟩ := H
    obtain ⟨ASz6_0, cSz6_0, HGz6, hgz6, HSz6_0⟩ := HI0.out
    have hcz6_0 := cellS115_0 HGz6
    have hcz6_1 := cellS115_1 HGz6
    have hcz6_2 := cellS115_2 HGz6
    have hfz6_1 := blk_frozen HGz6 1
    have hfz6_2 := blk_frozen HGz6 2
    clear HGz6 hgz6
    have p311 : 0 ≤ (s0_1 : Int) := of_decide_eq_true (by assumption)
    have q311 : s0_1 < (s0_0.length : Int) := of_decide_eq_true (by assumption)
    obtain ⟨ad311, e311, hx311_0⟩ := Kd.at_int HSz6_0 s0_1 p311 q311
    cases e311
    replace hx311_0 := pw_cell_below HB.out hx311_0
    replace p311 := eq_true p311
    replace q311 := eq_true q311
    go_enter Try.func87, Try.ntmps87
    go_wp2
    repeat (go_quiet (fail); try go_wp2)
    go_ret
    exact ⟨z5_4_, z5_11_, z5_7_, z5_3_⟩
  ·
   rw [if_neg c3] at H
   exact absurd H (by simp)
 ·
  rw [if_neg c2] at H
  have c2b0 := decide_eq_false c2
  clear c2
  by_cases c7 : (wrap64 (s0_1 + 1)) ≤ (s0_0.length : Int)
  ·
   rw [if_pos c7] at H
   have c7b0 := decide_eq_true c7
   clear c7
   simp only [Option.some.injEq, Prod.mk.injEq] at H
   obtain ⟨rfl, rfl, rfl⟩ := H
   obtain ⟨ASz8_0, cSz8_0, HGz8, hgz8, HSz8_0⟩ := HI0.out
   have hcz8_0 := cellS115_0 HGz8
   have hcz8_1 := cellS115_1 HGz8
   have hcz8_2 := cellS115_2 HGz8
   have hfz8_1 := blk_frozen HGz8 1
   have hfz8_2 := blk_frozen HGz8 2
   clear HGz8 hgz8
   go_enter Try.func87, Try.ntmps87
   go_wp2
   repeat (go_quiet (fail); try go_wp2)
   go_ret
   exact ⟨z5_4_, z5_11_, z5_7_, z5_3_⟩
  ·
   rw [if_neg c7] at H
   have c7b0 := decide_eq_false c7
   clear c7
   simp only [Option.some.injEq, Prod.mk.injEq] at H
   obtain ⟨rfl, rfl, rfl⟩ := H
   obtain ⟨ASz9_0, cSz9_0, HGz9, hgz9, HSz9_0⟩ := HI0.out
   have hcz9_0 := cellS115_0 HGz9
   have hcz9_1 := cellS115_1 HGz9
   have hcz9_2 := cellS115_2 HGz9
   have hfz9_1 := blk_frozen HGz9 1
   have hfz9_2 := blk_frozen HGz9 2
   clear HGz9 hgz9
   go_enter Try.func87, Try.ntmps87
   go_wp2
   repeat (go_quiet (fail); try go_wp2)
   go_ret
   exact ⟨z5_4_, z5_11_, z5_7_, z5_3_⟩
/-! ### spec_l00Src_pick: function 79 -/
def spec_l00Src_pick.f (s0_0 : List Int) (s0_1 : Int) (s0_2 : Int) (a1 : Int) : Option (Int × Int × Int) := if a1 ≤ 1 then (some (0, s0_1, s0_2)) else ((spec_l00Src_next.f s0_0 s0_1 s0_2).bind fun bt312 => (if a1 > 200 then ((spec_l00Src_next.f s0_0 bt312.2.1 bt312.2.2).bind fun bt315 => (if a1 = 0 then (none) else (some (Int.tmod (wrap64 ((wrap64 (bt312.1 * 256)) + bt315.1)) a1, bt315.2.1, bt315.2.2)))) else (if a1 = 0 then (none) else (some (Int.tmod bt312.1 a1, bt312.2.1, bt312.2.2)))))
set_option maxHeartbeats 8000000 in
set_option maxRecDepth 100000 in
theorem spec_l00Src_pick.calls (g : Nat) (s0_0 : List Int) (s0_1 : Int) (s0_2 : Int) (a1 : Int) (r1 : Int) (r2 : Int) (r3 : Int) (w0 w : World) (hI : IsS115 w0 w g s0_0 s0_1 s0_2) (hB : Below w0.heap.size w0 w) (h : spec_l00Src_pick.f s0_0 s0_1 s0_2 a1 = some (r1, r2, r3)) :
  Calls Try.prog 79 #[.pointer (some ⟨g, 0, none⟩), .int .i64 a1] w fun e w' => e = .returned (.int .i64 r1) ∧ IsS115 w0 w' g s0_0 r2 r3 ∧ Below w0.heap.size w0 w' ∧ KeepBut w w' g none := by
 have HI0 := A_ hI
 have HK := A_ (KeepBut.refl w g none)
 have HL := A_ hB.size
 clear hI
 have HW0 := A_ hB.size
 have HB := A_ hB
 clear hB
 have H : (if a1 ≤ 1 then (some (0, s0_1, s0_2)) else ((spec_l00Src_next.f s0_0 s0_1 s0_2).bind fun bt312 => (if a1 > 200 then ((spec_l00Src_next.f s0_0 bt312.2.1 bt312.2.2).bind fun bt315 => (if a1 = 0 then (none) else (some (Int.tmod (wrap64 ((wrap64 (bt312.1 * 256)) + bt315.1)) a1, bt315.2.1, bt315.2.2)))) else (if a1 = 0 then (none) else (some (Int.tmod bt312.1 a1, bt312.2.1, bt312.2.2)))))) = some (r1, r2, r3) := h
 clear h
 by_cases c3 : a1 ≤ 1
 ·
  rw [if_pos c3] at H
  have c3b0 := decide_eq_true c3
  clear c3
  simp only [Option.some.injEq, Prod.mk.injEq] at H
  obtain ⟨rfl, rfl, rfl⟩ := H
  go_enter Try.func79, Try.ntmps79
  go_wp2
  go_ret
  exact ⟨z5_4_, z5_12_, z5_7_, z5_3_⟩
 ·
  rw [if_neg c3] at H
  have c3b0 := decide_eq_false c3
  clear c3
  replace H := Option.bind_eq_some_iff.mp H
  obtain ⟨⟨t312, t313, t314⟩, A40, H⟩ := H
  try dsimp only at H
  have A4 := A_ A40
  clear A40
  by_cases c5 : a1 > 200
  ·
   rw [if_pos c5] at H
   have c5b0 := decide_eq_true c5
   clear c5
   replace H := Option.bind_eq_some_iff.mp H
   obtain ⟨⟨t315, t316, t317⟩, A60, H⟩ := H
   try dsimp only at H
   have A6 := A_ A60
   clear A60
   by_cases c7 : a1 = 0
   ·
    rw [if_pos c7] at H
    exact absurd H (by simp)
   ·
    rw [if_neg c7] at H
    have c7b0 : (a1 == 0) = false := beq_eq_false_iff_ne.mpr c7
    have c7b1 : (a1 != 0) = true := bne_iff_ne.mpr c7
    simp only [Option.some.injEq, Prod.mk.injEq] at H
    obtain ⟨rfl, rfl, rfl⟩ := H
    go_enter Try.func79, Try.ntmps79
    go_wp2_with (first | ((with_reducible refine gate_callee (f := 87) rfl ?_); refine goesL_ (some 9) rfl rfl Try.func87 (by kernel_rfl) rfl #[.pointer (some ⟨g, 0, none⟩)] rfl z5_6_ ?_; (with_reducible refine (spec_l00Src_next.calls g s0_0 s0_1 s0_2 t312 t313 t314 w0 _ ?side1 ?side2 A4.out).mono ?_); (case side1 => repeat (first | (with_reducible first | exact HI0.out | apply IsS115.alloc | apply IsS115.drewN | apply IsS115.drew | apply IsS115.set_1 | apply IsS115.set_2) | exact HI0.out)); (case side2 => repeat (first | (with_reducible first | exact HB.out | apply below_alloc | apply pw_below_drewN | apply below_drew1 | refine below_set ?_ (IsS115.ge HI0.out)) | exact HB.out)); rintro e w8 ⟨rfl, hi, hb, hk⟩; refine ⟨_, rfl, ?_⟩; have _ := A_ (KeepBut.trans z5_3_ hk (.inl rfl)); have _ := A_ (hb); have _ := A_ (hi); clear HK HB HI0; rename_i HK HB HI0; (try clear hb)) | ((with_reducible refine gate_callee (f := 87) rfl ?_); refine goesL_ (some 15) rfl rfl Try.func87 (by kernel_rfl) rfl #[.pointer (some ⟨g, 0, none⟩)] rfl z5_6_ ?_; (with_reducible refine (spec_l00Src_next.calls g s0_0 t313 t314 t315 t316 t317 w0 _ ?side1 ?side2 A6.out).mono ?_); (case side1 => repeat (first | (with_reducible first | exact HI0.out | apply IsS115.alloc | apply IsS115.drewN | apply IsS115.drew | apply IsS115.set_1 | apply IsS115.set_2) | exact HI0.out)); (case side2 => repeat (first | (with_reducible first | exact HB.out | apply below_alloc | apply pw_below_drewN | apply below_drew1 | refine below_set ?_ (IsS115.ge HI0.out)) | exact HB.out)); rintro e w9 ⟨rfl, hi, hb, hk⟩; refine ⟨_, rfl, ?_⟩; have _ := A_ (KeepBut.trans z5_3_ hk (.inl rfl)); have _ := A_ (hb); have _ := A_ (hi); clear HK HB HI0; rename_i HK HB HI0; (try clear hb)))
    go_ret
    exact ⟨z5_4_, z5_12_, z5_7_, z5_3_⟩
  ·
   rw [if_neg c5] at H
   have c5b0 := decide_eq_false c5
   clear c5
   by_cases c10 : a1 = 0
   ·
    rw [if_pos c10] at H
    exact absurd H (by simp)
   ·
    rw [if_neg c10] at H
    have c10b0 : (a1 == 0) = false := beq_eq_false_iff_ne.mpr c10
    have c10b1 : (a1 != 0) = true := bne_iff_ne.mpr c10
    simp only [Option.some.injEq, Prod.mk.injEq] at H
    obtain ⟨rfl, rfl, rfl⟩ := H
    go_enter Try.func79, Try.ntmps79
    go_wp2_with (first | ((with_reducible refine gate_callee (f := 87) rfl ?_); refine goesL_ (some 9) rfl rfl Try.func87 (by kernel_rfl) rfl #[.pointer (some ⟨g, 0, none⟩)] rfl z5_6_ ?_; (with_reducible refine (spec_l00Src_next.calls g s0_0 s0_1 s0_2 t312 t313 t314 w0 _ ?side1 ?side2 A4.out).mono ?_); (case side1 => repeat (first | (with_reducible first | exact HI0.out | apply IsS115.alloc | apply IsS115.drewN | apply IsS115.drew | apply IsS115.set_1 | apply IsS115.set_2) | exact HI0.out)); (case side2 => repeat (first | (with_reducible first | exact HB.out | apply below_alloc | apply pw_below_drewN | apply below_drew1 | refine below_set ?_ (IsS115.ge HI0.out)) | exact HB.out)); rintro e w11 ⟨rfl, hi, hb, hk⟩; refine ⟨_, rfl, ?_⟩; have _ := A_ (KeepBut.trans z5_3_ hk (.inl rfl)); have _ := A_ (hb); have _ := A_ (hi); clear HK HB HI0; rename_i HK HB HI0; (try clear hb)))
    go_ret
    exact ⟨z5_4_, z5_12_, z5_7_, z5_3_⟩
/-! ### spec_l00Src_one: function 80 -/
def spec_l00Src_one.f (s0_0 : List Int) (s0_1 : Int) (s0_2 : Int) (a1 : Int) : Option (Bool × Int × Int) := (spec_l00Src_pick.f s0_0 s0_1 s0_2 a1).bind fun bt318 => (some ((bt318.1 == 0), bt318.2.1, bt318.2.2))
set_option maxHeartbeats 8000000 in
set_option maxRecDepth 100000 in
theorem spec_l00Src_one.calls (g : Nat) (s0_0 : List Int) (s0_1 : Int) (s0_2 : Int) (a1 : Int) (r1 : Bool) (r2 : Int) (r3 : Int) (w0 w : World) (hI : IsS115 w0 w g s0_0 s0_1 s0_2) (hB : Below w0.heap.size w0 w) (h : spec_l00Src_one.f s0_0 s0_1 s0_2 a1 = some (r1, r2, r3)) :
  Calls Try.prog 80 #[.pointer (some ⟨g, 0, none⟩), .int .i64 a1] w fun e w' => e = .returned (.bool r1) ∧ IsS115 w0 w' g s0_0 r2 r3 ∧ Below w0.heap.size w0 w' ∧ KeepBut w w' g none := by
 have HI0 := A_ hI
 have HK := A_ (KeepBut.refl w g none)
 have HL := A_ hB.size
 clear hI
 have HW0 := A_ hB.size
 have HB := A_ hB
 clear hB
 have H : ((spec_l00Src_pick.f s0_0 s0_1 s0_2 a1).bind fun bt318 => (some ((bt318.1 == 0), bt318.2.1, bt318.2.2))) = some (r1, r2, r3) := h
 clear h
 replace H := Option.bind_eq_some_iff.mp H
 obtain ⟨⟨t318, t319, t320⟩, A30, H⟩ := H
 try dsimp only at H
 have A3 := A_ A30
 clear A30
 simp only [Option.some.injEq, Prod.mk.injEq] at H
 obtain ⟨rfl, rfl, rfl⟩ := H
 go_enter Try.func80, Try.ntmps80
 go_wp2_with (first | ((with_reducible refine gate_callee (f := 79) rfl ?_); refine goesL_ (some 7) rfl rfl Try.func79 (by kernel_rfl) rfl #[.pointer (some ⟨g, 0, none⟩), .int .i64 a1] rfl z5_6_ ?_; (with_reducible refine (spec_l00Src_pick.calls g s0_0 s0_1 s0_2 a1 t318 t319 t320 w0 _ ?side1 ?side2 A3.out).mono ?_); (case side1 => repeat (first | (with_reducible first | exact HI0.out | apply IsS115.alloc | apply IsS115.drewN | apply IsS115.drew | apply IsS115.set_1 | apply IsS115.set_2) | exact HI0.out)); (case side2 => repeat (first | (with_reducible first | exact HB.out | apply below_alloc | apply pw_below_drewN | apply below_drew1 | refine below_set ?_ (IsS115.ge HI0.out)) | exact HB.out)); rintro e w4 ⟨rfl, hi, hb, hk⟩; refine ⟨_, rfl, ?_⟩; have _ := A_ (KeepBut.trans z5_3_ hk (.inl rfl)); have _ := A_ (hb); have _ := A_ (hi); clear HK HB HI0; rename_i HK HB HI0; (try clear hb)))
 go_ret
 exact ⟨z5_4_, z5_12_, z5_7_, z5_3_⟩
end Go.Proofs.Ytififhihgkbafaa.PM

import Derived.Test.YtififhihgkbafaaPMx0
import Derived.Test.YtififhihgkbafaaPMx1
import Derived.Test.YtififhihgkbafaaPMx2
import Derived.Test.YtififhihgkbafaaPMx5
namespace Go.Proofs.Ytififhihgkbafaa.PM
open Go.RowKit Go.Proofs.YtififhihgkbafaaW.PrintWords Go.Proofs.YtififhihgkbafaaW.PrintLast Go.Proofs.YtififhihgkbafaaW.PrintMore Go.Proofs.YtififhihgkbafaaRP
attribute [local go_sem] max2_int min2_int max_two min_two max_three min_three max_four min_four Go.Proofs.YtififhihgkbafaaRP.max_eight Go.Proofs.YtififhihgkbafaaRP.tmod_len   -- for this text's walks alone
set_option linter.unusedVariables false
set_option linter.unusedSimpArgs false
theorem z6_1_ {P : Prop} (h : P := by (try simp only [List.map_toArray, List.map_cons, List.map_nil]); first | done | rfl | (simp only [List.length_drop, List.length_take]; rfl)) : P := h
theorem z6_2_ {P : Prop} (h : P := by repeat (first | (with_reducible first | exact HK.out | apply KeepBut.set_ | apply keep_drewN | apply keep_drew | apply keep_alloc) | exact HK.out)) : P := h
theorem z6_3_ {P : Prop} (h : P := by repeat (first | (with_reducible first | exact HK.out | apply KeepBut.set_ | apply keep_drewN | apply keep_drew | apply keep_alloc | refine keep_far ?_ GW321.out _) | exact HK.out)) : P := h
theorem z6_4_ {P : Prop} (h : P := by (with_reducible repeat (first | refine blk_drewN ?_ _ | refine blk_drew ?_ | refine blk_alloc ?_ _)); exact BK342.out) : P := h
theorem z6_5_ {P : Prop} (h : P := by (with_reducible repeat (first | refine blk_drewN ?_ _ | refine blk_drew ?_ | refine blk_alloc ?_ _)); exact BK321.out) : P := h
theorem z6_6_ {P : Prop} (h : P := by repeat (first | (with_reducible first | exact HI0.out | apply IsS115.alloc | apply IsS115.drewN | apply IsS115.drew | apply IsS115.set_1 | apply IsS115.set_2) | exact HI0.out)) : P := h
theorem z6_7_ {P : Prop} (h : P := by repeat (first | (with_reducible first | exact HB.out | apply below_alloc | apply pw_below_drewN | apply below_drew1 | refine below_set ?_ (IsS115.ge HI0.out)) | exact HB.out)) : P := h
theorem z6_8_ {P : Prop} (h : P := by repeat (first | (with_reducible first | exact HK.out | apply KeepBut.set_ | apply keep_drewN | apply keep_drew | apply keep_alloc | refine keep_far ?_ GW321.out _ | refine keep_far ?_ GW331.out _) | exact HK.out)) : P := h
theorem z6_9_ {P : Prop} (h : P := by (with_reducible repeat (first | refine blk_drewN ?_ _ | refine blk_drew ?_ | refine blk_alloc ?_ _)); refine blk_put (cs := #[.int .i64 t347, .int .i64 t348, .int .i64 t349, .int .i64 0]) ?_ 3 _ rfl; (with_reducible repeat (first | refine blk_drewN ?_ _ | refine blk_drew ?_ | refine blk_alloc ?_ _)); refine blk_put (cs := #[.int .i64 t347, .int .i64 t348, .int .i64 0, .int .i64 0]) ?_ 2 _ rfl; (with_reducible repeat (first | refine blk_drewN ?_ _ | refine blk_drew ?_ | refine blk_alloc ?_ _)); refine blk_put (cs := #[.int .i64 t347, .int .i64 0, .int .i64 0, .int .i64 0]) ?_ 1 _ rfl; (with_reducible repeat (first | refine blk_drewN ?_ _ | refine blk_drew ?_ | refine blk_alloc ?_ _)); refine blk_put (cs := #[.int .i64 0, .int .i64 0, .int .i64 0, .int .i64 0]) ?_ 0 _ rfl; (with_reducible repeat (first | refine blk_drewN ?_ _ | refine blk_drew ?_ | refine blk_alloc ?_ _)); exact BK353.out) : P := h
theorem z6_10_ {P : Prop} (h : P := by repeat (first | (with_reducible first | exact HB.out | apply below_alloc | apply pw_below_drewN | apply below_drew1) | exact HB.out)) : P := h
theorem z6_11_ {P : Prop} (h : P := by (with_reducible repeat (first | refine blk_drewN ?_ _ | refine blk_drew ?_ | refine blk_alloc ?_ _)); refine blk_put (cs := #[.int .i64 t357, .int .i64 0]) ?_ 1 _ rfl; (with_reducible repeat (first | refine blk_drewN ?_ _ | refine blk_drew ?_ | refine blk_alloc ?_ _)); refine blk_put (cs := #[.int .i64 0, .int .i64 0]) ?_ 0 _ rfl; (with_reducible repeat (first | refine blk_drewN ?_ _ | refine blk_drew ?_ | refine blk_alloc ?_ _)); refine blk_far ?_ NB360_359.out _; (with_reducible repeat (first | refine blk_drewN ?_ _ | refine blk_drew ?_ | refine blk_alloc ?_ _)); refine blk_far ?_ NB360_359.out _; (with_reducible repeat (first | refine blk_drewN ?_ _ | refine blk_drew ?_ | refine blk_alloc ?_ _)); exact BK360.out) : P := h
theorem z6_12_ {P : Prop} (h : P := by (with_reducible repeat (first | refine blk_drewN ?_ _ | refine blk_drew ?_ | refine blk_alloc ?_ _)); refine blk_far ?_ NB359_360.out _; (with_reducible repeat (first | refine blk_drewN ?_ _ | refine blk_drew ?_ | refine blk_alloc ?_ _)); refine blk_far ?_ NB359_360.out _; (with_reducible repeat (first | refine blk_drewN ?_ _ | refine blk_drew ?_ | refine blk_alloc ?_ _)); refine blk_put (cs := #[.int .i64 t355, .int .i64 0]) ?_ 1 _ rfl; (with_reducible repeat (first | refine blk_drewN ?_ _ | refine blk_drew ?_ | refine blk_alloc ?_ _)); refine blk_put (cs := #[.int .i64 0, .int .i64 0]) ?_ 0 _ rfl; (with_reducible repeat (first | refine blk_drewN ?_ _ | refine blk_drew ?_ | refine blk_alloc ?_ _)); exact BK359.out) : P := h
theorem z6_13_ {P : Prop} (h : P := by repeat (first | (with_reducible first | exact HB.out | apply below_alloc | apply pw_below_drewN | apply below_drew1 | refine below_set ?_ (IsS115.ge HI346.out) | refine below_set ?_ GE342.out | refine below_set ?_ GE353.out) | exact HB.out)) : P := h
theorem z6_14_ {P : Prop} (h : P := by repeat (first | (with_reducible first | exact HK.out | apply KeepBut.set_ | apply keep_drewN | apply keep_drew | apply keep_alloc | refine keep_far ?_ GW375.out _) | exact HK.out)) : P := h
theorem z6_15_ {P : Prop} (h : P := by (with_reducible repeat (first | refine blk_drewN ?_ _ | refine blk_drew ?_ | refine blk_alloc ?_ _)); refine blk_far ?_ NB353_360.out _; (with_reducible repeat (first | refine blk_drewN ?_ _ | refine blk_drew ?_ | refine blk_alloc ?_ _)); refine blk_far ?_ NB353_360.out _; (with_reducible repeat (first | refine blk_drewN ?_ _ | refine blk_drew ?_ | refine blk_alloc ?_ _)); refine blk_far ?_ NB353_359.out _; (with_reducible repeat (first | refine blk_drewN ?_ _ | refine blk_drew ?_ | refine blk_alloc ?_ _)); refine blk_far ?_ NB353_359.out _; (with_reducible repeat (first | refine blk_drewN ?_ _ | refine blk_drew ?_ | refine blk_alloc ?_ _)); exact BK353.out) : P := h
theorem z6_16_ {P : Prop} (h : P := by (with_reducible repeat (first | refine blk_drewN ?_ _ | refine blk_drew ?_ | refine blk_alloc ?_ _)); refine blk_far ?_ NB342_360.out _; (with_reducible repeat (first | refine blk_drewN ?_ _ | refine blk_drew ?_ | refine blk_alloc ?_ _)); refine blk_far ?_ NB342_360.out _; (with_reducible repeat (first | refine blk_drewN ?_ _ | refine blk_drew ?_ | refine blk_alloc ?_ _)); refine blk_far ?_ NB342_359.out _; (with_reducible repeat (first | refine blk_drewN ?_ _ | refine blk_drew ?_ | refine blk_alloc ?_ _)); refine blk_far ?_ NB342_359.out _; (with_reducible repeat (first | refine blk_drewN ?_ _ | refine blk_drew ?_ | refine blk_alloc ?_ _)); exact BK342.out) : P := h
theorem z6_17_ {P : Prop} (h : P := by (with_reducible repeat (first | refine blk_drewN ?_ _ | refine blk_drew ?_ | refine blk_alloc ?_ _)); refine blk_far ?_ NB321_331.out _; (with_reducible repeat (first | refine blk_drewN ?_ _ | refine blk_drew ?_ | refine blk_alloc ?_ _)); refine blk_far ?_ NB321_331.out _; (with_reducible repeat (first | refine blk_drewN ?_ _ | refine blk_drew ?_ | refine blk_alloc ?_ _)); refine blk_far ?_ NB321_331.out _; (with_reducible repeat (first | refine blk_drewN ?_ _ | refine blk_drew ?_ | refine blk_alloc ?_ _)); refine blk_far ?_ NB321_331.out _; (with_reducible repeat (first | refine blk_drewN ?_ _ | refine blk_drew ?_ | refine blk_alloc ?_ _)); exact BK321.out) : P := h
theorem z6_18_ {P : Prop} (h : P := by (with_reducible repeat (first | refine blk_drewN ?_ _ | refine blk_drew ?_ | refine blk_alloc ?_ _)); exact BK353.out) : P := h
theorem z6_19_ {P : Prop} (h : P := by first | rfl | (simp [errW_none, errW_some] <;> rfl) | (simp [*, errW_none, errW_some] <;> rfl)) : P := h
theorem z6_20_ {P : Prop} (h : P := by repeat (first | (with_reducible first | exact HB.out | apply below_alloc | apply pw_below_drewN | apply below_drew1 | refine below_set ?_ (IsS115.ge HI346.out) | refine below_set ?_ GE342.out | refine below_set ?_ GE353.out | refine below_set ?_ GE359.out) | exact HB.out)) : P := h
theorem z6_21_ {P : Prop} (h : P := by repeat (first | (with_reducible first | exact HB.out | apply below_alloc | apply pw_below_drewN | apply below_drew1 | refine below_set ?_ (IsS115.ge HI390.out) | refine below_set ?_ GE386.out) | exact HB.out)) : P := h
theorem z6_22_ {P : Prop} (h : P := by repeat (first | (with_reducible first | exact HB.out | apply below_alloc | apply pw_below_drewN | apply below_drew1 | refine below_set ?_ (IsS115.ge HI346.out) | refine below_set ?_ GE342.out) | exact HB.out)) : P := h
theorem z6_23_ {P : Prop} (h : P := by (with_reducible repeat (first | refine blk_drewN ?_ _ | refine blk_drew ?_ | refine blk_alloc ?_ _)); exact BK386.out) : P := h
theorem z6_24_ {P : Prop} (h : P := by repeat (first | (with_reducible first | exact HB.out | apply below_alloc | apply pw_below_drewN | apply below_drew1 | refine below_set ?_ (IsS115.ge HI346.out) | refine below_set ?_ GE342.out | refine below_set ?_ GE353.out | refine below_set ?_ GE359.out | refine below_set ?_ GE360.out) | exact HB.out)) : P := h
theorem z6_25_ {P : Prop} (h : P := by repeat (first | (with_reducible first | exact HB.out | apply below_alloc | apply pw_below_drewN | apply below_drew1 | refine below_set ?_ GE342.out | refine below_set ?_ GE353.out | refine below_set ?_ GE359.out | refine below_set ?_ GE360.out) | exact HB.out)) : P := h
theorem z6_26_ {P : Prop} (h : P := by (with_reducible repeat (first | refine blk_drewN ?_ _ | refine blk_drew ?_ | refine blk_alloc ?_ _)); refine blk_far ?_ NB321_331.out _; (with_reducible repeat (first | refine blk_drewN ?_ _ | refine blk_drew ?_ | refine blk_alloc ?_ _)); exact BK321.out) : P := h
theorem z6_27_ {P : Prop} (h : P := by repeat (first | (with_reducible first | exact HI0.out | apply IsS115.alloc | apply IsS115.drewN | apply IsS115.drew | apply IsS115.set_1 | apply IsS115.set_2 | refine IsS115.far ?_ NB0_321.out _ | refine IsS115.far ?_ NB0_331.out _) | exact HI0.out)) : P := h
theorem z6_28_ {P : Prop} (h : P := by repeat (first | (with_reducible first | exact HB.out | apply below_alloc | apply pw_below_drewN | apply below_drew1 | refine below_set ?_ (IsS115.ge HI0.out) | refine below_set ?_ GE321.out | refine below_set ?_ GE331.out) | exact HB.out)) : P := h
theorem z6_29_ {P : Prop} (h : P := by (with_reducible repeat (first | refine blk_drewN ?_ _ | refine blk_drew ?_ | refine blk_alloc ?_ _)); exact BK359.out) : P := h
theorem z6_30_ {P : Prop} (h : P := by repeat (first | (with_reducible first | exact HI0.out | apply IsS115.alloc | apply IsS115.drewN | apply IsS115.drew | apply IsS115.set_1 | apply IsS115.set_2 | refine IsS115.far ?_ NB0_321.out _) | exact HI0.out)) : P := h
theorem z6_31_ {P : Prop} (h : P := by repeat (first | (with_reducible first | exact HB.out | apply below_alloc | apply pw_below_drewN | apply below_drew1 | refine below_set ?_ (IsS115.ge HI0.out) | refine below_set ?_ GE321.out) | exact HB.out)) : P := h
theorem z6_32_ {P : Prop} (h : P := by (with_reducible repeat (first | apply Kd.R_alloc | apply Kd.R_drewN | apply Kd.R_drew)); exact HO_7.out) : P := h
theorem z6_33_ {P : Prop} (h : P := by first | rfl | (simp; done) | (simp [*]; done) | (simp [isE_]; done)) : P := h
theorem z6_34_ {P : Prop} (h : P := by repeat (first | (with_reducible first | exact HBW.out | apply below_alloc | apply pw_below_drewN | apply below_drew1) | exact HBW.out)) : P := h
theorem z6_35_ {P : Prop} (h : P := by (with_reducible repeat (first | refine blk_drewN ?_ _ | refine blk_drew ?_ | refine blk_alloc ?_ _)); exact BK375.out) : P := h
theorem z6_36_ {P : Prop} (h : P := by (with_reducible repeat (first | apply Kd.R_alloc | apply Kd.R_drewN | apply Kd.R_drew)); exact HO378.out) : P := h
theorem z6_37_ {P : Prop} (h : P := by (with_reducible repeat (first | apply Kd.R_alloc | apply Kd.R_drewN | apply Kd.R_drew)); exact HO365.out) : P := h
/-! ### spec_l03MachineDrawn: function 45 -/
def spec_l03MachineDrawn.f (s0_0 : List Int) (s0_1 : Int) (s0_2 : Int) : Option (Int × Int × Int × Int × Int × Int) := (spec_l00Src_pick.f s0_0 s0_1 s0_2 9).bind fun bt322 => ((spec_l00Src_pick.f s0_0 bt322.2.1 bt322.2.2 9).bind fun bt325 => ((spec_l00Src_pick.f s0_0 bt325.2.1 bt325.2.2 5).bind fun bt328 => ((spec_l03Size.f (wrap64 (bt328.1 - 2))).bind fun t332 => ((spec_l00Src_pick.f s0_0 bt328.2.1 bt328.2.2 5).bind fun bt333 => ((spec_l00Src_one.f s0_0 bt333.2.1 bt333.2.2 2).bind fun bt336 => (if bt336.1 = true then ((spec_l03Size.f (wrap64 (bt322.1 - 4))).bind fun t339 => ((spec_l03Size.f (wrap64 (bt325.1 - 4))).bind fun t340 => (some (wrap64 (bt322.1 - 4), wrap64 (bt325.1 - 4), wrap64 (bt328.1 - 2), wrap64 ((wrap64 ((wrap64 (t332 + 1)) + bt333.1)) + (wrap64 (t339 + t340))), bt336.2.1, bt336.2.2)))) else (some (wrap64 (bt322.1 - 4), wrap64 (bt325.1 - 4), wrap64 (bt328.1 - 2), wrap64 ((wrap64 (t332 + 1)) + bt333.1), bt336.2.1, bt336.2.2))))))))
def spec_l03MachineDrawn.T4 : Bool × List (List Nat × List Nat) := (true, [([], []), ([0], [0]), ([], []), ([2], [2]), ([3], [3]), ([], []), ([5], [5]), ([6, 4], [6]), ([4, 7], [4, 7]), ([1, 8], [1, 8]), ([0, 1, 2, 3, 4, 5, 6, 7, 8, 9], []), ([10, 9, 7, 0, 1, 2, 3, 4, 5, 6, 7, 8, 9], [9, 10])])
def spec_l03MachineDrawn.B4 : List Nat := [0, 1, 0, 4, 12, 0, 32, 124, 252, 511, 1023, 2047]
theorem spec_l03MachineDrawn.tab4 : rtab .any (opsOf Try.f45 4) = spec_l03MachineDrawn.T4 := by kernel_rfl
theorem spec_l03MachineDrawn.bits4 : waitsOk spec_l03MachineDrawn.T4.2 spec_l03MachineDrawn.B4 = true := by kernel_rfl
set_option maxHeartbeats 8000000 in
set_option maxRecDepth 100000 in
theorem spec_l03MachineDrawn.calls (g : Nat) (s0_0 : List Int) (s0_1 : Int) (s0_2 : Int) (r1 : Int) (r2 : Int) (r3 : Int) (r4 : Int) (r5 : Int) (r6 : Int) (w0 w : World) (hI : IsS115 w0 w g s0_0 s0_1 s0_2) (hB : Below w0.heap.size w0 w) (h : spec_l03MachineDrawn.f s0_0 s0_1 s0_2 = some (r1, r2, r3, r4, r5, r6)) :
  Calls Try.prog 45 #[.pointer (some ⟨g, 0, none⟩)] w fun e w' => e = .returned (.agg #[.int .i64 r1, .int .i64 r2, .int .i64 r3, .int .i64 r4]) ∧ IsS115 w0 w' g s0_0 r5 r6 ∧ Below w0.heap.size w0 w' ∧ KeepBut w w' g none := by
 have hu31 := Try.underlying31
 have HI0 := A_ hI
 have HK := A_ (KeepBut.refl w g none)
 have HL := A_ hB.size
 clear hI
 have HW0 := A_ hB.size
 have HB := A_ hB
 clear hB
 have H : ((spec_l00Src_pick.f s0_0 s0_1 s0_2 9).bind fun bt322 => ((spec_l00Src_pick.f s0_0 bt322.2.1 bt322.2.2 9).bind fun bt325 => ((spec_l00Src_pick.f s0_0 bt325.2.1 bt325.2.2 5).bind fun bt328 => ((spec_l03Size.f (wrap64 (bt328.1 - 2))).bind fun t332 => ((spec_l00Src_pick.f s0_0 bt328.2.1 bt328.2.2 5).bind fun bt333 => ((spec_l00Src_one.f s0_0 bt333.2.1 bt333.2.2 2).bind fun bt336 => (if bt336.1 = true then ((spec_l03Size.f (wrap64 (bt322.1 - 4))).bind fun t339 => ((spec_l03Size.f (wrap64 (bt325.1 - 4))).bind fun t340 => (some (wrap64 (bt322.1 - 4), wrap64 (bt325.1 - 4), wrap64 (bt328.1 - 2), wrap64 ((wrap64 ((wrap64 (t332 + 1)) + bt333.1)) + (wrap64 (t339 + t340))), bt336.2.1, bt336.2.2)))) else (some (wrap64 (bt322.1 - 4), wrap64 (bt325.1 - 4), wrap64 (bt328.1 - 2), wrap64 ((wrap64 (t332 + 1)) + bt333.1), bt336.2.1, bt336.2.2))))))))) = some (r1, r2, r3, r4, r5, r6) := h
 clear h
 replace H := Option.bind_eq_some_iff.mp H
 obtain ⟨⟨t322, t323, t324⟩, A20, H⟩ := H
 try dsimp only at H
 have A2 := A_ A20
 clear A20
 replace H := Option.bind_eq_some_iff.mp H
 obtain ⟨⟨t325, t326, t327⟩, A30, H⟩ := H
 try dsimp only at H
 have A3 := A_ A30
 clear A30
 replace H := Option.bind_eq_some_iff.mp H
 obtain ⟨⟨t328, t329, t330⟩, A40, H⟩ := H
 try dsimp only at H
 have A4 := A_ A40
 clear A40
 replace H := Option.bind_eq_some_iff.mp H
 obtain ⟨t332, A50, H⟩ := H
 try dsimp only at H
 have A5 := A_ A50
 clear A50
 replace H := Option.bind_eq_some_iff.mp H
 obtain ⟨⟨t333, t334, t335⟩, A60, H⟩ := H
 try dsimp only at H
 have A6 := A_ A60
 clear A60
 replace H := Option.bind_eq_some_iff.mp H
 obtain ⟨⟨t336, t337, t338⟩, A70, H⟩ := H
 try dsimp only at H
 have A7 := A_ A70
 clear A70
 by_cases c8 : t336 = true
 ·
  subst c8
  have H1 := H; rw [if_pos rfl] at H1
  clear H
  have H := H1
  clear H1
  replace H := Option.bind_eq_some_iff.mp H
  obtain ⟨t339, A90, H⟩ := H
  try dsimp only at H
  have A9 := A_ A90
  clear A90
  replace H := Option.bind_eq_some_iff.mp H
  obtain ⟨t340, A100, H⟩ := H
  try dsimp only at H
  have A10 := A_ A100
  clear A100
  simp only [Option.some.injEq, Prod.mk.injEq] at H
  obtain ⟨rfl, rfl, rfl, rfl, rfl, rfl⟩ := H
  go_enter Try.func45, Try.ntmps45
  try go_wp2_with (first | ((with_reducible refine gate_dst (N := 2) rfl ?_); refine box_event ?hg (N := 2) ?hd (cs := #[.int .i64 0, .int .i64 0, .int .i64 0, .int .i64 0]) (t := 31) ?hr ?_; (case hd => rfl); (case hg => rfl); (case hr => first | (go_simp; done) | (go_simp; rfl)); intro gb321 hg w11 hbox hb; have _ := A_ (IsS115.below z6_6_ hb); have _ := A_ (KeepBut.trans z6_2_ (KeepBut.of_below hb g none) (.inl rfl)); have _ := A_ (below_step z6_7_ hb); have _ := A_ (hbox); have _ := A_ ((by rw [hg]; exact (keep_size (w := w) (g := g) (row := none) z6_2_) : w.heap.size ≤ gb321)); have _ := A_ ((Nat.le_trans HW0.out (by rw [hg]; exact (keep_size (w := w) (g := g) (row := none) z6_2_) : w.heap.size ≤ gb321) : w0.heap.size ≤ gb321)); have _ := A_ ((by rw [hg]; exact Nat.ne_of_lt (IsS115.lt (show IsS115 w0 _ g s0_0 s0_1 s0_2 from by repeat (first | (with_reducible first | exact HI0.out | apply IsS115.alloc | apply IsS115.drewN | apply IsS115.drew | apply IsS115.set_1 | apply IsS115.set_2) | exact HI0.out))) : g ≠ gb321)); have _ := A_ ((by rw [hg]; exact Nat.ne_of_gt (IsS115.lt (show IsS115 w0 _ g s0_0 s0_1 s0_2 from by repeat (first | (with_reducible first | exact HI0.out | apply IsS115.alloc | apply IsS115.drewN | apply IsS115.drew | apply IsS115.set_1 | apply IsS115.set_2) | exact HI0.out))) : gb321 ≠ g)); clear HI0 HK HB; rename_i HI0 HK HB BK321 GW321 GE321 NB0_321 NB321_0; clear hb hbox hg) | ((with_reducible refine gate_callee (f := 79) rfl ?_); refine goesL_ (some 5) rfl rfl Try.func79 (by kernel_rfl) rfl #[.pointer (some ⟨g, 0, none⟩), .int .i64 9] rfl z6_1_ ?_; (with_reducible refine (spec_l00Src_pick.calls g s0_0 s0_1 s0_2 9 t322 t323 t324 w0 _ ?side1 ?side2 A2.out).mono ?_); (case side1 => repeat (first | (with_reducible first | exact HI0.out | apply IsS115.alloc | apply IsS115.drewN | apply IsS115.drew | apply IsS115.set_1 | apply IsS115.set_2 | refine IsS115.far ?_ NB0_321.out _) | exact HI0.out)); (case side2 => repeat (first | (with_reducible first | exact HB.out | apply below_alloc | apply pw_below_drewN | apply below_drew1 | refine below_set ?_ (IsS115.ge HI0.out) | refine below_set ?_ GE321.out) | exact HB.out)); rintro e w12 ⟨rfl, hi, hb, hk⟩; refine ⟨_, rfl, ?_⟩; have _ := A_ (KeepBut.blk hk (g' := gb321) (o := .cells #[.int .i64 0, .int .i64 0, .int .i64 0, .int .i64 0] 31 (0, 0)) z6_5_ NB321_0.out (by simp)); have _ := A_ (KeepBut.trans z6_3_ hk (.inl rfl)); have _ := A_ (hb); have _ := A_ (hi); clear BK321 HK HB HI0; rename_i BK321 HK HB HI0; (try clear hb)) | ((with_reducible refine gate_callee (f := 79) rfl ?_); refine goesL_ (some 8) rfl rfl Try.func79 (by kernel_rfl) rfl #[.pointer (some ⟨g, 0, none⟩), .int .i64 9] rfl z6_1_ ?_; (with_reducible refine (spec_l00Src_pick.calls g s0_0 t323 t324 9 t325 t326 t327 w0 _ ?side1 ?side2 A3.out).mono ?_); (case side1 => repeat (first | (with_reducible first | exact HI0.out | apply IsS115.alloc | apply IsS115.drewN | apply IsS115.drew | apply IsS115.set_1 | apply IsS115.set_2 | refine IsS115.far ?_ NB0_321.out _) | exact HI0.out)); (case side2 => repeat (first | (with_reducible first | exact HB.out | apply below_alloc | apply pw_below_drewN | apply below_drew1 | refine below_set ?_ (IsS115.ge HI0.out) | refine below_set ?_ GE321.out) | exact HB.out)); rintro e w13 ⟨rfl, hi, hb, hk⟩; refine ⟨_, rfl, ?_⟩; have _ := A_ (KeepBut.blk hk (g' := gb321) (o := .cells #[.int .i64 0, .int .i64 0, .int .i64 0, .int .i64 0] 31 (0, 0)) z6_5_ NB321_0.out (by simp)); have _ := A_ (KeepBut.trans z6_3_ hk (.inl rfl)); have _ := A_ (hb); have _ := A_ (hi); clear BK321 HK HB HI0; rename_i BK321 HK HB HI0; (try clear hb)) | ((with_reducible refine gate_callee (f := 79) rfl ?_); refine goesL_ (some 11) rfl rfl Try.func79 (by kernel_rfl) rfl #[.pointer (some ⟨g, 0, none⟩), .int .i64 5] rfl z6_1_ ?_; (with_reducible refine (spec_l00Src_pick.calls g s0_0 t326 t327 5 t328 t329 t330 w0 _ ?side1 ?side2 A4.out).mono ?_); (case side1 => repeat (first | (with_reducible first | exact HI0.out | apply IsS115.alloc | apply IsS115.drewN | apply IsS115.drew | apply IsS115.set_1 | apply IsS115.set_2 | refine IsS115.far ?_ NB0_321.out _) | exact HI0.out)); (case side2 => repeat (first | (with_reducible first | exact HB.out | apply below_alloc | apply pw_below_drewN | apply below_drew1 | refine below_set ?_ (IsS115.ge HI0.out) | refine below_set ?_ GE321.out) | exact HB.out)); rintro e w14 ⟨rfl, hi, hb, hk⟩; refine ⟨_, rfl, ?_⟩; have _ := A_ (KeepBut.blk hk (g' := gb321) (o := .cells #[.int .i64 0, .int .i64 0, .int .i64 0, .int .i64 0] 31 (0, 0)) z6_5_ NB321_0.out (by simp)); have _ := A_ (KeepBut.trans z6_3_ hk (.inl rfl)); have _ := A_ (hb); have _ := A_ (hi); clear BK321 HK HB HI0; rename_i BK321 HK HB HI0; (try clear hb)) | ((with_reducible refine gate_dst (N := 3) rfl ?_); refine box_event ?hg (N := 3) ?hd (cs := #[.int .i64 0, .int .i64 0, .int .i64 0, .int .i64 0]) (t := 31) ?hr ?_; (case hd => rfl); (case hg => rfl); (case hr => first | (go_simp; done) | (go_simp; rfl)); intro gb331 hg w15 hbox hb; have _ := A_ (IsS115.below z6_30_ hb); have _ := A_ (blk_below (g := gb321) (o := .cells #[.int .i64 0, .int .i64 0, .int .i64 0, .int .i64 0] 31 (0, 0)) z6_5_ hb); have _ := A_ (KeepBut.trans z6_3_ (KeepBut.of_below hb g none) (.inl rfl)); have _ := A_ (below_step z6_31_ hb); have _ := A_ (hbox); have _ := A_ ((by rw [hg]; exact (keep_size (w := w) (g := g) (row := none) z6_3_) : w.heap.size ≤ gb331)); have _ := A_ ((Nat.le_trans HW0.out (by rw [hg]; exact (keep_size (w := w) (g := g) (row := none) z6_3_) : w.heap.size ≤ gb331) : w0.heap.size ≤ gb331)); have _ := A_ ((by rw [hg]; exact Nat.ne_of_lt (blk_lt (g := gb321) (o := .cells #[.int .i64 0, .int .i64 0, .int .i64 0, .int .i64 0] 31 (0, 0)) z6_5_) : gb321 ≠ gb331)); have _ := A_ ((by rw [hg]; exact Nat.ne_of_gt (blk_lt (g := gb321) (o := .cells #[.int .i64 0, .int .i64 0, .int .i64 0, .int .i64 0] 31 (0, 0)) z6_5_) : gb331 ≠ gb321)); have _ := A_ ((by rw [hg]; exact Nat.ne_of_lt (IsS115.lt (show IsS115 w0 _ g s0_0 t329 t330 from by repeat (first | (with_reducible first | exact HI0.out | apply IsS115.alloc | apply IsS115.drewN | apply IsS115.drew | apply IsS115.set_1 | apply IsS115.set_2 | refine IsS115.far ?_ NB0_321.out _) | exact HI0.out))) : g ≠ gb331)); have _ := A_ ((by rw [hg]; exact Nat.ne_of_gt (IsS115.lt (show IsS115 w0 _ g s0_0 t329 t330 from by repeat (first | (with_reducible first | exact HI0.out | apply IsS115.alloc | apply IsS115.drewN | apply IsS115.drew | apply IsS115.set_1 | apply IsS115.set_2 | refine IsS115.far ?_ NB0_321.out _) | exact HI0.out))) : gb331 ≠ g)); clear HI0 BK321 HK HB; rename_i HI0 BK321 HK HB BK331 GW331 GE331 NB321_331 NB331_321 NB0_331 NB331_0; clear hb hbox hg; have hnb16 := NB331_321.out; have hnc16 := NB321_331.out; have hnb17 := NB331_0.out; have hnc17 := NB0_331.out; obtain ⟨hcz18_0, hcz18_1, hcz18_2, hcz18_3⟩ := bc4 BK331.out; obtain ⟨hfz18_0, hfz18_1, hfz18_2, hfz18_3⟩ := bf4 BK331.out) | ((with_reducible refine gate_callee (f := 48) rfl ?_); refine goesL_ (some 16) rfl rfl Try.func48 (by kernel_rfl) rfl #[.int .i64 (wrap64 (t328 - 2))] rfl z6_1_ ?_; (with_reducible refine (spec_l03Size.calls (wrap64 (t328 - 2)) t332 _ A5.out).mono ?_); rintro e w' ⟨rfl, ⟨nd, rfl⟩⟩; refine ⟨_, rfl, ?_⟩) | ((with_reducible refine gate_callee (f := 79) rfl ?_); refine goesL_ (some 19) rfl rfl Try.func79 (by kernel_rfl) rfl #[.pointer (some ⟨g, 0, none⟩), .int .i64 5] rfl z6_1_ ?_; (with_reducible refine (spec_l00Src_pick.calls g s0_0 t329 t330 5 t333 t334 t335 w0 _ ?side1 ?side2 A6.out).mono ?_); (case side1 => repeat (first | (with_reducible first | exact HI0.out | apply IsS115.alloc | apply IsS115.drewN | apply IsS115.drew | apply IsS115.set_1 | apply IsS115.set_2 | refine IsS115.far ?_ NB0_321.out _ | refine IsS115.far ?_ NB0_331.out _) | exact HI0.out)); (case side2 => repeat (first | (with_reducible first | exact HB.out | apply below_alloc | apply pw_below_drewN | apply below_drew1 | refine below_set ?_ (IsS115.ge HI0.out) | refine below_set ?_ GE321.out | refine below_set ?_ GE331.out) | exact HB.out)); rintro e w19 ⟨rfl, hi, hb, hk⟩; refine ⟨_, rfl, ?_⟩; have _ := A_ (KeepBut.blk hk (g' := gb321) (o := .cells #[.int .i64 0, .int .i64 0, .int .i64 0, .int .i64 0] 31 (0, 0)) z6_17_ NB321_0.out (by simp)); have _ := A_ (KeepBut.blk hk (g' := gb331) (o := .cells #[.int .i64 (wrap64 (t322 - 4)), .int .i64 (wrap64 (t325 - 4)), .int .i64 (wrap64 (t328 - 2)), .int .i64 0] 31 (0, 0)) (by (with_reducible repeat (first | refine blk_drewN ?_ _ | refine blk_drew ?_ | refine blk_alloc ?_ _)); refine blk_put (cs := #[.int .i64 (wrap64 (t322 - 4)), .int .i64 (wrap64 (t325 - 4)), .int .i64 (wrap64 (t328 - 2)), .int .i64 0]) ?_ 3 _ rfl; (with_reducible repeat (first | refine blk_drewN ?_ _ | refine blk_drew ?_ | refine blk_alloc ?_ _)); refine blk_put (cs := #[.int .i64 (wrap64 (t322 - 4)), .int .i64 (wrap64 (t325 - 4)), .int .i64 0, .int .i64 0]) ?_ 2 _ rfl; (with_reducible repeat (first | refine blk_drewN ?_ _ | refine blk_drew ?_ | refine blk_alloc ?_ _)); refine blk_put (cs := #[.int .i64 (wrap64 (t322 - 4)), .int .i64 0, .int .i64 0, .int .i64 0]) ?_ 1 _ rfl; (with_reducible repeat (first | refine blk_drewN ?_ _ | refine blk_drew ?_ | refine blk_alloc ?_ _)); refine blk_put (cs := #[.int .i64 0, .int .i64 0, .int .i64 0, .int .i64 0]) ?_ 0 _ rfl; (with_reducible repeat (first | refine blk_drewN ?_ _ | refine blk_drew ?_ | refine blk_alloc ?_ _)); exact BK331.out) NB331_0.out (by simp)); have _ := A_ (KeepBut.trans z6_8_ hk (.inl rfl)); have _ := A_ (hb); have _ := A_ (hi); clear BK321 BK331 HK HB HI0; rename_i BK321 BK331 HK HB HI0; (try clear hb); obtain ⟨hcz20_0, hcz20_1, hcz20_2, hcz20_3⟩ := bc4 BK331.out; obtain ⟨hfz20_0, hfz20_1, hfz20_2, hfz20_3⟩ := bf4 BK331.out) | ((with_reducible refine gate_callee (f := 80) rfl ?_); refine goesL_ (some 23) rfl rfl Try.func80 (by kernel_rfl) rfl #[.pointer (some ⟨g, 0, none⟩), .int .i64 2] rfl z6_1_ ?_; (with_reducible refine (spec_l00Src_one.calls g s0_0 t334 t335 2 true t337 t338 w0 _ ?side1 ?side2 A7.out).mono ?_); (case side1 => repeat (first | (with_reducible first | exact HI0.out | apply IsS115.alloc | apply IsS115.drewN | apply IsS115.drew | apply IsS115.set_1 | apply IsS115.set_2 | refine IsS115.far ?_ NB0_321.out _ | refine IsS115.far ?_ NB0_331.out _) | exact HI0.out)); (case side2 => repeat (first | (with_reducible first | exact HB.out | apply below_alloc | apply pw_below_drewN | apply below_drew1 | refine below_set ?_ (IsS115.ge HI0.out) | refine below_set ?_ GE321.out | refine below_set ?_ GE331.out) | exact HB.out)); rintro e w21 ⟨rfl, hi, hb, hk⟩; refine ⟨_, rfl, ?_⟩; have _ := A_ (KeepBut.blk hk (g' := gb321) (o := .cells #[.int .i64 0, .int .i64 0, .int .i64 0, .int .i64 0] 31 (0, 0)) z6_26_ NB321_0.out (by simp)); have _ := A_ (KeepBut.blk hk (g' := gb331) (o := .cells #[.int .i64 (wrap64 (t322 - 4)), .int .i64 (wrap64 (t325 - 4)), .int .i64 (wrap64 (t328 - 2)), .int .i64 (wrap64 ((wrap64 (t332 + 1)) + t333))] 31 (0, 0)) (by (with_reducible repeat (first | refine blk_drewN ?_ _ | refine blk_drew ?_ | refine blk_alloc ?_ _)); refine blk_put (cs := #[.int .i64 (wrap64 (t322 - 4)), .int .i64 (wrap64 (t325 - 4)), .int .i64 (wrap64 (t328 - 2)), .int .i64 0]) ?_ 3 _ rfl; (with_reducible repeat (first | refine blk_drewN ?_ _ | refine blk_drew ?_ | refine blk_alloc ?_ _)); exact BK331.out) NB331_0.out (by simp)); have _ := A_ (KeepBut.trans z6_8_ hk (.inl rfl)); have _ := A_ (hb); have _ := A_ (hi); clear BK321 BK331 HK HB HI0; rename_i BK321 BK331 HK HB HI0; (try clear hb)))
  have _ := A_ (blk_drew BK321.out)
  have _ := A_ (blk_drew BK331.out)
  have _ := A_ (IsS115.drew HI0.out)
  have _ := A_ (keep_drew HK.out)
  have _ := A_ (below_drew1 HB.out)
  clear BK321 BK331 HI0 HK HB
  rename_i BK321 BK331 HI0 HK HB
  refine start_ (n := 12) (S := fun w' => w'.cell? ⟨gb331, 0, none⟩ = some (.int .i64 (wrap64 (t322 - 4))) ∧ w'.cell? ⟨gb331, 1, none⟩ = some (.int .i64 (wrap64 (t325 - 4))) ∧ w'.cell? ⟨gb331, 2, none⟩ = some (.int .i64 (wrap64 (t328 - 2))) ∧ w'.cell? ⟨gb331, 3, none⟩ = some (.int .i64 (wrap64 ((wrap64 (t332 + 1)) + t333)))) (ds := [11]) #[false, false, false, false, false, false, false, false, false, false, false, false] (by kernel_rfl) rfl rfl ⟨(blk_cell BK331.out 0).trans rfl, (blk_cell BK331.out 1).trans rfl, (blk_cell BK331.out 2).trans rfl, (blk_cell BK331.out 3).trans rfl⟩ (fun hHeld => ?_); refine with_tabW spec_l03MachineDrawn.tab4 spec_l03MachineDrawn.bits4 (fun HT_ HW_ => ?_)
  generalize w21.drew = w22 at BK321 BK331 HI0 HK HB hHeld ⊢
  refine pure_ (i := 0) (N := some 24) (v := ?_) (a' := ?_) #[true, false, false, false, false, false, false, false, false, false, false, false] rfl rfl (any_of HT_.out (by kernel_rfl)) (fun _ _ _ h => h) (Or.inl ⟨by rfl, ?_⟩) ?_ ?_
  rotate_left
  ·
   intro w'
   go_simp
   with_reducible rfl
  rotate_left
  ·
   simp only [Act.put, sA_, sB_, sC_, i64_w, i32_w]
   rfl
  refine pure_ (i := 2) (N := some 26) (v := ?_) (a' := ?_) #[true, false, true, false, false, false, false, false, false, false, false, false] rfl rfl (any_of HT_.out (by kernel_rfl)) (fun _ _ _ h => h) (Or.inl ⟨by rfl, ?_⟩) ?_ ?_
  rotate_left
  ·
   intro w'
   go_simp
   with_reducible rfl
  rotate_left
  ·
   simp only [Act.put, sA_, sB_, sC_, i64_w, i32_w]
   rfl
  refine pure_ (i := 5) (N := some 29) (v := ?_) (a' := ?_) #[true, false, true, false, false, true, false, false, false, false, false, false] rfl rfl (any_of HT_.out (by kernel_rfl)) (fun _ _ _ h => h) (Or.inl ⟨by rfl, ?_⟩) ?_ ?_
  rotate_left
  ·
   intro w'
   go_simp
   with_reducible rfl
  rotate_left
  ·
   simp only [Act.put, sA_, sB_, sC_, i64_w, i32_w]
   rfl
  refine take_ (i := 1) (N := some 25) (v := ?_) (a' := ?_) #[true, true, true, false, false, true, false, false, false, false, false, false] rfl rfl (take_ofW HT_.out HW_.out (by kernel_rfl)) (fun _ _ _ h => h) (Or.inl ⟨by rfl, ?_⟩) hHeld ?_ ?_
  rotate_left
  ·
   rintro w' ⟨s0, s1, s2, s3⟩
   go_simp
   with_reducible rfl
  rotate_left
  ·
   simp only [Act.put, sA_, sB_, sC_, i64_w, i32_w]
   rfl
  refine take_ (i := 3) (N := some 27) (v := ?_) (a' := ?_) #[true, true, true, true, false, true, false, false, false, false, false, false] rfl rfl (take_ofW HT_.out HW_.out (by kernel_rfl)) (fun _ _ _ h => h) (Or.inl ⟨by rfl, ?_⟩) hHeld ?_ ?_
  rotate_left
  ·
   rintro w' ⟨s0, s1, s2, s3⟩
   go_simp
   with_reducible rfl
  rotate_left
  ·
   simp only [Act.put, sA_, sB_, sC_, i64_w, i32_w]
   rfl
  refine take_ (i := 6) (N := some 30) (v := ?_) (a' := ?_) #[true, true, true, true, false, true, true, false, false, false, false, false] rfl rfl (take_ofW HT_.out HW_.out (by kernel_rfl)) (fun _ _ _ h => h) (Or.inl ⟨by rfl, ?_⟩) hHeld ?_ ?_
  rotate_left
  ·
   rintro w' ⟨s0, s1, s2, s3⟩
   go_simp
   with_reducible rfl
  rotate_left
  ·
   simp only [Act.put, sA_, sB_, sC_, i64_w, i32_w]
   rfl
  refine one_ (i := 4) (N := some 28) #[true, true, true, true, true, true, true, false, false, false, false, false] rfl rfl (one_of HT_.out (by kernel_rfl)) (by decide) (fun K hK => ?_)
  refine goes_ Try.func48 (by kernel_rfl) rfl #[.int .i64 (wrap64 (t322 - 4))] (by rfl) rfl rfl z6_1_ ?_
  with_reducible refine (spec_l03Size.calls (wrap64 (t322 - 4)) t339 _ A9.out).mono ?_
  rintro e w' ⟨rfl, ⟨nd, rfl⟩⟩
  refine ⟨_, rfl, ?_⟩
  refine hK.out _ _ ⟨(blk_cell BK331.out 0).trans rfl, (blk_cell BK331.out 1).trans rfl, (blk_cell BK331.out 2).trans rfl, (blk_cell BK331.out 3).trans rfl⟩ (fun hHeld => ?_)
  clear hK K
  refine norm_ (a' := ?_) ?_ ?_
  rotate_left
  ·
   show Act.put _ (some 28) _ = _
   simp only [Act.put, sA_, sB_, sC_, i64_w, i32_w]
   rfl
  refine one_ (i := 7) (N := some 31) #[true, true, true, true, true, true, true, true, false, false, false, false] rfl rfl (one_of HT_.out (by kernel_rfl)) (by decide) (fun K hK => ?_)
  refine goes_ Try.func48 (by kernel_rfl) rfl #[.int .i64 (wrap64 (t325 - 4))] (by rfl) rfl rfl z6_1_ ?_
  with_reducible refine (spec_l03Size.calls (wrap64 (t325 - 4)) t340 _ A10.out).mono ?_
  rintro e w' ⟨rfl, ⟨nd, rfl⟩⟩
  refine ⟨_, rfl, ?_⟩
  refine hK.out _ _ ⟨(blk_cell BK331.out 0).trans rfl, (blk_cell BK331.out 1).trans rfl, (blk_cell BK331.out 2).trans rfl, (blk_cell BK331.out 3).trans rfl⟩ (fun hHeld => ?_)
  clear hK K
  refine norm_ (a' := ?_) ?_ ?_
  rotate_left
  ·
   show Act.put _ (some 31) _ = _
   simp only [Act.put, sA_, sB_, sC_, i64_w, i32_w]
   rfl
  refine pure_ (i := 8) (N := some 32) (v := ?_) (a' := ?_) #[true, true, true, true, true, true, true, true, true, false, false, false] rfl rfl (any_of HT_.out (by kernel_rfl)) (fun _ _ _ h => h) (Or.inl ⟨by rfl, ?_⟩) ?_ ?_
  rotate_left
  ·
   intro w'
   go_simp
   with_reducible rfl
  rotate_left
  ·
   simp only [Act.put, sA_, sB_, sC_, i64_w, i32_w]
   rfl
  refine pure_ (i := 9) (N := some 33) (v := ?_) (a' := ?_) #[true, true, true, true, true, true, true, true, true, true, false, false] rfl rfl (any_of HT_.out (by kernel_rfl)) (fun _ _ _ h => h) (Or.inl ⟨by rfl, ?_⟩) ?_ ?_
  rotate_left
  ·
   intro w'
   go_simp
   with_reducible rfl
  rotate_left
  ·
   simp only [Act.put, sA_, sB_, sC_, i64_w, i32_w]
   rfl
  refine pure_ (i := 10) (N := some 34) (v := ?_) (a' := ?_) #[true, true, true, true, true, true, true, true, true, true, true, false] rfl rfl (any_of HT_.out (by kernel_rfl)) (fun _ _ _ h => h) (Or.inl ⟨by rfl, ?_⟩) ?_ ?_
  rotate_left
  ·
   intro w'
   go_simp
   with_reducible rfl
  rotate_left
  ·
   simp only [Act.put, sA_, sB_, sC_, i64_w, i32_w]
   rfl
  refine last_ (i := 11) (N := none) #[true, true, true, true, true, true, true, true, true, true, true, true] rfl rfl (one_of HT_.out (by kernel_rfl)) (by decide) (fun K hK => ?_)
  have hs23 : w22.cell? ⟨gb331, 3, none⟩ = some (.int .i64 (wrap64 ((wrap64 (t332 + 1)) + t333))) := (blk_cell BK331.out 3).trans rfl
  have hfs23 := blk_frozen BK331.out 3
  have hns23_0 := NB321_331.out
  have hms23_0 := NB331_321.out
  refine skip_ (w1 := ?_) (by rfl) rfl ?_ ?_
  rotate_left
  ·
   go_simp
   rfl
  refine hK.out _ _ ?_
  clear hK K
  refine done_ (done_of HT_.out (by kernel_rfl)) ?_
  obtain ⟨hcz24_0, hcz24_1, hcz24_2, hcz24_3⟩ := bc4 BK331.out
  obtain ⟨hfz24_0, hfz24_1, hfz24_2, hfz24_3⟩ := bf4 BK331.out
  have hnb25 := NB321_0.out
  have hnc25 := NB0_321.out
  obtain ⟨hcz26_0, hcz26_1, hcz26_2, hcz26_3⟩ := bc4 BK321.out
  obtain ⟨hfz26_0, hfz26_1, hfz26_2, hfz26_3⟩ := bf4 BK321.out
  try go_wp2
  refine bodyPost_ret (results_cell_row rfl _ _ gb321 31 #[.int .i64 (wrap64 (t322 - 4)), .int .i64 (wrap64 (t325 - 4)), .int .i64 (wrap64 (t328 - 2)), .int .i64 (wrap64 ((wrap64 ((wrap64 (t332 + 1)) + t333)) + (wrap64 (t339 + t340))))] (0, 0) _ rfl (by (with_reducible repeat (first | refine blk_drewN ?_ _ | refine blk_drew ?_ | refine blk_alloc ?_ _)); refine blk_put (cs := #[.int .i64 (wrap64 (t322 - 4)), .int .i64 (wrap64 (t325 - 4)), .int .i64 (wrap64 (t328 - 2)), .int .i64 0]) ?_ 3 _ rfl; (with_reducible repeat (first | refine blk_drewN ?_ _ | refine blk_drew ?_ | refine blk_alloc ?_ _)); refine blk_put (cs := #[.int .i64 (wrap64 (t322 - 4)), .int .i64 (wrap64 (t325 - 4)), .int .i64 0, .int .i64 0]) ?_ 2 _ rfl; (with_reducible repeat (first | refine blk_drewN ?_ _ | refine blk_drew ?_ | refine blk_alloc ?_ _)); refine blk_put (cs := #[.int .i64 (wrap64 (t322 - 4)), .int .i64 0, .int .i64 0, .int .i64 0]) ?_ 1 _ rfl; (with_reducible repeat (first | refine blk_drewN ?_ _ | refine blk_drew ?_ | refine blk_alloc ?_ _)); refine blk_put (cs := #[.int .i64 0, .int .i64 0, .int .i64 0, .int .i64 0]) ?_ 0 _ rfl; (with_reducible repeat (first | refine blk_drewN ?_ _ | refine blk_drew ?_ | refine blk_alloc ?_ _)); refine blk_far ?_ NB321_331.out _; (with_reducible repeat (first | refine blk_drewN ?_ _ | refine blk_drew ?_ | refine blk_alloc ?_ _)); exact BK321.out) Try.underlying31 rfl (by kernel_rfl)) rfl ?_
  exact ⟨z6_19_, z6_27_, z6_28_, z6_8_⟩
 ·
  replace c8 := Bool.eq_false_iff.mpr c8
  subst c8
  have H1 := H; rw [if_neg (show ¬ (false = true) by decide)] at H1
  clear H
  have H := H1
  clear H1
  simp only [Option.some.injEq, Prod.mk.injEq] at H
  obtain ⟨rfl, rfl, rfl, rfl, rfl, rfl⟩ := H
  go_enter Try.func45, Try.ntmps45
  go_wp2_with (first | ((with_reducible refine gate_dst (N := 2) rfl ?_); refine box_event ?hg (N := 2) ?hd (cs := #[.int .i64 0, .int .i64 0, .int .i64 0, .int .i64 0]) (t := 31) ?hr ?_; (case hd => rfl); (case hg => rfl); (case hr => first | (go_simp; done) | (go_simp; rfl)); intro gb321 hg w27 hbox hb; have _ := A_ (IsS115.below z6_6_ hb); have _ := A_ (KeepBut.trans z6_2_ (KeepBut.of_below hb g none) (.inl rfl)); have _ := A_ (below_step z6_7_ hb); have _ := A_ (hbox); have _ := A_ ((by rw [hg]; exact (keep_size (w := w) (g := g) (row := none) z6_2_) : w.heap.size ≤ gb321)); have _ := A_ ((Nat.le_trans HW0.out (by rw [hg]; exact (keep_size (w := w) (g := g) (row := none) z6_2_) : w.heap.size ≤ gb321) : w0.heap.size ≤ gb321)); have _ := A_ ((by rw [hg]; exact Nat.ne_of_lt (IsS115.lt (show IsS115 w0 _ g s0_0 s0_1 s0_2 from by repeat (first | (with_reducible first | exact HI0.out | apply IsS115.alloc | apply IsS115.drewN | apply IsS115.drew | apply IsS115.set_1 | apply IsS115.set_2) | exact HI0.out))) : g ≠ gb321)); have _ := A_ ((by rw [hg]; exact Nat.ne_of_gt (IsS115.lt (show IsS115 w0 _ g s0_0 s0_1 s0_2 from by repeat (first | (with_reducible first | exact HI0.out | apply IsS115.alloc | apply IsS115.drewN | apply IsS115.drew | apply IsS115.set_1 | apply IsS115.set_2) | exact HI0.out))) : gb321 ≠ g)); clear HI0 HK HB; rename_i HI0 HK HB BK321 GW321 GE321 NB0_321 NB321_0; clear hb hbox hg) | ((with_reducible refine gate_callee (f := 79) rfl ?_); refine goesL_ (some 5) rfl rfl Try.func79 (by kernel_rfl) rfl #[.pointer (some ⟨g, 0, none⟩), .int .i64 9] rfl z6_1_ ?_; (with_reducible refine (spec_l00Src_pick.calls g s0_0 s0_1 s0_2 9 t322 t323 t324 w0 _ ?side1 ?side2 A2.out).mono ?_); (case side1 => repeat (first | (with_reducible first | exact HI0.out | apply IsS115.alloc | apply IsS115.drewN | apply IsS115.drew | apply IsS115.set_1 | apply IsS115.set_2 | refine IsS115.far ?_ NB0_321.out _) | exact HI0.out)); (case side2 => repeat (first | (with_reducible first | exact HB.out | apply below_alloc | apply pw_below_drewN | apply below_drew1 | refine below_set ?_ (IsS115.ge HI0.out) | refine below_set ?_ GE321.out) | exact HB.out)); rintro e w28 ⟨rfl, hi, hb, hk⟩; refine ⟨_, rfl, ?_⟩; have _ := A_ (KeepBut.blk hk (g' := gb321) (o := .cells #[.int .i64 0, .int .i64 0, .int .i64 0, .int .i64 0] 31 (0, 0)) z6_5_ NB321_0.out (by simp)); have _ := A_ (KeepBut.trans z6_3_ hk (.inl rfl)); have _ := A_ (hb); have _ := A_ (hi); clear BK321 HK HB HI0; rename_i BK321 HK HB HI0; (try clear hb)) | ((with_reducible refine gate_callee (f := 79) rfl ?_); refine goesL_ (some 8) rfl rfl Try.func79 (by kernel_rfl) rfl #[.pointer (some ⟨g, 0, none⟩), .int .i64 9] rfl z6_1_ ?_; (with_reducible refine (spec_l00Src_pick.calls g s0_0 t323 t324 9 t325 t326 t327 w0 _ ?side1 ?side2 A3.out).mono ?_); (case side1 => repeat (first | (with_reducible first | exact HI0.out | apply IsS115.alloc | apply IsS115.drewN | apply IsS115.drew | apply IsS115.set_1 | apply IsS115.set_2 | refine IsS115.far ?_ NB0_321.out _) | exact HI0.out)); (case side2 => repeat (first | (with_reducible first | exact HB.out | apply below_alloc | apply pw_below_drewN | apply below_drew1 | refine below_set ?_ (IsS115.ge HI0.out) | refine below_set ?_ GE321.out) | exact HB.out)); rintro e w29 ⟨rfl, hi, hb, hk⟩; refine ⟨_, rfl, ?_⟩; have _ := A_ (KeepBut.blk hk (g' := gb321) (o := .cells #[.int .i64 0, .int .i64 0, .int .i64 0, .int .i64 0] 31 (0, 0)) z6_5_ NB321_0.out (by simp)); have _ := A_ (KeepBut.trans z6_3_ hk (.inl rfl)); have _ := A_ (hb); have _ := A_ (hi); clear BK321 HK HB HI0; rename_i BK321 HK HB HI0; (try clear hb)) | ((with_reducible refine gate_callee (f := 79) rfl ?_); refine goesL_ (some 11) rfl rfl Try.func79 (by kernel_rfl) rfl #[.pointer (some ⟨g, 0, none⟩), .int .i64 5] rfl z6_1_ ?_; (with_reducible refine (spec_l00Src_pick.calls g s0_0 t326 t327 5 t328 t329 t330 w0 _ ?side1 ?side2 A4.out).mono ?_); (case side1 => repeat (first | (with_reducible first | exact HI0.out | apply IsS115.alloc | apply IsS115.drewN | apply IsS115.drew | apply IsS115.set_1 | apply IsS115.set_2 | refine IsS115.far ?_ NB0_321.out _) | exact HI0.out)); (case side2 => repeat (first | (with_reducible first | exact HB.out | apply below_alloc | apply pw_below_drewN | apply below_drew1 | refine below_set ?_ (IsS115.ge HI0.out) | refine below_set ?_ GE321.out) | exact HB.out)); rintro e w30 ⟨rfl, hi, hb, hk⟩; refine ⟨_, rfl, ?_⟩; have _ := A_ (KeepBut.blk hk (g' := gb321) (o := .cells #[.int .i64 0, .int .i64 0, .int .i64 0, .int .i64 0] 31 (0, 0)) z6_5_ NB321_0.out (by simp)); have _ := A_ (KeepBut.trans z6_3_ hk (.inl rfl)); have _ := A_ (hb); have _ := A_ (hi); clear BK321 HK HB HI0; rename_i BK321 HK HB HI0; (try clear hb)) | ((with_reducible refine gate_dst (N := 3) rfl ?_); refine box_event ?hg (N := 3) ?hd (cs := #[.int .i64 0, .int .i64 0, .int .i64 0, .int .i64 0]) (t := 31) ?hr ?_; (case hd => rfl); (case hg => rfl); (case hr => first | (go_simp; done) | (go_simp; rfl)); intro gb331 hg w31 hbox hb; have _ := A_ (IsS115.below z6_30_ hb); have _ := A_ (blk_below (g := gb321) (o := .cells #[.int .i64 0, .int .i64 0, .int .i64 0, .int .i64 0] 31 (0, 0)) z6_5_ hb); have _ := A_ (KeepBut.trans z6_3_ (KeepBut.of_below hb g none) (.inl rfl)); have _ := A_ (below_step z6_31_ hb); have _ := A_ (hbox); have _ := A_ ((by rw [hg]; exact (keep_size (w := w) (g := g) (row := none) z6_3_) : w.heap.size ≤ gb331)); have _ := A_ ((Nat.le_trans HW0.out (by rw [hg]; exact (keep_size (w := w) (g := g) (row := none) z6_3_) : w.heap.size ≤ gb331) : w0.heap.size ≤ gb331)); have _ := A_ ((by rw [hg]; exact Nat.ne_of_lt (blk_lt (g := gb321) (o := .cells #[.int .i64 0, .int .i64 0, .int .i64 0, .int .i64 0] 31 (0, 0)) z6_5_) : gb321 ≠ gb331)); have _ := A_ ((by rw [hg]; exact Nat.ne_of_gt (blk_lt (g := gb321) (o := .cells #[.int .i64 0, .int .i64 0, .int .i64 0, .int .i64 0] 31 (0, 0)) z6_5_) : gb331 ≠ gb321)); have _ := A_ ((by rw [hg]; exact Nat.ne_of_lt (IsS115.lt (show IsS115 w0 _ g s0_0 t329 t330 from by repeat (first | (with_reducible first | exact HI0.out | apply IsS115.alloc | apply IsS115.drewN | apply IsS115.drew | apply IsS115.set_1 | apply IsS115.set_2 | refine IsS115.far ?_ NB0_321.out _) | exact HI0.out))) : g ≠ gb331)); have _ := A_ ((by rw [hg]; exact Nat.ne_of_gt (IsS115.lt (show IsS115 w0 _ g s0_0 t329 t330 from by repeat (first | (with_reducible first | exact HI0.out | apply IsS115.alloc | apply IsS115.drewN | apply IsS115.drew | apply IsS115.set_1 | apply IsS115.set_2 | refine IsS115.far ?_ NB0_321.out _) | exact HI0.out))) : gb331 ≠ g)); clear HI0 BK321 HK HB; rename_i HI0 BK321 HK HB BK331 GW331 GE331 NB321_331 NB331_321 NB0_331 NB331_0; clear hb hbox hg; have hnb32 := NB331_321.out; have hnc32 := NB321_331.out; have hnb33 := NB331_0.out; have hnc33 := NB0_331.out; obtain ⟨hcz34_0, hcz34_1, hcz34_2, hcz34_3⟩ := bc4 BK331.out; obtain ⟨hfz34_0, hfz34_1, hfz34_2, hfz34_3⟩ := bf4 BK331.out) | ((with_reducible refine gate_callee (f := 48) rfl ?_); refine goesL_ (some 16) rfl rfl Try.func48 (by kernel_rfl) rfl #[.int .i64 (wrap64 (t328 - 2))] rfl z6_1_ ?_; (with_reducible refine (spec_l03Size.calls (wrap64 (t328 - 2)) t332 _ A5.out).mono ?_); rintro e w' ⟨rfl, ⟨nd, rfl⟩⟩; refine ⟨_, rfl, ?_⟩) | ((with_reducible refine gate_callee (f := 79) rfl ?_); refine goesL_ (some 19) rfl rfl Try.func79 (by kernel_rfl) rfl #[.pointer (some ⟨g, 0, none⟩), .int .i64 5] rfl z6_1_ ?_; (with_reducible refine (spec_l00Src_pick.calls g s0_0 t329 t330 5 t333 t334 t335 w0 _ ?side1 ?side2 A6.out).mono ?_); (case side1 => repeat (first | (with_reducible first | exact HI0.out | apply IsS115.alloc | apply IsS115.drewN | apply IsS115.drew | apply IsS115.set_1 | apply IsS115.set_2 | refine IsS115.far ?_ NB0_321.out _ | refine IsS115.far ?_ NB0_331.out _) | exact HI0.out)); (case side2 => repeat (first | (with_reducible first | exact HB.out | apply below_alloc | apply pw_below_drewN | apply below_drew1 | refine below_set ?_ (IsS115.ge HI0.out) | refine below_set ?_ GE321.out | refine below_set ?_ GE331.out) | exact HB.out)); rintro e w35 ⟨rfl, hi, hb, hk⟩; refine ⟨_, rfl, ?_⟩; have _ := A_ (KeepBut.blk hk (g' := gb321) (o := .cells #[.int .i64 0, .int .i64 0, .int .i64 0, .int .i64 0] 31 (0, 0)) z6_17_ NB321_0.out (by simp)); have _ := A_ (KeepBut.blk hk (g' := gb331) (o := .cells #[.int .i64 (wrap64 (t322 - 4)), .int .i64 (wrap64 (t325 - 4)), .int .i64 (wrap64 (t328 - 2)), .int .i64 0] 31 (0, 0)) (by (with_reducible repeat (first | refine blk_drewN ?_ _ | refine blk_drew ?_ | refine blk_alloc ?_ _)); refine blk_put (cs := #[.int .i64 (wrap64 (t322 - 4)), .int .i64 (wrap64 (t325 - 4)), .int .i64 (wrap64 (t328 - 2)), .int .i64 0]) ?_ 3 _ rfl; (with_reducible repeat (first | refine blk_drewN ?_ _ | refine blk_drew ?_ | refine blk_alloc ?_ _)); refine blk_put (cs := #[.int .i64 (wrap64 (t322 - 4)), .int .i64 (wrap64 (t325 - 4)), .int .i64 0, .int .i64 0]) ?_ 2 _ rfl; (with_reducible repeat (first | refine blk_drewN ?_ _ | refine blk_drew ?_ | refine blk_alloc ?_ _)); refine blk_put (cs := #[.int .i64 (wrap64 (t322 - 4)), .int .i64 0, .int .i64 0, .int .i64 0]) ?_ 1 _ rfl; (with_reducible repeat (first | refine blk_drewN ?_ _ | refine blk_drew ?_ | refine blk_alloc ?_ _)); refine blk_put (cs := #[.int .i64 0, .int .i64 0, .int .i64 0, .int .i64 0]) ?_ 0 _ rfl; (with_reducible repeat (first | refine blk_drewN ?_ _ | refine blk_drew ?_ | refine blk_alloc ?_ _)); exact BK331.out) NB331_0.out (by simp)); have _ := A_ (KeepBut.trans z6_8_ hk (.inl rfl)); have _ := A_ (hb); have _ := A_ (hi); clear BK321 BK331 HK HB HI0; rename_i BK321 BK331 HK HB HI0; (try clear hb); obtain ⟨hcz36_0, hcz36_1, hcz36_2, hcz36_3⟩ := bc4 BK331.out; obtain ⟨hfz36_0, hfz36_1, hfz36_2, hfz36_3⟩ := bf4 BK331.out) | ((with_reducible refine gate_callee (f := 80) rfl ?_); refine goesL_ (some 23) rfl rfl Try.func80 (by kernel_rfl) rfl #[.pointer (some ⟨g, 0, none⟩), .int .i64 2] rfl z6_1_ ?_; (with_reducible refine (spec_l00Src_one.calls g s0_0 t334 t335 2 false t337 t338 w0 _ ?side1 ?side2 A7.out).mono ?_); (case side1 => repeat (first | (with_reducible first | exact HI0.out | apply IsS115.alloc | apply IsS115.drewN | apply IsS115.drew | apply IsS115.set_1 | apply IsS115.set_2 | refine IsS115.far ?_ NB0_321.out _ | refine IsS115.far ?_ NB0_331.out _) | exact HI0.out)); (case side2 => repeat (first | (with_reducible first | exact HB.out | apply below_alloc | apply pw_below_drewN | apply below_drew1 | refine below_set ?_ (IsS115.ge HI0.out) | refine below_set ?_ GE321.out | refine below_set ?_ GE331.out) | exact HB.out)); rintro e w37 ⟨rfl, hi, hb, hk⟩; refine ⟨_, rfl, ?_⟩; have _ := A_ (KeepBut.blk hk (g' := gb321) (o := .cells #[.int .i64 0, .int .i64 0, .int .i64 0, .int .i64 0] 31 (0, 0)) z6_26_ NB321_0.out (by simp)); have _ := A_ (KeepBut.blk hk (g' := gb331) (o := .cells #[.int .i64 (wrap64 (t322 - 4)), .int .i64 (wrap64 (t325 - 4)), .int .i64 (wrap64 (t328 - 2)), .int .i64 (wrap64 ((wrap64 (t332 + 1)) + t333))] 31 (0, 0)) (by (with_reducible repeat (first | refine blk_drewN ?_ _ | refine blk_drew ?_ | refine blk_alloc ?_ _)); refine blk_put (cs := #[.int .i64 (wrap64 (t322 - 4)), .int .i64 (wrap64 (t325 - 4)), .int .i64 (wrap64 (t328 - 2)), .int .i64 0]) ?_ 3 _ rfl; (with_reducible repeat (first | refine blk_drewN ?_ _ | refine blk_drew ?_ | refine blk_alloc ?_ _)); exact BK331.out) NB331_0.out (by simp)); have _ := A_ (KeepBut.trans z6_8_ hk (.inl rfl)); have _ := A_ (hb); have _ := A_ (hi); clear BK321 BK331 HK HB HI0; rename_i BK321 BK331 HK HB HI0; (try clear hb); obtain ⟨hcz38_0, hcz38_1, hcz38_2, hcz38_3⟩ := bc4 BK331.out; obtain ⟨hfz38_0, hfz38_1, hfz38_2, hfz38_3⟩ := bf4 BK331.out; have hnb39 := NB321_0.out; have hnc39 := NB0_321.out; obtain ⟨hcz40_0, hcz40_1, hcz40_2, hcz40_3⟩ := bc4 BK321.out; obtain ⟨hfz40_0, hfz40_1, hfz40_2, hfz40_3⟩ := bf4 BK321.out))
  refine bodyPost_ret (results_cell_row rfl _ _ gb321 31 #[.int .i64 (wrap64 (t322 - 4)), .int .i64 (wrap64 (t325 - 4)), .int .i64 (wrap64 (t328 - 2)), .int .i64 (wrap64 ((wrap64 (t332 + 1)) + t333))] (0, 0) _ rfl (by (with_reducible repeat (first | refine blk_drewN ?_ _ | refine blk_drew ?_ | refine blk_alloc ?_ _)); refine blk_put (cs := #[.int .i64 (wrap64 (t322 - 4)), .int .i64 (wrap64 (t325 - 4)), .int .i64 (wrap64 (t328 - 2)), .int .i64 0]) ?_ 3 _ rfl; (with_reducible repeat (first | refine blk_drewN ?_ _ | refine blk_drew ?_ | refine blk_alloc ?_ _)); refine blk_put (cs := #[.int .i64 (wrap64 (t322 - 4)), .int .i64 (wrap64 (t325 - 4)), .int .i64 0, .int .i64 0]) ?_ 2 _ rfl; (with_reducible repeat (first | refine blk_drewN ?_ _ | refine blk_drew ?_ | refine blk_alloc ?_ _)); refine blk_put (cs := #[.int .i64 (wrap64 (t322 - 4)), .int .i64 0, .int .i64 0, .int .i64 0]) ?_ 1 _ rfl; (with_reducible repeat (first | refine blk_drewN ?_ _ | refine blk_drew ?_ | refine blk_alloc ?_ _)); refine blk_put (cs := #[.int .i64 0, .int .i64 0, .int .i64 0, .int .i64 0]) ?_ 0 _ rfl; (with_reducible repeat (first | refine blk_drewN ?_ _ | refine blk_drew ?_ | refine blk_alloc ?_ _)); exact BK321.out) Try.underlying31 rfl (by kernel_rfl)) rfl ?_
  exact ⟨z6_19_, z6_27_, z6_28_, z6_8_⟩
/-! ### spec_l00From: function 46 -/
def spec_l00From.f (l0 : List Int) : Option (List Int × Int × Int) := some (l0, 0, 0)
set_option maxHeartbeats 8000000 in
set_option maxRecDepth 100000 in
theorem spec_l00From.calls (A0 : Option Addr) (c0 : Nat) (l0 : List Int) (r1 : List Int) (r2 : Int) (r3 : Int) (w0 w : World) (hB : Below w0.heap.size w0 w) (hr0 : Kd.C (Kd.int .u8) w0 A0 l0.length l0) (hc0 : l0.length ≤ c0) (h : spec_l00From.f l0 = some (r1, r2, r3)) :
  Calls Try.prog 46 #[.slice A0 l0.length c0] w fun e w' => ∃ g_ : Nat, e = .returned (.pointer (some ⟨g_, 0, none⟩)) ∧ IsS115 w0 w' g_ r1 r2 r3 ∧ Below w0.heap.size w0 w' ∧ Below w.heap.size w w' := by
 have hu115 := Try.underlying115
 have HR0 := A_ hr0
 have HC0 := A_ hc0
 clear hr0 hc0
 have HBW := A_ (Below.refl w.heap.size w)
 have HW0 := A_ hB.size
 have HB := A_ hB
 clear hB
 have H : (some (l0, 0, 0)) = some (r1, r2, r3) := h
 clear h
 simp only [Option.some.injEq, Prod.mk.injEq] at H
 obtain ⟨rfl, rfl, rfl⟩ := H
 go_enter Try.func46, Try.ntmps46
 go_wp2_with (first | ((with_reducible refine gate_dst (N := 5) rfl ?_); refine box_event ?hg (N := 5) ?hd (cs := #[.slice A0 l0.length c0, .int .i64 0, .int .u64 0]) (t := 115) ?hr ?_; (case hd => rfl); (case hg => rfl); (case hr => first | (go_simp; done) | (go_simp; rfl)); intro gb341 hg w2 hbox hb; have _ := A_ (below_step HBW.out hb); have _ := A_ (below_step z6_10_ hb); have _ := A_ (hbox); have _ := A_ ((by rw [hg]; exact (below_size z6_34_) : w.heap.size ≤ gb341)); have _ := A_ ((Nat.le_trans HW0.out (by rw [hg]; exact (below_size z6_34_) : w.heap.size ≤ gb341) : w0.heap.size ≤ gb341)); clear HBW HB; rename_i HBW HB BK341 GW341 GE341; clear hb hbox hg))
 go_ret
 exact ⟨_, rfl, (show IsS115 w0 _ gb341 l0 0 0 from ⟨_, _, (by (with_reducible repeat (first | refine blk_drewN ?_ _ | refine blk_drew ?_ | refine blk_alloc ?_ _)); exact BK341.out), GE341.out, HR0.out⟩), (by repeat (first | (with_reducible first | exact HB.out | apply below_alloc | apply pw_below_drewN | apply below_drew1 | refine below_set ?_ GE341.out) | exact HB.out)), (by repeat (first | (with_reducible first | exact HBW.out | apply below_alloc | apply pw_below_drewN | apply below_drew1 | refine below_set ?_ GW341.out) | exact HBW.out))⟩
/-! ### spec_A2Machine: function 23 -/
def spec_A2Machine.j0 : Nat → Bool → Int → Int → Int → Int → Option (Int × Int × Int × Int)
 | 0, _, _, _, _, _ => none
 | k + 1, x25, x354000, x354001, x354002, x354003 => if x25 = true then ((spec_l03Size.f x354000).bind fun t361 => ((spec_l03Size.f x354001).bind fun t362 => (some (x354000, x354001, x354002, wrap64 (x354003 + (wrap64 (t361 + t362))))))) else (some (x354000, x354001, x354002, x354003))
def spec_A2Machine.f (k : Nat) (l0 : List Int) : Option (Int × Int × Int × Int) := (spec_l00From.f l0).bind fun bt343 => ((spec_l03MachineDrawn.f bt343.1 bt343.2.1 bt343.2.2).bind fun bt347 => ((spec_l03Image.f k [(⟨bt347.1, bt347.2.1, bt347.2.2.1, bt347.2.2.2.1⟩ : S31)]).bind fun bt355 => (if bt355.1 < (wrap64 (-bt355.2.1)) then (spec_A2Machine.j0 k true bt347.1 bt347.2.1 bt347.2.2.1 bt347.2.2.2.1) else (spec_A2Machine.j0 k (decide (bt355.2.2.1 > bt355.2.2.2)) bt347.1 bt347.2.1 bt347.2.2.1 bt347.2.2.2.1))))
theorem spec_A2Machine.mono_l : ∀ k, (∀ y0 y1 y2 y3 y4, LeO (spec_A2Machine.j0 k y0 y1 y2 y3 y4) (spec_A2Machine.j0 (k + 1) y0 y1 y2 y3 y4))
 | 0 => fun _ _ _ _ _ r h => by simp [spec_A2Machine.j0] at h
 | k + 1 => by
  have ih0 := spec_A2Machine.mono_l k
  ·
   intro y0 y1 y2 y3 y4
   unfold spec_A2Machine.j0
   repeat' first
   | (with_reducible exact ih0 _ _ _ _ _)
   | (with_reducible exact spec_l03Image.mono _ _)
   | (with_reducible exact LeO.refl _)
   | (with_reducible exact LeO.none _)
   | (with_reducible refine LeO.ite ?_ ?_)
   | (with_reducible refine LeO.bind ?_ (fun _ => ?_))
   | exact ih0 _ _ _ _ _
   | exact LeO.none _
   | refine LeO.ite ?_ ?_
   | refine LeO.bind ?_ (fun _ => ?_)
theorem spec_A2Machine.mono : ∀ a0 k, LeO (spec_A2Machine.f k a0) (spec_A2Machine.f (k + 1) a0) := by
 intro a0 k
 have ih0 := spec_A2Machine.mono_l k
 unfold spec_A2Machine.f
 repeat' first
   | (with_reducible exact ih0 _ _ _ _ _)
   | (with_reducible exact spec_l03Image.mono _ _)
   | (with_reducible exact LeO.refl _)
   | (with_reducible exact LeO.none _)
   | (with_reducible refine LeO.ite ?_ ?_)
   | (with_reducible refine LeO.bind ?_ (fun _ => ?_))
   | exact ih0 _ _ _ _ _
   | exact LeO.none _
   | refine LeO.ite ?_ ?_
   | refine LeO.bind ?_ (fun _ => ?_)
def spec_A2Machine.T4 : Bool × List (List Nat × List Nat) := (true, [([], []), ([0], [0]), ([], []), ([2], [2]), ([3], [3]), ([], []), ([5], [5]), ([6, 4], [6]), ([4, 7], [4, 7]), ([1, 8], [1, 8]), ([0, 1, 2, 3, 4, 5, 6, 7, 8, 9], []), ([10, 9, 7, 0, 1, 2, 3, 4, 5, 6, 7, 8, 9], [9, 10])])
def spec_A2Machine.B4 : List Nat := [0, 1, 0, 4, 12, 0, 32, 124, 252, 511, 1023, 2047]
theorem spec_A2Machine.tab4 : rtab .any (opsOf Try.f23 4) = spec_A2Machine.T4 := by kernel_rfl
theorem spec_A2Machine.bits4 : waitsOk spec_A2Machine.T4.2 spec_A2Machine.B4 = true := by kernel_rfl
set_option maxHeartbeats 8000000 in
set_option maxRecDepth 100000 in
theorem spec_A2Machine.calls (k : Nat) (A0 : Option Addr) (c0 : Nat) (l0 : List Int) (r1 : Int) (r2 : Int) (r3 : Int) (r4 : Int) (w : World) (hr0 : Kd.C (Kd.int .u8) w A0 l0.length l0) (hc0 : l0.length ≤ c0) (h : spec_A2Machine.f k l0 = some (r1, r2, r3, r4)) :
  Calls Try.prog 23 #[.slice A0 l0.length c0] w fun e w' => e = .returned (.agg #[.int .i64 r1, .int .i64 r2, .int .i64 r3, .int .i64 r4]) ∧ Below w.heap.size w w' := by
 have hu31 := Try.underlying31
 have hu55 := Try.underlying55
 have HR0 := A_ hr0
 have HC0 := A_ hc0
 clear hr0 hc0
 have HB := A_ (Below.refl w.heap.size w)
 have H : ((spec_l00From.f l0).bind fun bt343 => ((spec_l03MachineDrawn.f bt343.1 bt343.2.1 bt343.2.2).bind fun bt347 => ((spec_l03Image.f k [(⟨bt347.1, bt347.2.1, bt347.2.2.1, bt347.2.2.2.1⟩ : S31)]).bind fun bt355 => (if bt355.1 < (wrap64 (-bt355.2.1)) then (spec_A2Machine.j0 k true bt347.1 bt347.2.1 bt347.2.2.1 bt347.2.2.2.1) else (spec_A2Machine.j0 k (decide (bt355.2.2.1 > bt355.2.2.2)) bt347.1 bt347.2.1 bt347.2.2.1 bt347.2.2.2.1))))) = some (r1, r2, r3, r4) := h
 clear h
 replace H := Option.bind_eq_some_iff.mp H
 obtain ⟨⟨t343, t344, t345⟩, A20, H⟩ := H
 try dsimp only at H
 have A2 := A_ A20
 clear A20
 replace H := Option.bind_eq_some_iff.mp H
 obtain ⟨⟨t347, t348, t349, t350, t351, t352⟩, A30, H⟩ := H
 try dsimp only at H
 have A3 := A_ A30
 clear A30
 replace H := Option.bind_eq_some_iff.mp H
 obtain ⟨⟨t355, t356, t357, t358⟩, A40, H⟩ := H
 try dsimp only at H
 have A4 := A_ A40
 clear A40
 have HC5 := A_ H
 clear H
 go_enter Try.func23, Try.ntmps23
 go_upto_region 3 with (first | ((with_reducible refine gate_dst (N := 2) rfl ?_); refine box_event ?hg (N := 2) ?hd (cs := #[.int .i64 0, .int .i64 0, .int .i64 0, .int .i64 0]) (t := 31) ?hr ?_; (case hd => rfl); (case hg => rfl); (case hr => first | (go_simp; done) | (go_simp; rfl)); intro gb342 hg w6 hbox hb; have _ := A_ (below_step z6_10_ hb); have _ := A_ (hbox); have _ := A_ ((by rw [hg]; exact (below_size z6_10_) : w.heap.size ≤ gb342)); have _ := A_ ((by rw [hg]; exact (below_size z6_10_) : w.heap.size ≤ gb342)); clear HB; rename_i HB BK342 GW342 GE342; clear hb hbox hg) | ((with_reducible refine gate_callee (f := 46) rfl ?_); refine goesL_ (some 7) rfl rfl Try.func46 (by kernel_rfl) rfl #[.slice A0 l0.length c0] rfl z6_1_ ?_; (with_reducible refine (spec_l00From.calls _ _ l0 t343 t344 t345 w _ ?side1 ?side2 ?side3 A2.out).mono ?_); (case side1 => repeat (first | (with_reducible first | exact HB.out | apply below_alloc | apply pw_below_drewN | apply below_drew1 | refine below_set ?_ GE342.out) | exact HB.out)); (case side2 => exact HR0.out); (case side3 => exact HC0.out); rintro e w7 ⟨g346, rfl, hi, hb, hb2⟩; refine ⟨_, rfl, ?_⟩; have _ := A_ (blk_below (g := gb342) (o := .cells #[.int .i64 0, .int .i64 0, .int .i64 0, .int .i64 0] 31 (0, 0)) z6_4_ hb2); have _ := A_ (hb); have _ := A_ (hi); have _ := A_ (IsS115.ne_blk hi (blk_below (g := gb342) (o := .cells #[.int .i64 0, .int .i64 0, .int .i64 0, .int .i64 0] 31 (0, 0)) z6_4_ hb2) (by decide)); have _ := A_ (Ne.symm (IsS115.ne_blk hi (blk_below (g := gb342) (o := .cells #[.int .i64 0, .int .i64 0, .int .i64 0, .int .i64 0] 31 (0, 0)) z6_4_ hb2) (by decide))); clear BK342 HB; rename_i BK342 HB HI346 NB346_342 NB342_346; (try clear hb)) | ((with_reducible refine gate_callee (f := 45) rfl ?_); refine goesL_ (some 8) rfl rfl Try.func45 (by kernel_rfl) rfl #[.pointer (some ⟨g346, 0, none⟩)] rfl z6_1_ ?_; (with_reducible refine (spec_l03MachineDrawn.calls g346 t343 t344 t345 t347 t348 t349 t350 t351 t352 w _ ?side1 ?side2 A3.out).mono ?_); (case side1 => repeat (first | (with_reducible first | exact HI346.out | apply IsS115.alloc | apply IsS115.drewN | apply IsS115.drew | apply IsS115.set_1 | apply IsS115.set_2 | refine IsS115.far ?_ NB346_342.out _) | exact HI346.out)); (case side2 => repeat (first | (with_reducible first | exact HB.out | apply below_alloc | apply pw_below_drewN | apply below_drew1 | refine below_set ?_ (IsS115.ge HI346.out) | refine below_set ?_ GE342.out) | exact HB.out)); rintro e w8 ⟨rfl, hi, hb, hk⟩; refine ⟨_, rfl, ?_⟩; have _ := A_ (KeepBut.blk hk (g' := gb342) (o := .cells #[.int .i64 0, .int .i64 0, .int .i64 0, .int .i64 0] 31 (0, 0)) z6_4_ NB342_346.out (by simp)); have _ := A_ (hb); have _ := A_ (hi); clear BK342 HB HI346; rename_i BK342 HB HI346; (try clear hb)) | ((with_reducible refine gate_dst (N := 3) rfl ?_); refine box_event ?hg (N := 3) ?hd (cs := #[.int .i64 0, .int .i64 0, .int .i64 0, .int .i64 0]) (t := 31) ?hr ?_; (case hd => rfl); (case hg => rfl); (case hr => first | (go_simp; done) | (go_simp; rfl)); intro gb353 hg w9 hbox hb; have _ := A_ (blk_below (g := gb342) (o := .cells #[.int .i64 0, .int .i64 0, .int .i64 0, .int .i64 0] 31 (0, 0)) z6_4_ hb); have _ := A_ (IsS115.below (by repeat (first | (with_reducible first | exact HI346.out | apply IsS115.alloc | apply IsS115.drewN | apply IsS115.drew | apply IsS115.set_1 | apply IsS115.set_2 | refine IsS115.far ?_ NB346_342.out _) | exact HI346.out)) hb); have _ := A_ (below_step z6_22_ hb); have _ := A_ (hbox); have _ := A_ ((by rw [hg]; exact (below_size z6_22_) : w.heap.size ≤ gb353)); have _ := A_ ((by rw [hg]; exact (below_size z6_22_) : w.heap.size ≤ gb353)); have _ := A_ ((by rw [hg]; exact Nat.ne_of_lt (blk_lt (g := gb342) (o := .cells #[.int .i64 0, .int .i64 0, .int .i64 0, .int .i64 0] 31 (0, 0)) z6_4_) : gb342 ≠ gb353)); have _ := A_ ((by rw [hg]; exact Nat.ne_of_gt (blk_lt (g := gb342) (o := .cells #[.int .i64 0, .int .i64 0, .int .i64 0, .int .i64 0] 31 (0, 0)) z6_4_) : gb353 ≠ gb342)); have _ := A_ ((by rw [hg]; exact Nat.ne_of_lt (IsS115.lt (show IsS115 w _ g346 t343 t351 t352 from by repeat (first | (with_reducible first | exact HI346.out | apply IsS115.alloc | apply IsS115.drewN | apply IsS115.drew | apply IsS115.set_1 | apply IsS115.set_2 | refine IsS115.far ?_ NB346_342.out _) | exact HI346.out))) : g346 ≠ gb353)); have _ := A_ ((by rw [hg]; exact Nat.ne_of_gt (IsS115.lt (show IsS115 w _ g346 t343 t351 t352 from by repeat (first | (with_reducible first | exact HI346.out | apply IsS115.alloc | apply IsS115.drewN | apply IsS115.drew | apply IsS115.set_1 | apply IsS115.set_2 | refine IsS115.far ?_ NB346_342.out _) | exact HI346.out))) : gb353 ≠ g346)); clear BK342 HI346 HB; rename_i BK342 HI346 HB BK353 GW353 GE353 NB342_353 NB353_342 NB346_353 NB353_346; clear hb hbox hg; have hnb10 := NB353_342.out; have hnc10 := NB342_353.out; have hnb11 := NB353_346.out; have hnc11 := NB346_353.out; obtain ⟨hcz12_0, hcz12_1, hcz12_2, hcz12_3⟩ := bc4 BK353.out; obtain ⟨hfz12_0, hfz12_1, hfz12_2, hfz12_3⟩ := bf4 BK353.out) | ((with_reducible refine gate_callee (f := 47) rfl ?_); refine goesL_ (some 10) rfl rfl Try.func47 (by kernel_rfl) rfl #[.pointer (some ⟨gb353, 0, none⟩)] rfl z6_1_ ?_; (with_reducible refine (spec_l03Image.calls k _ ([(⟨t347, t348, t349, t350⟩ : S31)]).length [(⟨t347, t348, t349, t350⟩ : S31)] t355 t356 t357 t358 _ ?side1 ?side2 A4.out).mono ?_); (case side1 => refine Kd.C_block k31 (g := gb353) (cs := #[.int .i64 t347, .int .i64 t348, .int .i64 t349, .int .i64 t350]) (T := 31) z6_9_ (show Kd.K k31 _ (⟨t347, t348, t349, t350⟩ : S31) [.int .i64 t347, .int .i64 t348, .int .i64 t349, .int .i64 t350] from k31_mk _ _) (by decide)); (case side2 => exact Nat.le_refl _); rintro e w13 ⟨rfl, hb⟩; refine ⟨_, rfl, ?_⟩; have _ := A_ (blk_below (g := gb342) (o := .cells #[.int .i64 0, .int .i64 0, .int .i64 0, .int .i64 0] 31 (0, 0)) (by (with_reducible repeat (first | refine blk_drewN ?_ _ | refine blk_drew ?_ | refine blk_alloc ?_ _)); refine blk_far ?_ NB342_353.out _; (with_reducible repeat (first | refine blk_drewN ?_ _ | refine blk_drew ?_ | refine blk_alloc ?_ _)); refine blk_far ?_ NB342_353.out _; (with_reducible repeat (first | refine blk_drewN ?_ _ | refine blk_drew ?_ | refine blk_alloc ?_ _)); refine blk_far ?_ NB342_353.out _; (with_reducible repeat (first | refine blk_drewN ?_ _ | refine blk_drew ?_ | refine blk_alloc ?_ _)); refine blk_far ?_ NB342_353.out _; (with_reducible repeat (first | refine blk_drewN ?_ _ | refine blk_drew ?_ | refine blk_alloc ?_ _)); exact BK342.out) hb); have _ := A_ (IsS115.below (show IsS115 w ((((w9.setCell ⟨gb353, 0, none⟩ (.int .i64 t347)).setCell ⟨gb353, 1, none⟩ (.int .i64 t348)).setCell ⟨gb353, 2, none⟩ (.int .i64 t349)).setCell ⟨gb353, 3, none⟩ (.int .i64 t350)) g346 t343 t351 t352 from by repeat (first | (with_reducible first | exact HI346.out | apply IsS115.alloc | apply IsS115.drewN | apply IsS115.drew | apply IsS115.set_1 | apply IsS115.set_2 | refine IsS115.far ?_ NB346_342.out _ | refine IsS115.far ?_ NB346_353.out _) | exact HI346.out)) hb); have _ := A_ (blk_below (g := gb353) (o := .cells #[.int .i64 t347, .int .i64 t348, .int .i64 t349, .int .i64 t350] 31 (0, 0)) z6_9_ hb); have _ := A_ (below_step z6_13_ hb); clear BK342 HI346 BK353 HB; rename_i BK342 HI346 BK353 HB; (try clear hb)) | ((with_reducible refine gate_dst (N := 4) rfl ?_); refine box_event ?hg (N := 4) ?hd (cs := #[.int .i64 0, .int .i64 0]) (t := 55) ?hr ?_; (case hd => rfl); (case hg => rfl); (case hr => first | (go_simp; done) | (go_simp; rfl)); intro gb359 hg w14 hbox hb; have _ := A_ (blk_below (g := gb342) (o := .cells #[.int .i64 0, .int .i64 0, .int .i64 0, .int .i64 0] 31 (0, 0)) z6_4_ hb); have _ := A_ (IsS115.below (by repeat (first | (with_reducible first | exact HI346.out | apply IsS115.alloc | apply IsS115.drewN | apply IsS115.drew | apply IsS115.set_1 | apply IsS115.set_2 | refine IsS115.far ?_ NB346_342.out _ | refine IsS115.far ?_ NB346_353.out _) | exact HI346.out)) hb); have _ := A_ (blk_below (g := gb353) (o := .cells #[.int .i64 t347, .int .i64 t348, .int .i64 t349, .int .i64 t350] 31 (0, 0)) z6_18_ hb); have _ := A_ (below_step z6_13_ hb); have _ := A_ (hbox); have _ := A_ ((by rw [hg]; exact (below_size z6_13_) : w.heap.size ≤ gb359)); have _ := A_ ((by rw [hg]; exact (below_size z6_13_) : w.heap.size ≤ gb359)); have _ := A_ ((by rw [hg]; exact Nat.ne_of_lt (blk_lt (g := gb342) (o := .cells #[.int .i64 0, .int .i64 0, .int .i64 0, .int .i64 0] 31 (0, 0)) z6_4_) : gb342 ≠ gb359)); have _ := A_ ((by rw [hg]; exact Nat.ne_of_gt (blk_lt (g := gb342) (o := .cells #[.int .i64 0, .int .i64 0, .int .i64 0, .int .i64 0] 31 (0, 0)) z6_4_) : gb359 ≠ gb342)); have _ := A_ ((by rw [hg]; exact Nat.ne_of_lt (blk_lt (g := gb353) (o := .cells #[.int .i64 t347, .int .i64 t348, .int .i64 t349, .int .i64 t350] 31 (0, 0)) z6_18_) : gb353 ≠ gb359)); have _ := A_ ((by rw [hg]; exact Nat.ne_of_gt (blk_lt (g := gb353) (o := .cells #[.int .i64 t347, .int .i64 t348, .int .i64 t349, .int .i64 t350] 31 (0, 0)) z6_18_) : gb359 ≠ gb353)); have _ := A_ ((by rw [hg]; exact Nat.ne_of_lt (IsS115.lt (show IsS115 w _ g346 t343 t351 t352 from by repeat (first | (with_reducible first | exact HI346.out | apply IsS115.alloc | apply IsS115.drewN | apply IsS115.drew | apply IsS115.set_1 | apply IsS115.set_2 | refine IsS115.far ?_ NB346_342.out _ | refine IsS115.far ?_ NB346_353.out _) | exact HI346.out))) : g346 ≠ gb359)); have _ := A_ ((by rw [hg]; exact Nat.ne_of_gt (IsS115.lt (show IsS115 w _ g346 t343 t351 t352 from by repeat (first | (with_reducible first | exact HI346.out | apply IsS115.alloc | apply IsS115.drewN | apply IsS115.drew | apply IsS115.set_1 | apply IsS115.set_2 | refine IsS115.far ?_ NB346_342.out _ | refine IsS115.far ?_ NB346_353.out _) | exact HI346.out))) : gb359 ≠ g346)); clear BK342 HI346 BK353 HB; rename_i BK342 HI346 BK353 HB BK359 GW359 GE359 NB342_359 NB359_342 NB353_359 NB359_353 NB346_359 NB359_346; clear hb hbox hg) | ((with_reducible refine gate_dst (N := 5) rfl ?_); refine box_event ?hg (N := 5) ?hd (cs := #[.int .i64 0, .int .i64 0]) (t := 55) ?hr ?_; (case hd => rfl); (case hg => rfl); (case hr => first | (go_simp; done) | (go_simp; rfl)); intro gb360 hg w15 hbox hb; have _ := A_ (blk_below (g := gb342) (o := .cells #[.int .i64 0, .int .i64 0, .int .i64 0, .int .i64 0] 31 (0, 0)) z6_4_ hb); have _ := A_ (IsS115.below (by repeat (first | (with_reducible first | exact HI346.out | apply IsS115.alloc | apply IsS115.drewN | apply IsS115.drew | apply IsS115.set_1 | apply IsS115.set_2 | refine IsS115.far ?_ NB346_342.out _ | refine IsS115.far ?_ NB346_353.out _ | refine IsS115.far ?_ NB346_359.out _) | exact HI346.out)) hb); have _ := A_ (blk_below (g := gb353) (o := .cells #[.int .i64 t347, .int .i64 t348, .int .i64 t349, .int .i64 t350] 31 (0, 0)) z6_18_ hb); have _ := A_ (blk_below (g := gb359) (o := .cells #[.int .i64 0, .int .i64 0] 55 (0, 0)) z6_29_ hb); have _ := A_ (below_step z6_20_ hb); have _ := A_ (hbox); have _ := A_ ((by rw [hg]; exact (below_size z6_20_) : w.heap.size ≤ gb360)); have _ := A_ ((by rw [hg]; exact (below_size z6_20_) : w.heap.size ≤ gb360)); have _ := A_ ((by rw [hg]; exact Nat.ne_of_lt (blk_lt (g := gb342) (o := .cells #[.int .i64 0, .int .i64 0, .int .i64 0, .int .i64 0] 31 (0, 0)) z6_4_) : gb342 ≠ gb360)); have _ := A_ ((by rw [hg]; exact Nat.ne_of_gt (blk_lt (g := gb342) (o := .cells #[.int .i64 0, .int .i64 0, .int .i64 0, .int .i64 0] 31 (0, 0)) z6_4_) : gb360 ≠ gb342)); have _ := A_ ((by rw [hg]; exact Nat.ne_of_lt (blk_lt (g := gb353) (o := .cells #[.int .i64 t347, .int .i64 t348, .int .i64 t349, .int .i64 t350] 31 (0, 0)) z6_18_) : gb353 ≠ gb360)); have _ := A_ ((by rw [hg]; exact Nat.ne_of_gt (blk_lt (g := gb353) (o := .cells #[.int .i64 t347, .int .i64 t348, .int .i64 t349, .int .i64 t350] 31 (0, 0)) z6_18_) : gb360 ≠ gb353)); have _ := A_ ((by rw [hg]; exact Nat.ne_of_lt (blk_lt (g := gb359) (o := .cells #[.int .i64 0, .int .i64 0] 55 (0, 0)) z6_29_) : gb359 ≠ gb360)); have _ := A_ ((by rw [hg]; exact Nat.ne_of_gt (blk_lt (g := gb359) (o := .cells #[.int .i64 0, .int .i64 0] 55 (0, 0)) z6_29_) : gb360 ≠ gb359)); have _ := A_ ((by rw [hg]; exact Nat.ne_of_lt (IsS115.lt (show IsS115 w _ g346 t343 t351 t352 from by repeat (first | (with_reducible first | exact HI346.out | apply IsS115.alloc | apply IsS115.drewN | apply IsS115.drew | apply IsS115.set_1 | apply IsS115.set_2 | refine IsS115.far ?_ NB346_342.out _ | refine IsS115.far ?_ NB346_353.out _ | refine IsS115.far ?_ NB346_359.out _) | exact HI346.out))) : g346 ≠ gb360)); have _ := A_ ((by rw [hg]; exact Nat.ne_of_gt (IsS115.lt (show IsS115 w _ g346 t343 t351 t352 from by repeat (first | (with_reducible first | exact HI346.out | apply IsS115.alloc | apply IsS115.drewN | apply IsS115.drew | apply IsS115.set_1 | apply IsS115.set_2 | refine IsS115.far ?_ NB346_342.out _ | refine IsS115.far ?_ NB346_353.out _ | refine IsS115.far ?_ NB346_359.out _) | exact HI346.out))) : gb360 ≠ g346)); clear BK342 HI346 BK353 BK359 HB; rename_i BK342 HI346 BK353 BK359 HB BK360 GW360 GE360 NB342_360 NB360_342 NB353_360 NB360_353 NB359_360 NB360_359 NB346_360 NB360_346; clear hb hbox hg; have hnb16 := NB359_342.out; have hnc16 := NB342_359.out; have hnb17 := NB359_353.out; have hnc17 := NB353_359.out; have hnb18 := NB359_360.out; have hnc18 := NB360_359.out; have hnb19 := NB359_346.out; have hnc19 := NB346_359.out; obtain ⟨hcz20_0, hcz20_1⟩ := bc2 BK359.out; obtain ⟨hfz20_0, hfz20_1⟩ := bf2 BK359.out; have hnb21 := NB360_342.out; have hnc21 := NB342_360.out; have hnb22 := NB360_353.out; have hnc22 := NB353_360.out; have hnb23 := NB360_346.out; have hnc23 := NB346_360.out; obtain ⟨hcz24_0, hcz24_1⟩ := bc2 BK360.out; obtain ⟨hfz24_0, hfz24_1⟩ := bf2 BK360.out))
 (try simp only [Act.put, sA_, sB_, sC_])
 go_cut [25] (fun v25 wc => ∃ (kq : Nat) (x25_4 : Bool), v25 = .bool x25_4 ∧ Aside0 (spec_A2Machine.j0 kq x25_4 t347 t348 t349 t350 = some (r1, r2, r3, r4)) ∧ Aside0 (kq ≤ k) ∧ Aside0 (wc.heap[gb342]? = some (.cells #[.int .i64 0, .int .i64 0, .int .i64 0, .int .i64 0] 31 (0, 0))) ∧ Aside0 (wc.heap[gb353]? = some (.cells #[.int .i64 t347, .int .i64 t348, .int .i64 t349, .int .i64 t350] 31 (0, 0))) ∧ Aside0 (wc.heap[gb359]? = some (.cells #[.int .i64 t355, .int .i64 t356] 55 (0, 0))) ∧ Aside0 (wc.heap[gb360]? = some (.cells #[.int .i64 t357, .int .i64 t358] 55 (0, 0))) ∧ Aside0 (Below w.heap.size w wc))
 case first =>
  have H := HC5.out
  clear HC5
  by_cases c25 : t355 < (wrap64 (-t356))
  ·
   rw [if_pos c25] at H
   have c25b0 := decide_eq_true c25
   clear c25
   (first | rw [c25b0] | (simp only [i64_w, i32_w]; rw [c25b0]) | skip)
   have H' := A_ H
   clear H
   have hnb26 := NB359_342.out
   have hnc26 := NB342_359.out
   have hnb27 := NB359_353.out
   have hnc27 := NB353_359.out
   have hnb28 := NB359_360.out
   have hnc28 := NB360_359.out
   have hnb29 := NB359_346.out
   have hnc29 := NB346_359.out
   obtain ⟨hcz30_0, hcz30_1⟩ := bc2 BK359.out
   obtain ⟨hfz30_0, hfz30_1⟩ := bf2 BK359.out
   go_wp2
   go_meet
   case rel => exact ⟨_, (true), z6_33_, H', ⟨(by first | omega | exact Nat.le_refl _)⟩, ⟨z6_16_⟩, ⟨z6_15_⟩, ⟨z6_12_⟩, ⟨z6_11_⟩, ⟨z6_24_⟩⟩
  ·
   rw [if_neg c25] at H
   have c25b0 := decide_eq_false c25
   clear c25
   (first | rw [c25b0] | (simp only [i64_w, i32_w]; rw [c25b0]) | skip)
   have H' := A_ H
   clear H
   have hnb31 := NB359_342.out
   have hnc31 := NB342_359.out
   have hnb32 := NB359_353.out
   have hnc32 := NB353_359.out
   have hnb33 := NB359_360.out
   have hnc33 := NB360_359.out
   have hnb34 := NB359_346.out
   have hnc34 := NB346_359.out
   obtain ⟨hcz35_0, hcz35_1⟩ := bc2 BK359.out
   obtain ⟨hfz35_0, hfz35_1⟩ := bf2 BK359.out
   have hnb36 := NB360_342.out
   have hnc36 := NB342_360.out
   have hnb37 := NB360_353.out
   have hnc37 := NB353_360.out
   have hnb38 := NB360_346.out
   have hnc38 := NB346_360.out
   obtain ⟨hcz39_0, hcz39_1⟩ := bc2 BK360.out
   obtain ⟨hfz39_0, hfz39_1⟩ := bf2 BK360.out
   go_wp2
   go_meet
   case rel => exact ⟨_, (decide (t357 > t358)), z6_33_, H', ⟨(by first | omega | exact Nat.le_refl _)⟩, ⟨z6_16_⟩, ⟨z6_15_⟩, ⟨z6_12_⟩, ⟨z6_11_⟩, ⟨z6_24_⟩⟩
 case rest =>
  clear HC5
  try clear c1
  try clear c2
  try clear p2
  try clear c3
  try clear c4
  try clear p6
  try clear c10
  try clear c11
  try clear c16
  try clear c17
  try clear c18
  try clear c19
  try clear c21
  try clear c22
  try clear c23
  try clear c25
  try clear c25b0
  try clear c26
  try clear c27
  try clear c28
  try clear c29
  try clear c31
  try clear c32
  try clear c33
  try clear c34
  try clear c36
  try clear c37
  try clear c38
  try clear hcz12_0
  try clear hcz12_1
  try clear hcz12_2
  try clear hcz12_3
  try clear hcz20_0
  try clear hcz20_1
  try clear hcz24_0
  try clear hcz24_1
  try clear hcz30_0
  try clear hcz30_1
  try clear hcz35_0
  try clear hcz35_1
  try clear hcz39_0
  try clear hcz39_1
  try clear hfz12_0
  try clear hfz12_1
  try clear hfz12_2
  try clear hfz12_3
  try clear hfz20_0
  try clear hfz20_1
  try clear hfz24_0
  try clear hfz24_1
  try clear hfz30_0
  try clear hfz30_1
  try clear hfz35_0
  try clear hfz35_1
  try clear hfz39_0
  try clear hfz39_1
  obtain ⟨kq, x25_4, rfl, HA, HJ4, BK342, BK353, BK359, BK360, HB⟩ := hcut
  cases kq with
  | zero => exact absurd HA.out (by simp [spec_A2Machine.j0])
  | succ kj4 =>
   have H := HA.out
   clear HA
   simp only [spec_A2Machine.j0] at H
   by_cases c40 : x25_4 = true
   ·
    subst c40
    have H1 := H; rw [if_pos rfl] at H1
    clear H
    have H := H1
    clear H1
    replace H := Option.bind_eq_some_iff.mp H
    obtain ⟨t361, A410, H⟩ := H
    try dsimp only at H
    have A41 := A_ A410
    clear A410
    replace H := Option.bind_eq_some_iff.mp H
    obtain ⟨t362, A420, H⟩ := H
    try dsimp only at H
    have A42 := A_ A420
    clear A420
    simp only [Option.some.injEq, Prod.mk.injEq] at H
    obtain ⟨rfl, rfl, rfl, rfl⟩ := H
    try go_wp2
    have _ := A_ (blk_drew BK342.out)
    have _ := A_ (blk_drew BK353.out)
    have _ := A_ (blk_drew BK359.out)
    have _ := A_ (blk_drew BK360.out)
    have _ := A_ (below_drew1 HB.out)
    clear BK342 BK353 BK359 BK360 HB
    rename_i BK342 BK353 BK359 BK360 HB
    refine start_ (n := 12) (S := fun w' => w'.cell? ⟨gb353, 0, none⟩ = some (.int .i64 t347) ∧ w'.cell? ⟨gb353, 1, none⟩ = some (.int .i64 t348) ∧ w'.cell? ⟨gb353, 2, none⟩ = some (.int .i64 t349) ∧ w'.cell? ⟨gb353, 3, none⟩ = some (.int .i64 t350)) (ds := [11]) #[false, false, false, false, false, false, false, false, false, false, false, false] (by kernel_rfl) rfl rfl ⟨(blk_cell BK353.out 0).trans rfl, (blk_cell BK353.out 1).trans rfl, (blk_cell BK353.out 2).trans rfl, (blk_cell BK353.out 3).trans rfl⟩ (fun hHeld => ?_); refine with_tabW spec_A2Machine.tab4 spec_A2Machine.bits4 (fun HT_ HW_ => ?_)
    generalize wc.drew = w43 at BK342 BK353 BK359 BK360 HB hHeld ⊢
    refine pure_ (i := 0) (N := some 26) (v := ?_) (a' := ?_) #[true, false, false, false, false, false, false, false, false, false, false, false] rfl rfl (any_of HT_.out (by kernel_rfl)) (fun _ _ _ h => h) (Or.inl ⟨by rfl, ?_⟩) ?_ ?_
    rotate_left
    ·
     intro w'
     go_simp
     with_reducible rfl
    rotate_left
    ·
     simp only [Act.put, sA_, sB_, sC_, i64_w, i32_w]
     rfl
    refine pure_ (i := 2) (N := some 28) (v := ?_) (a' := ?_) #[true, false, true, false, false, false, false, false, false, false, false, false] rfl rfl (any_of HT_.out (by kernel_rfl)) (fun _ _ _ h => h) (Or.inl ⟨by rfl, ?_⟩) ?_ ?_
    rotate_left
    ·
     intro w'
     go_simp
     with_reducible rfl
    rotate_left
    ·
     simp only [Act.put, sA_, sB_, sC_, i64_w, i32_w]
     rfl
    refine pure_ (i := 5) (N := some 31) (v := ?_) (a' := ?_) #[true, false, true, false, false, true, false, false, false, false, false, false] rfl rfl (any_of HT_.out (by kernel_rfl)) (fun _ _ _ h => h) (Or.inl ⟨by rfl, ?_⟩) ?_ ?_
    rotate_left
    ·
     intro w'
     go_simp
     with_reducible rfl
    rotate_left
    ·
     simp only [Act.put, sA_, sB_, sC_, i64_w, i32_w]
     rfl
    refine take_ (i := 1) (N := some 27) (v := ?_) (a' := ?_) #[true, true, true, false, false, true, false, false, false, false, false, false] rfl rfl (take_ofW HT_.out HW_.out (by kernel_rfl)) (fun _ _ _ h => h) (Or.inl ⟨by rfl, ?_⟩) hHeld ?_ ?_
    rotate_left
    ·
     rintro w' ⟨s0, s1, s2, s3⟩
     go_simp
     with_reducible rfl
    rotate_left
    ·
     simp only [Act.put, sA_, sB_, sC_, i64_w, i32_w]
     rfl
    refine take_ (i := 3) (N := some 29) (v := ?_) (a' := ?_) #[true, true, true, true, false, true, false, false, false, false, false, false] rfl rfl (take_ofW HT_.out HW_.out (by kernel_rfl)) (fun _ _ _ h => h) (Or.inl ⟨by rfl, ?_⟩) hHeld ?_ ?_
    rotate_left
    ·
     rintro w' ⟨s0, s1, s2, s3⟩
     go_simp
     with_reducible rfl
    rotate_left
    ·
     simp only [Act.put, sA_, sB_, sC_, i64_w, i32_w]
     rfl
    refine take_ (i := 6) (N := some 32) (v := ?_) (a' := ?_) #[true, true, true, true, false, true, true, false, false, false, false, false] rfl rfl (take_ofW HT_.out HW_.out (by kernel_rfl)) (fun _ _ _ h => h) (Or.inl ⟨by rfl, ?_⟩) hHeld ?_ ?_
    rotate_left
    ·
     rintro w' ⟨s0, s1, s2, s3⟩
     go_simp
     with_reducible rfl
    rotate_left
    ·
     simp only [Act.put, sA_, sB_, sC_, i64_w, i32_w]
     rfl
    refine one_ (i := 4) (N := some 30) #[true, true, true, true, true, true, true, false, false, false, false, false] rfl rfl (one_of HT_.out (by kernel_rfl)) (by decide) (fun K hK => ?_)
    refine goes_ Try.func48 (by kernel_rfl) rfl #[.int .i64 t347] (by rfl) rfl rfl z6_1_ ?_
    with_reducible refine (spec_l03Size.calls t347 t361 _ A41.out).mono ?_
    rintro e w' ⟨rfl, ⟨nd, rfl⟩⟩
    refine ⟨_, rfl, ?_⟩
    refine hK.out _ _ ⟨(blk_cell BK353.out 0).trans rfl, (blk_cell BK353.out 1).trans rfl, (blk_cell BK353.out 2).trans rfl, (blk_cell BK353.out 3).trans rfl⟩ (fun hHeld => ?_)
    clear hK K
    refine norm_ (a' := ?_) ?_ ?_
    rotate_left
    ·
     show Act.put _ (some 30) _ = _
     simp only [Act.put, sA_, sB_, sC_, i64_w, i32_w]
     rfl
    refine one_ (i := 7) (N := some 33) #[true, true, true, true, true, true, true, true, false, false, false, false] rfl rfl (one_of HT_.out (by kernel_rfl)) (by decide) (fun K hK => ?_)
    refine goes_ Try.func48 (by kernel_rfl) rfl #[.int .i64 t348] (by rfl) rfl rfl z6_1_ ?_
    with_reducible refine (spec_l03Size.calls t348 t362 _ A42.out).mono ?_
    rintro e w' ⟨rfl, ⟨nd, rfl⟩⟩
    refine ⟨_, rfl, ?_⟩
    refine hK.out _ _ ⟨(blk_cell BK353.out 0).trans rfl, (blk_cell BK353.out 1).trans rfl, (blk_cell BK353.out 2).trans rfl, (blk_cell BK353.out 3).trans rfl⟩ (fun hHeld => ?_)
    clear hK K
    refine norm_ (a' := ?_) ?_ ?_
    rotate_left
    ·
     show Act.put _ (some 33) _ = _
     simp only [Act.put, sA_, sB_, sC_, i64_w, i32_w]
     rfl
    refine pure_ (i := 8) (N := some 34) (v := ?_) (a' := ?_) #[true, true, true, true, true, true, true, true, true, false, false, false] rfl rfl (any_of HT_.out (by kernel_rfl)) (fun _ _ _ h => h) (Or.inl ⟨by rfl, ?_⟩) ?_ ?_
    rotate_left
    ·
     intro w'
     go_simp
     with_reducible rfl
    rotate_left
    ·
     simp only [Act.put, sA_, sB_, sC_, i64_w, i32_w]
     rfl
    refine pure_ (i := 9) (N := some 35) (v := ?_) (a' := ?_) #[true, true, true, true, true, true, true, true, true, true, false, false] rfl rfl (any_of HT_.out (by kernel_rfl)) (fun _ _ _ h => h) (Or.inl ⟨by rfl, ?_⟩) ?_ ?_
    rotate_left
    ·
     intro w'
     go_simp
     with_reducible rfl
    rotate_left
    ·
     simp only [Act.put, sA_, sB_, sC_, i64_w, i32_w]
     rfl
    refine pure_ (i := 10) (N := some 36) (v := ?_) (a' := ?_) #[true, true, true, true, true, true, true, true, true, true, true, false] rfl rfl (any_of HT_.out (by kernel_rfl)) (fun _ _ _ h => h) (Or.inl ⟨by rfl, ?_⟩) ?_ ?_
    rotate_left
    ·
     intro w'
     go_simp
     with_reducible rfl
    rotate_left
    ·
     simp only [Act.put, sA_, sB_, sC_, i64_w, i32_w]
     rfl
    refine last_ (i := 11) (N := none) #[true, true, true, true, true, true, true, true, true, true, true, true] rfl rfl (one_of HT_.out (by kernel_rfl)) (by decide) (fun K hK => ?_)
    have hs44 : w43.cell? ⟨gb353, 3, none⟩ = some (.int .i64 t350) := (blk_cell BK353.out 3).trans rfl
    have hfs44 := blk_frozen BK353.out 3
    have hns44_0 := NB342_353.out
    have hns44_2 := NB359_353.out
    have hns44_3 := NB360_353.out
    have hms44_0 := NB353_342.out
    have hms44_2 := NB353_359.out
    have hms44_3 := NB353_360.out
    refine skip_ (w1 := ?_) (by rfl) rfl ?_ ?_
    rotate_left
    ·
     go_simp
     rfl
    refine hK.out _ _ ?_
    clear hK K
    refine done_ (done_of HT_.out (by kernel_rfl)) ?_
    have hnb45 := NB353_342.out
    have hnc45 := NB342_353.out
    have hnb46 := NB353_359.out
    have hnc46 := NB359_353.out
    have hnb47 := NB353_360.out
    have hnc47 := NB360_353.out
    obtain ⟨hcz48_0, hcz48_1, hcz48_2, hcz48_3⟩ := bc4 BK353.out
    obtain ⟨hfz48_0, hfz48_1, hfz48_2, hfz48_3⟩ := bf4 BK353.out
    have hnb49 := NB342_359.out
    have hnc49 := NB359_342.out
    have hnb50 := NB342_360.out
    have hnc50 := NB360_342.out
    obtain ⟨hcz51_0, hcz51_1, hcz51_2, hcz51_3⟩ := bc4 BK342.out
    obtain ⟨hfz51_0, hfz51_1, hfz51_2, hfz51_3⟩ := bf4 BK342.out
    try go_wp2
    refine bodyPost_ret (results_cell_row rfl _ _ gb342 31 #[.int .i64 t347, .int .i64 t348, .int .i64 t349, .int .i64 (wrap64 (t350 + (wrap64 (t361 + t362))))] (0, 0) _ rfl (by (with_reducible repeat (first | refine blk_drewN ?_ _ | refine blk_drew ?_ | refine blk_alloc ?_ _)); refine blk_put (cs := #[.int .i64 t347, .int .i64 t348, .int .i64 t349, .int .i64 0]) ?_ 3 _ rfl; (with_reducible repeat (first | refine blk_drewN ?_ _ | refine blk_drew ?_ | refine blk_alloc ?_ _)); refine blk_put (cs := #[.int .i64 t347, .int .i64 t348, .int .i64 0, .int .i64 0]) ?_ 2 _ rfl; (with_reducible repeat (first | refine blk_drewN ?_ _ | refine blk_drew ?_ | refine blk_alloc ?_ _)); refine blk_put (cs := #[.int .i64 t347, .int .i64 0, .int .i64 0, .int .i64 0]) ?_ 1 _ rfl; (with_reducible repeat (first | refine blk_drewN ?_ _ | refine blk_drew ?_ | refine blk_alloc ?_ _)); refine blk_put (cs := #[.int .i64 0, .int .i64 0, .int .i64 0, .int .i64 0]) ?_ 0 _ rfl; (with_reducible repeat (first | refine blk_drewN ?_ _ | refine blk_drew ?_ | refine blk_alloc ?_ _)); refine blk_far ?_ NB342_353.out _; (with_reducible repeat (first | refine blk_drewN ?_ _ | refine blk_drew ?_ | refine blk_alloc ?_ _)); exact BK342.out) Try.underlying31 rfl (by kernel_rfl)) rfl ?_
    exact ⟨z6_19_, z6_25_⟩
   ·
    replace c40 := Bool.eq_false_iff.mpr c40
    subst c40
    have H1 := H; rw [if_neg (show ¬ (false = true) by decide)] at H1
    clear H
    have H := H1
    clear H1
    simp only [Option.some.injEq, Prod.mk.injEq] at H
    obtain ⟨rfl, rfl, rfl, rfl⟩ := H
    have hnb52 := NB353_342.out
    have hnc52 := NB342_353.out
    have hnb53 := NB353_359.out
    have hnc53 := NB359_353.out
    have hnb54 := NB353_360.out
    have hnc54 := NB360_353.out
    obtain ⟨hcz55_0, hcz55_1, hcz55_2, hcz55_3⟩ := bc4 BK353.out
    obtain ⟨hfz55_0, hfz55_1, hfz55_2, hfz55_3⟩ := bf4 BK353.out
    have hnb56 := NB342_359.out
    have hnc56 := NB359_342.out
    have hnb57 := NB342_360.out
    have hnc57 := NB360_342.out
    obtain ⟨hcz58_0, hcz58_1, hcz58_2, hcz58_3⟩ := bc4 BK342.out
    obtain ⟨hfz58_0, hfz58_1, hfz58_2, hfz58_3⟩ := bf4 BK342.out
    go_wp2
    refine bodyPost_ret (results_cell_row rfl _ _ gb342 31 #[.int .i64 t347, .int .i64 t348, .int .i64 t349, .int .i64 t350] (0, 0) _ rfl (by (with_reducible repeat (first | refine blk_drewN ?_ _ | refine blk_drew ?_ | refine blk_alloc ?_ _)); refine blk_put (cs := #[.int .i64 t347, .int .i64 t348, .int .i64 t349, .int .i64 0]) ?_ 3 _ rfl; (with_reducible repeat (first | refine blk_drewN ?_ _ | refine blk_drew ?_ | refine blk_alloc ?_ _)); refine blk_put (cs := #[.int .i64 t347, .int .i64 t348, .int .i64 0, .int .i64 0]) ?_ 2 _ rfl; (with_reducible repeat (first | refine blk_drewN ?_ _ | refine blk_drew ?_ | refine blk_alloc ?_ _)); refine blk_put (cs := #[.int .i64 t347, .int .i64 0, .int .i64 0, .int .i64 0]) ?_ 1 _ rfl; (with_reducible repeat (first | refine blk_drewN ?_ _ | refine blk_drew ?_ | refine blk_alloc ?_ _)); refine blk_put (cs := #[.int .i64 0, .int .i64 0, .int .i64 0, .int .i64 0]) ?_ 0 _ rfl; (with_reducible repeat (first | refine blk_drewN ?_ _ | refine blk_drew ?_ | refine blk_alloc ?_ _)); exact BK342.out) Try.underlying31 rfl (by kernel_rfl)) rfl ?_
    exact ⟨z6_19_, z6_25_⟩
/-! ### spec_l03List: function 81 -/
def spec_l03List.l0 : Nat → List Int → Int → List Int → Int → Int → Option (List Int × Int × Int)
 | 0, _, _, _, _, _ => none
 | k + 1, x7, x8, x1000, x1001, x1002 => if x8 > 0 then ((spec_l00Src_pick.f x1000 x1001 x1002 3).bind fun bt369 => (if x7.length < 140737488355328 then (spec_l03List.l0 k (x7 ++ [IntKind.i8.wrap (wrap64 (bt369.1 - 1))]) (wrap64 (x8 - 1)) x1000 bt369.2.1 bt369.2.2) else (none))) else (some (x7, x1001, x1002))
def spec_l03List.f (k : Nat) (s0_0 : List Int) (s0_1 : Int) (s0_2 : Int) (a1 : Int) (a2 : Int) : Option (List Int × Int × Int) := (spec_l00Src_pick.f s0_0 s0_1 s0_2 (wrap64 ((wrap64 (a2 - a1)) + 1))).bind fun bt366 => (spec_l03List.l0 k (([] : List Int)) (wrap64 (a1 + bt366.1)) s0_0 bt366.2.1 bt366.2.2)
theorem spec_l03List.mono_l : ∀ k, (∀ y0 y1 y2 y3 y4, LeO (spec_l03List.l0 k y0 y1 y2 y3 y4) (spec_l03List.l0 (k + 1) y0 y1 y2 y3 y4))
 | 0 => fun _ _ _ _ _ r h => by simp [spec_l03List.l0] at h
 | k + 1 => by
  have ih0 := spec_l03List.mono_l k
  ·
   intro y0 y1 y2 y3 y4
   unfold spec_l03List.l0
   repeat' first
   | (with_reducible exact ih0 _ _ _ _ _)
   | (with_reducible exact LeO.refl _)
   | (with_reducible exact LeO.none _)
   | (with_reducible refine LeO.ite ?_ ?_)
   | (with_reducible refine LeO.bind ?_ (fun _ => ?_))
   | exact ih0 _ _ _ _ _
   | exact LeO.none _
   | refine LeO.ite ?_ ?_
   | refine LeO.bind ?_ (fun _ => ?_)
theorem spec_l03List.mono : ∀ a0 a1 a2 a3 a4 k, LeO (spec_l03List.f k a0 a1 a2 a3 a4) (spec_l03List.f (k + 1) a0 a1 a2 a3 a4) := by
 intro a0 a1 a2 a3 a4 k
 have ih0 := spec_l03List.mono_l k
 unfold spec_l03List.f
 repeat' first
   | (with_reducible exact ih0 _ _ _ _ _)
   | (with_reducible exact LeO.refl _)
   | (with_reducible exact LeO.none _)
   | (with_reducible refine LeO.ite ?_ ?_)
   | (with_reducible refine LeO.bind ?_ (fun _ => ?_))
   | exact ih0 _ _ _ _ _
   | exact LeO.none _
   | refine LeO.ite ?_ ?_
   | refine LeO.bind ?_ (fun _ => ?_)
set_option maxHeartbeats 8000000 in
set_option maxRecDepth 100000 in
theorem spec_l03List.calls (k : Nat) (g : Nat) (s0_0 : List Int) (s0_1 : Int) (s0_2 : Int) (a1 : Int) (a2 : Int) (r1 : List Int) (r2 : Int) (r3 : Int) (w0 w : World) (hI : IsS115 w0 w g s0_0 s0_1 s0_2) (hB : Below w0.heap.size w0 w) (h : spec_l03List.f k s0_0 s0_1 s0_2 a1 a2 = some (r1, r2, r3)) :
  Calls Try.prog 81 #[.pointer (some ⟨g, 0, none⟩), .int .i64 a1, .int .i64 a2] w fun e w' => ∃ v0_ : Value, e = .returned (v0_) ∧ Kd.R (Kd.int .i8) 49 w' w.heap.size (fun _ => True) v0_ r1 ∧ IsS115 w0 w' g s0_0 r2 r3 ∧ Below w0.heap.size w0 w' ∧ KeepBut w w' g none := by
 have HI0 := A_ hI
 have HK := A_ (KeepBut.refl w g none)
 have HL := A_ hB.size
 clear hI
 have HW0 := A_ hB.size
 have HB := A_ hB
 clear hB
 have H : ((spec_l00Src_pick.f s0_0 s0_1 s0_2 (wrap64 ((wrap64 (a2 - a1)) + 1))).bind fun bt366 => (spec_l03List.l0 k (([] : List Int)) (wrap64 (a1 + bt366.1)) s0_0 bt366.2.1 bt366.2.2)) = some (r1, r2, r3) := h
 clear h
 obtain ⟨y363, hy363⟩ : ∃ y_ : List Int, y_ = (([] : List Int)) := ⟨_, rfl⟩
 replace H : ((spec_l00Src_pick.f s0_0 s0_1 s0_2 (wrap64 ((wrap64 (a2 - a1)) + 1))).bind fun bt366 => (spec_l03List.l0 k y363 (wrap64 (a1 + bt366.1)) s0_0 bt366.2.1 bt366.2.2)) = some (r1, r2, r3) := by first | (rw [hy363]; with_reducible exact H) | (have H2_ := (Option.bind_some _ _).symm.trans H; rw [hy363]; with_reducible exact H2_) | (have H2_ := (Option.bind_some _ _).symm.trans H; with_reducible exact H2_) | with_reducible exact H | (rw [hy363]; exact H) | exact H
 have Ny363 := A_ hy363
 clear hy363
 replace H := Option.bind_eq_some_iff.mp H
 obtain ⟨⟨t366, t367, t368⟩, A40, H⟩ := H
 try dsimp only at H
 have A4 := A_ A40
 clear A40
 have H' := A_ H
 clear H
 go_enter Try.func81, Try.ntmps81
 go_wp2_with (first | ((with_reducible refine gate_dst (N := 9) rfl ?_); refine Kd.R_lit (Kd.int .i8) _ 49 ?hg (N := 9) ?hd (xs := ([] : List Int)) (inner := []) (ok := fun _ => True) (okp := fun _ => True) ?hr ?hp (fun _ hk => hk) trivial (Below.refl _ _) (Nat.le_refl _) (by simp) ?_; (case hd => rfl); (case hg => rfl); (case hr => first | (go_simp; done) | (go_simp; rfl)); (case hp => exact (Reps.none _ _)); intro v364 w5 ho6 hb hg_ hnew_; clear hg_ hnew_; (first | rw [← Ny363.out] at ho6 | (simp only [Int.reduceToNat] at ho6; rw [← Ny363.out] at ho6)); have _ := A_ (Kd.R_lower ho6 (keep_size (w := w) (g := g) (row := none) z6_2_)); have _ := A_ (IsS115.below z6_6_ hb); have _ := A_ (KeepBut.trans z6_2_ (KeepBut.of_below hb g none) (.inl rfl)); have _ := A_ (below_step z6_7_ hb); clear HI0 HK HB; rename_i HO365 HI0 HK HB; clear hb ho6) | ((with_reducible refine gate_callee (f := 79) rfl ?_); refine goesL_ (some 16) rfl rfl Try.func79 (by kernel_rfl) rfl #[.pointer (some ⟨g, 0, none⟩), .int .i64 (wrap64 ((wrap64 (a2 - a1)) + 1))] rfl z6_1_ ?_; (with_reducible refine (spec_l00Src_pick.calls g s0_0 s0_1 s0_2 (wrap64 ((wrap64 (a2 - a1)) + 1)) t366 t367 t368 w0 _ ?side1 ?side2 A4.out).mono ?_); (case side1 => repeat (first | (with_reducible first | exact HI0.out | apply IsS115.alloc | apply IsS115.drewN | apply IsS115.drew | apply IsS115.set_1 | apply IsS115.set_2) | exact HI0.out)); (case side2 => repeat (first | (with_reducible first | exact HB.out | apply below_alloc | apply pw_below_drewN | apply below_drew1 | refine below_set ?_ (IsS115.ge HI0.out)) | exact HB.out)); rintro e w7 ⟨rfl, hi, hb, hk⟩; refine ⟨_, rfl, ?_⟩; have _ := A_ (Kd.R_mono (Kd.R_keep (IsS115.apart (show IsS115 w0 _ g s0_0 s0_1 s0_2 from by repeat (first | (with_reducible first | exact HI0.out | apply IsS115.alloc | apply IsS115.drewN | apply IsS115.drew | apply IsS115.set_1 | apply IsS115.set_2) | exact HI0.out)) z6_37_ (by decide)) hk (fun _ h => h.2)) (fun _ h => h.1)); have _ := A_ (KeepBut.trans z6_2_ hk (.inl rfl)); have _ := A_ (hb); have _ := A_ (hi); clear HO365 HK HB HI0; rename_i HO365 HK HB HI0; (try clear hb)))
 go_loopg [7, 8] k (fun kq v7 v8 w' => ∃ (x7_1 : List Int) (x8_1 : Int) (x1001_1 : Int) (x1002_1 : Int), v8 = .int .i64 x8_1 ∧ Aside0 (spec_l03List.l0 kq x7_1 x8_1 s0_0 x1001_1 x1002_1 = some (r1, r2, r3)) ∧ Aside0 (kq ≤ k) ∧ Aside0 (Kd.R (Kd.int .i8) 49 w' w.heap.size (fun _ => True) v7 x7_1) ∧ Aside0 (IsS115 w0 w' g s0_0 x1001_1 x1002_1) ∧ Aside0 (KeepBut w w' g none) ∧ Aside0 (Below w0.heap.size w0 w'))
 case atStart => exact ⟨(y363), (wrap64 (a1 + t366)), (t367), (t368), z6_33_, H', ⟨Nat.le_refl _⟩, ⟨z6_37_⟩, ⟨z6_6_⟩, ⟨z6_2_⟩, ⟨z6_7_⟩⟩
 case round =>
  clear H'
  try clear p2
  try clear p6
  try clear c7
  obtain ⟨x7_1, x8_1, x1001_1, x1002_1, rfl, HA, HK1, HO_7, HI0, HK, HB⟩ := hrel
  cases gk with
  | zero => exact absurd HA.out (by simp [spec_l03List.l0])
  | succ k1 =>
   have H := HA.out
   clear HA
   simp only [spec_l03List.l0] at H
   by_cases c8 : x8_1 > 0
   ·
    rw [if_pos c8] at H
    have c8b0 := decide_eq_true c8
    clear c8
    replace H := Option.bind_eq_some_iff.mp H
    obtain ⟨⟨t369, t370, t371⟩, A90, H⟩ := H
    try dsimp only at H
    have A9 := A_ A90
    clear A90
    by_cases c10 : x7_1.length < 140737488355328
    ·
     rw [if_pos c10] at H
     have LMc10 := A_ c10
     clear c10
     obtain ⟨y372, hy372⟩ : ∃ y_ : List Int, y_ = (x7_1 ++ [IntKind.i8.wrap (wrap64 (t369 - 1))]) := ⟨_, rfl⟩
     replace H : (spec_l03List.l0 k1 y372 (wrap64 (x8_1 - 1)) s0_0 t370 t371) = some (r1, r2, r3) := by first | (rw [hy372]; with_reducible exact H) | (have H2_ := (Option.bind_some _ _).symm.trans H; rw [hy372]; with_reducible exact H2_) | (have H2_ := (Option.bind_some _ _).symm.trans H; with_reducible exact H2_) | with_reducible exact H | (rw [hy372]; exact H) | exact H
     have Ny372 := A_ hy372
     clear hy372
     have H' := A_ H
     clear H
     go_wp2_with (first | ((with_reducible refine gate_callee (f := 79) rfl ?_); refine goesL_ (some 24) rfl rfl Try.func79 (by kernel_rfl) rfl #[.pointer (some ⟨g, 0, none⟩), .int .i64 3] rfl z6_1_ ?_; (with_reducible refine (spec_l00Src_pick.calls g s0_0 x1001_1 x1002_1 3 t369 t370 t371 w0 _ ?side1 ?side2 A9.out).mono ?_); (case side1 => repeat (first | (with_reducible first | exact HI0.out | apply IsS115.alloc | apply IsS115.drewN | apply IsS115.drew | apply IsS115.set_1 | apply IsS115.set_2) | exact HI0.out)); (case side2 => repeat (first | (with_reducible first | exact HB.out | apply below_alloc | apply pw_below_drewN | apply below_drew1 | refine below_set ?_ (IsS115.ge HI0.out)) | exact HB.out)); rintro e w11 ⟨rfl, hi, hb, hk⟩; refine ⟨_, rfl, ?_⟩; have _ := A_ (Kd.R_mono (Kd.R_keep (IsS115.apart (show IsS115 w0 _ g s0_0 x1001_1 x1002_1 from by repeat (first | (with_reducible first | exact HI0.out | apply IsS115.alloc | apply IsS115.drewN | apply IsS115.drew | apply IsS115.set_1 | apply IsS115.set_2) | exact HI0.out)) z6_32_ (by decide)) hk (fun _ h => h.2)) (fun _ h => h.1)); have _ := A_ (KeepBut.trans z6_2_ hk (.inl rfl)); have _ := A_ (hb); have _ := A_ (hi); clear HO_7 HK HB HI0; rename_i HO_7 HK HB HI0; (try clear hb)) | ((with_reducible refine gate_builtin (b := .append) (xs := #[.tmp 22, .tmp 27]) rfl ?_); at_builtin; refine Kd.R_append (Kd.int .i8) w.heap.size rfl (.tmp 22) (.tmp 27) 24 49 (.int .i8 0) 1 rfl Try.underlying24 info49 rfl (by decide) (by omega) u7 x7_1 (IntKind.i8.wrap (wrap64 (t369 - 1))) [.int .i8 (IntKind.i8.wrap (wrap64 (t369 - 1)))] (fun _ => True) (fun _ => False) rfl rfl ?aP (fun _ hk => hk.elim) ?aF ?aO (Below.refl _ _) ?aS ?aL ?_; (case aP => exact rfl); (case aF => exact (fun _ _ => trivial)); (case aO => exact z6_32_); (case aS => exact (keep_size (w := w) (g := g) (row := none) z6_2_)); (case aL => have := LMc10.out; omega); intro v373 w12 ho hb hg hat; rw [← Ny372.out] at ho; have _ := A_ (IsS115.grown z6_6_ hg (IsS115.own_ne HI0.out HO_7.out (by decide))); have _ := A_ (below_weaken z6_7_ HL.out hb); have _ := A_ (KeepBut.trans z6_2_ (KeepBut.of_grown hg g) (Kd.R_base2 HO_7.out)); have _ := A_ (ho); clear HI0 HB HK HO_7; rename_i HI0 HB HK HO374; clear ho hb hg hat))
     go_roundg k1
     case measure => have := HK1.out; omega
     case rel => exact ⟨(y372), (wrap64 (x8_1 - 1)), (t370), (t371), z6_33_, H', ⟨(by have := HK1.out; omega)⟩, ⟨(by (with_reducible repeat (first | apply Kd.R_alloc | apply Kd.R_drewN | apply Kd.R_drew)); exact HO374.out)⟩, ⟨z6_6_⟩, ⟨z6_2_⟩, ⟨z6_7_⟩⟩
    ·
     rw [if_neg c10] at H
     exact absurd H (by simp)
   ·
    rw [if_neg c8] at H
    have c8b0 := decide_eq_false c8
    clear c8
    simp only [Option.some.injEq, Prod.mk.injEq] at H
    obtain ⟨rfl, rfl, rfl⟩ := H
    go_wp2
    go_ret
    exact ⟨_, z6_19_, z6_32_, z6_6_, z6_7_, z6_2_⟩
/-! ### spec_l03Drawn: function 49 -/
def spec_l03Drawn.f (k : Nat) (s0_0 : List Int) (s0_1 : Int) (s0_2 : Int) : Option (List Int × List Int × Int × Int) := (spec_l03List.f k s0_0 s0_1 s0_2 0 5).bind fun bt376 => ((spec_l03List.f k s0_0 bt376.2.1 bt376.2.2 1 4).bind fun bt381 => (some (bt376.1, bt381.1, bt381.2.1, bt381.2.2)))
theorem spec_l03Drawn.mono : ∀ a0 a1 a2 k, LeO (spec_l03Drawn.f k a0 a1 a2) (spec_l03Drawn.f (k + 1) a0 a1 a2) := by
 intro a0 a1 a2 k
 unfold spec_l03Drawn.f
 repeat' first
   | (with_reducible exact spec_l03List.mono _ _ _ _ _ _)
   | (with_reducible exact LeO.refl _)
   | (with_reducible exact LeO.none _)
   | (with_reducible refine LeO.ite ?_ ?_)
   | (with_reducible refine LeO.bind ?_ (fun _ => ?_))
   | exact LeO.none _
   | refine LeO.ite ?_ ?_
   | refine LeO.bind ?_ (fun _ => ?_)
set_option maxHeartbeats 8000000 in
set_option maxRecDepth 100000 in
theorem spec_l03Drawn.calls (k : Nat) (g : Nat) (s0_0 : List Int) (s0_1 : Int) (s0_2 : Int) (r1 : List Int) (r2 : List Int) (r3 : Int) (r4 : Int) (w0 w : World) (hI : IsS115 w0 w g s0_0 s0_1 s0_2) (hB : Below w0.heap.size w0 w) (h : spec_l03Drawn.f k s0_0 s0_1 s0_2 = some (r1, r2, r3, r4)) :
  Calls Try.prog 49 #[.pointer (some ⟨g, 0, none⟩)] w fun e w' => ∃ v0_ v1_ : Value, e = .returned (.agg #[v0_, v1_]) ∧ Kd.R (Kd.int .i8) 49 w' w.heap.size (fun k_ => some k_ ≠ (v1_ : Value).ownBlock) v0_ r1 ∧ Kd.R (Kd.int .i8) 49 w' w.heap.size (fun k_ => some k_ ≠ (v0_ : Value).ownBlock) v1_ r2 ∧ IsS115 w0 w' g s0_0 r3 r4 ∧ Below w0.heap.size w0 w' ∧ KeepBut w w' g none := by
 have hu33 := Try.underlying33
 have HI0 := A_ hI
 have HK := A_ (KeepBut.refl w g none)
 have HL := A_ hB.size
 clear hI
 have HW0 := A_ hB.size
 have HB := A_ hB
 clear hB
 have H : ((spec_l03List.f k s0_0 s0_1 s0_2 0 5).bind fun bt376 => ((spec_l03List.f k s0_0 bt376.2.1 bt376.2.2 1 4).bind fun bt381 => (some (bt376.1, bt381.1, bt381.2.1, bt381.2.2)))) = some (r1, r2, r3, r4) := h
 clear h
 replace H := Option.bind_eq_some_iff.mp H
 obtain ⟨⟨t376, t379, t380⟩, A20, H⟩ := H
 try dsimp only at H
 have A2 := A_ A20
 clear A20
 replace H := Option.bind_eq_some_iff.mp H
 obtain ⟨⟨t381, t384, t385⟩, A30, H⟩ := H
 try dsimp only at H
 have A3 := A_ A30
 clear A30
 simp only [Option.some.injEq, Prod.mk.injEq] at H
 obtain ⟨rfl, rfl, rfl, rfl⟩ := H
 go_enter Try.func49, Try.ntmps49
 go_wp2_with (first | ((with_reducible refine gate_dst (N := 2) rfl ?_); refine box_event ?hg (N := 2) ?hd (cs := #[.slice none 0 0, .slice none 0 0]) (t := 33) ?hr ?_; (case hd => rfl); (case hg => rfl); (case hr => first | (go_simp; done) | (go_simp; rfl)); intro gb375 hg w4 hbox hb; have _ := A_ (IsS115.below z6_6_ hb); have _ := A_ (KeepBut.trans z6_2_ (KeepBut.of_below hb g none) (.inl rfl)); have _ := A_ (below_step z6_7_ hb); have _ := A_ (hbox); have _ := A_ ((by rw [hg]; exact (keep_size (w := w) (g := g) (row := none) z6_2_) : w.heap.size ≤ gb375)); have _ := A_ ((Nat.le_trans HW0.out (by rw [hg]; exact (keep_size (w := w) (g := g) (row := none) z6_2_) : w.heap.size ≤ gb375) : w0.heap.size ≤ gb375)); have _ := A_ ((by rw [hg]; exact Nat.ne_of_lt (IsS115.lt (show IsS115 w0 _ g s0_0 s0_1 s0_2 from by repeat (first | (with_reducible first | exact HI0.out | apply IsS115.alloc | apply IsS115.drewN | apply IsS115.drew | apply IsS115.set_1 | apply IsS115.set_2) | exact HI0.out))) : g ≠ gb375)); have _ := A_ ((by rw [hg]; exact Nat.ne_of_gt (IsS115.lt (show IsS115 w0 _ g s0_0 s0_1 s0_2 from by repeat (first | (with_reducible first | exact HI0.out | apply IsS115.alloc | apply IsS115.drewN | apply IsS115.drew | apply IsS115.set_1 | apply IsS115.set_2) | exact HI0.out))) : gb375 ≠ g)); clear HI0 HK HB; rename_i HI0 HK HB BK375 GW375 GE375 NB0_375 NB375_0; clear hb hbox hg) | ((with_reducible refine gate_callee (f := 81) rfl ?_); refine goesL_ (some 5) rfl rfl Try.func81 (by kernel_rfl) rfl #[.pointer (some ⟨g, 0, none⟩), .int .i64 0, .int .i64 5] rfl z6_1_ ?_; (with_reducible refine (spec_l03List.calls k g s0_0 s0_1 s0_2 0 5 t376 t379 t380 w0 _ ?side1 ?side2 A2.out).mono ?_); (case side1 => repeat (first | (with_reducible first | exact HI0.out | apply IsS115.alloc | apply IsS115.drewN | apply IsS115.drew | apply IsS115.set_1 | apply IsS115.set_2 | refine IsS115.far ?_ NB0_375.out _) | exact HI0.out)); (case side2 => repeat (first | (with_reducible first | exact HB.out | apply below_alloc | apply pw_below_drewN | apply below_drew1 | refine below_set ?_ (IsS115.ge HI0.out) | refine below_set ?_ GE375.out) | exact HB.out)); rintro e w5 ⟨v377, rfl, ho0, hi, hb, hk⟩; refine ⟨_, rfl, ?_⟩; have _ := A_ (KeepBut.blk hk (g' := gb375) (o := .cells #[.slice none 0 0, .slice none 0 0] 33 (0, 0)) z6_35_ NB375_0.out (by simp)); have _ := A_ (Kd.R_lower ho0 (keep_size (w := w) (g := g) (row := none) z6_14_)); have _ := A_ (KeepBut.trans z6_14_ hk (.inl rfl)); have _ := A_ (hb); have _ := A_ (hi); clear BK375 HK HB HI0; rename_i BK375 HO378 HK HB HI0; (try clear hb); (try clear ho0)) | ((with_reducible refine gate_callee (f := 81) rfl ?_); refine goesL_ (some 8) rfl rfl Try.func81 (by kernel_rfl) rfl #[.pointer (some ⟨g, 0, none⟩), .int .i64 1, .int .i64 4] rfl z6_1_ ?_; (with_reducible refine (spec_l03List.calls k g s0_0 t379 t380 1 4 t381 t384 t385 w0 _ ?side1 ?side2 A3.out).mono ?_); (case side1 => repeat (first | (with_reducible first | exact HI0.out | apply IsS115.alloc | apply IsS115.drewN | apply IsS115.drew | apply IsS115.set_1 | apply IsS115.set_2 | refine IsS115.far ?_ NB0_375.out _) | exact HI0.out)); (case side2 => repeat (first | (with_reducible first | exact HB.out | apply below_alloc | apply pw_below_drewN | apply below_drew1 | refine below_set ?_ (IsS115.ge HI0.out) | refine below_set ?_ GE375.out) | exact HB.out)); rintro e w6 ⟨v382, rfl, ho0, hi, hb, hk⟩; refine ⟨_, rfl, ?_⟩; have _ := A_ (KeepBut.blk hk (g' := gb375) (o := .cells #[.slice none 0 0, .slice none 0 0] 33 (0, 0)) z6_35_ NB375_0.out (by simp)); have _ := A_ (Kd.R_mono (Kd.R_told (Kd.R_oldK (IsS115.apart (show IsS115 w0 _ g s0_0 t379 t380 from by repeat (first | (with_reducible first | exact HI0.out | apply IsS115.alloc | apply IsS115.drewN | apply IsS115.drew | apply IsS115.set_1 | apply IsS115.set_2 | refine IsS115.far ?_ NB0_375.out _) | exact HI0.out)) z6_36_ (by decide)) hk) (Kd.R_base ho0)) (fun _ h_ => h_.1)); have _ := A_ (Kd.R_lower (Kd.R_new' ho0 (Kd.R_lt z6_36_)) (keep_size (w := w) (g := g) (row := none) z6_14_)); have _ := A_ (KeepBut.trans z6_14_ hk (.inl rfl)); have _ := A_ (hb); have _ := A_ (hi); clear BK375 HO378 HK HB HI0; rename_i BK375 HO378 HO383 HK HB HI0; (try clear hb); (try clear ho0); obtain ⟨Ao7, co7, eo7⟩ := Kd.R_slice HO383.out; subst eo7; obtain ⟨Ao8, co8, eo8⟩ := Kd.R_slice HO378.out; subst eo8; have hnb9 := NB375_0.out; have hnc9 := NB0_375.out; obtain ⟨hcz10_0, hcz10_1⟩ := bc2 BK375.out; obtain ⟨hfz10_0, hfz10_1⟩ := bf2 BK375.out))
 refine bodyPost_ret (results_cell_row rfl _ _ gb375 33 #[.slice Ao8 t376.length co8, .slice Ao7 t381.length co7] (0, 0) _ rfl (by (with_reducible repeat (first | refine blk_drewN ?_ _ | refine blk_drew ?_ | refine blk_alloc ?_ _)); refine blk_put (cs := #[.slice Ao8 t376.length co8, .slice none 0 0]) ?_ 1 _ rfl; (with_reducible repeat (first | refine blk_drewN ?_ _ | refine blk_drew ?_ | refine blk_alloc ?_ _)); refine blk_put (cs := #[.slice none 0 0, .slice none 0 0]) ?_ 0 _ rfl; (with_reducible repeat (first | refine blk_drewN ?_ _ | refine blk_drew ?_ | refine blk_alloc ?_ _)); exact BK375.out) Try.underlying33 rfl (by kernel_rfl)) rfl ?_
 exact ⟨_, _, z6_19_, (by (with_reducible repeat (first | apply Kd.R_alloc | apply Kd.R_drewN | apply Kd.R_drew)); exact Kd.R_mono (Kd.R_far (p := ⟨gb375, 1, none⟩) (Kd.R_far (p := ⟨gb375, 0, none⟩) (Kd.R_types HO378.out BK375.out (by decide)) (fun _ hk => hk.2) (.slice Ao8 t376.length co8)) (fun _ hk => hk.2) (.slice Ao7 t381.length co7)) (fun _ hk => hk.1.2)), (by (with_reducible repeat (first | apply Kd.R_alloc | apply Kd.R_drewN | apply Kd.R_drew)); exact Kd.R_mono (Kd.R_far (p := ⟨gb375, 1, none⟩) (Kd.R_far (p := ⟨gb375, 0, none⟩) (Kd.R_types HO383.out BK375.out (by decide)) (fun _ hk => hk.2) (.slice Ao8 t376.length co8)) (fun _ hk => hk.2) (.slice Ao7 t381.length co7)) (fun _ hk => hk.1.2)), (by repeat (first | (with_reducible first | exact HI0.out | apply IsS115.alloc | apply IsS115.drewN | apply IsS115.drew | apply IsS115.set_1 | apply IsS115.set_2 | refine IsS115.far ?_ NB0_375.out _) | exact HI0.out)), (by repeat (first | (with_reducible first | exact HB.out | apply below_alloc | apply pw_below_drewN | apply below_drew1 | refine below_set ?_ (IsS115.ge HI0.out) | refine below_set ?_ GE375.out) | exact HB.out)), z6_14_⟩
/-! ### spec_A2Stream: function 24 -/
def spec_A2Stream.f (k : Nat) (l0 : List Int) : Option (List Int × List Int) := (spec_l00From.f l0).bind fun bt387 => ((spec_l03Drawn.f k bt387.1 bt387.2.1 bt387.2.2).bind fun bt391 => (some (bt391.1, bt391.2.1)))
theorem spec_A2Stream.mono : ∀ a0 k, LeO (spec_A2Stream.f k a0) (spec_A2Stream.f (k + 1) a0) := by
 intro a0 k
 unfold spec_A2Stream.f
 repeat' first
   | (with_reducible exact spec_l03Drawn.mono _ _ _ _)
   | (with_reducible exact LeO.refl _)
   | (with_reducible exact LeO.none _)
   | (with_reducible refine LeO.ite ?_ ?_)
   | (with_reducible refine LeO.bind ?_ (fun _ => ?_))
   | exact LeO.none _
   | refine LeO.ite ?_ ?_
   | refine LeO.bind ?_ (fun _ => ?_)
set_option maxHeartbeats 8000000 in
set_option maxRecDepth 100000 in
theorem spec_A2Stream.calls (k : Nat) (A0 : Option Addr) (c0 : Nat) (l0 : List Int) (r1 : List Int) (r2 : List Int) (w : World) (hr0 : Kd.C (Kd.int .u8) w A0 l0.length l0) (hc0 : l0.length ≤ c0) (h : spec_A2Stream.f k l0 = some (r1, r2)) :
  Calls Try.prog 24 #[.slice A0 l0.length c0] w fun e w' => ∃ v0_ v1_ : Value, e = .returned (.agg #[v0_, v1_]) ∧ Kd.R (Kd.int .i8) 49 w' w.heap.size (fun k_ => some k_ ≠ (v1_ : Value).ownBlock) v0_ r1 ∧ Kd.R (Kd.int .i8) 49 w' w.heap.size (fun k_ => some k_ ≠ (v0_ : Value).ownBlock) v1_ r2 ∧ Below w.heap.size w w' := by
 have hu33 := Try.underlying33
 have HR0 := A_ hr0
 have HC0 := A_ hc0
 clear hr0 hc0
 have HB := A_ (Below.refl w.heap.size w)
 have H : ((spec_l00From.f l0).bind fun bt387 => ((spec_l03Drawn.f k bt387.1 bt387.2.1 bt387.2.2).bind fun bt391 => (some (bt391.1, bt391.2.1)))) = some (r1, r2) := h
 clear h
 replace H := Option.bind_eq_some_iff.mp H
 obtain ⟨⟨t387, t388, t389⟩, A20, H⟩ := H
 try dsimp only at H
 have A2 := A_ A20
 clear A20
 replace H := Option.bind_eq_some_iff.mp H
 obtain ⟨⟨t391, t394, t397, t398⟩, A30, H⟩ := H
 try dsimp only at H
 have A3 := A_ A30
 clear A30
 simp only [Option.some.injEq, Prod.mk.injEq] at H
 obtain ⟨rfl, rfl⟩ := H
 go_enter Try.func24, Try.ntmps24
 go_wp2_with (first | ((with_reducible refine gate_dst (N := 2) rfl ?_); refine box_event ?hg (N := 2) ?hd (cs := #[.slice none 0 0, .slice none 0 0]) (t := 33) ?hr ?_; (case hd => rfl); (case hg => rfl); (case hr => first | (go_simp; done) | (go_simp; rfl)); intro gb386 hg w4 hbox hb; have _ := A_ (below_step z6_10_ hb); have _ := A_ (hbox); have _ := A_ ((by rw [hg]; exact (below_size z6_10_) : w.heap.size ≤ gb386)); have _ := A_ ((by rw [hg]; exact (below_size z6_10_) : w.heap.size ≤ gb386)); clear HB; rename_i HB BK386 GW386 GE386; clear hb hbox hg) | ((with_reducible refine gate_callee (f := 46) rfl ?_); refine goesL_ (some 4) rfl rfl Try.func46 (by kernel_rfl) rfl #[.slice A0 l0.length c0] rfl z6_1_ ?_; (with_reducible refine (spec_l00From.calls _ _ l0 t387 t388 t389 w _ ?side1 ?side2 ?side3 A2.out).mono ?_); (case side1 => repeat (first | (with_reducible first | exact HB.out | apply below_alloc | apply pw_below_drewN | apply below_drew1 | refine below_set ?_ GE386.out) | exact HB.out)); (case side2 => exact HR0.out); (case side3 => exact HC0.out); rintro e w5 ⟨g390, rfl, hi, hb, hb2⟩; refine ⟨_, rfl, ?_⟩; have _ := A_ (blk_below (g := gb386) (o := .cells #[.slice none 0 0, .slice none 0 0] 33 (0, 0)) z6_23_ hb2); have _ := A_ (hb); have _ := A_ (hi); have _ := A_ (IsS115.ne_blk hi (blk_below (g := gb386) (o := .cells #[.slice none 0 0, .slice none 0 0] 33 (0, 0)) z6_23_ hb2) (by decide)); have _ := A_ (Ne.symm (IsS115.ne_blk hi (blk_below (g := gb386) (o := .cells #[.slice none 0 0, .slice none 0 0] 33 (0, 0)) z6_23_ hb2) (by decide))); clear BK386 HB; rename_i BK386 HB HI390 NB390_386 NB386_390; (try clear hb)) | ((with_reducible refine gate_callee (f := 49) rfl ?_); refine goesL_ (some 5) rfl rfl Try.func49 (by kernel_rfl) rfl #[.pointer (some ⟨g390, 0, none⟩)] rfl z6_1_ ?_; (with_reducible refine (spec_l03Drawn.calls k g390 t387 t388 t389 t391 t394 t397 t398 w _ ?side1 ?side2 A3.out).mono ?_); (case side1 => repeat (first | (with_reducible first | exact HI390.out | apply IsS115.alloc | apply IsS115.drewN | apply IsS115.drew | apply IsS115.set_1 | apply IsS115.set_2 | refine IsS115.far ?_ NB390_386.out _) | exact HI390.out)); (case side2 => repeat (first | (with_reducible first | exact HB.out | apply below_alloc | apply pw_below_drewN | apply below_drew1 | refine below_set ?_ (IsS115.ge HI390.out) | refine below_set ?_ GE386.out) | exact HB.out)); rintro e w6 ⟨v392, v395, rfl, ho0, ho1, hi, hb, hk⟩; refine ⟨_, rfl, ?_⟩; have _ := A_ (KeepBut.blk hk (g' := gb386) (o := .cells #[.slice none 0 0, .slice none 0 0] 33 (0, 0)) z6_23_ NB386_390.out (by simp)); have _ := A_ (Kd.R_lower ho0 (below_size z6_21_)); have _ := A_ (Kd.R_lower ho1 (below_size z6_21_)); have _ := A_ (hb); have _ := A_ (hi); clear BK386 HB HI390; rename_i BK386 HO393 HO396 HB HI390; (try clear hb); (try clear ho0); (try clear ho1); obtain ⟨Ao7, co7, eo7⟩ := Kd.R_slice HO393.out; subst eo7; have hnb8 := NB386_390.out; have hnc8 := NB390_386.out; obtain ⟨hcz9_0, hcz9_1⟩ := bc2 BK386.out; obtain ⟨hfz9_0, hfz9_1⟩ := bf2 BK386.out; obtain ⟨Ao10, co10, eo10⟩ := Kd.R_slice HO396.out; subst eo10))
 refine bodyPost_ret (results_cell_row rfl _ _ gb386 33 #[.slice Ao7 t391.length co7, .slice Ao10 t394.length co10] (0, 0) _ rfl (by (with_reducible repeat (first | refine blk_drewN ?_ _ | refine blk_drew ?_ | refine blk_alloc ?_ _)); refine blk_put (cs := #[.slice Ao7 t391.length co7, .slice none 0 0]) ?_ 1 _ rfl; (with_reducible repeat (first | refine blk_drewN ?_ _ | refine blk_drew ?_ | refine blk_alloc ?_ _)); refine blk_put (cs := #[.slice none 0 0, .slice none 0 0]) ?_ 0 _ rfl; (with_reducible repeat (first | refine blk_drewN ?_ _ | refine blk_drew ?_ | refine blk_alloc ?_ _)); exact BK386.out) Try.underlying33 rfl (by kernel_rfl)) rfl ?_
 exact ⟨_, _, z6_19_, (by (with_reducible repeat (first | apply Kd.R_alloc | apply Kd.R_drewN | apply Kd.R_drew)); exact Kd.R_mono (Kd.R_far (p := ⟨gb386, 1, none⟩) (Kd.R_far (p := ⟨gb386, 0, none⟩) (Kd.R_types HO393.out BK386.out (by decide)) (fun _ hk => hk.2) (.slice Ao7 t391.length co7)) (fun _ hk => hk.2) (.slice Ao10 t394.length co10)) (fun _ hk => hk.1)), (by (with_reducible repeat (first | apply Kd.R_alloc | apply Kd.R_drewN | apply Kd.R_drew)); exact Kd.R_mono (Kd.R_far (p := ⟨gb386, 1, none⟩) (Kd.R_far (p := ⟨gb386, 0, none⟩) (Kd.R_types HO396.out BK386.out (by decide)) (fun _ hk => hk.2) (.slice Ao7 t391.length co7)) (fun _ hk => hk.2) (.slice Ao10 t394.length co10)) (fun _ hk => hk.1)), z6_21_⟩
end Go.Proofs.Ytififhihgkbafaa.PM

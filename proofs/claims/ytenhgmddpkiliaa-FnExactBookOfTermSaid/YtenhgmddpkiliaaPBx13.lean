-- Written by a program (xprint.py) out of the translation's own print; Lean checks it.
import Derived.Test.YtenhgmddpkiliaaPBx0
import Derived.Test.YtenhgmddpkiliaaPBx3
import Derived.Test.YtenhgmddpkiliaaPBx4
namespace Go.Proofs.Ytenhgmddpkiliaa.PB
open Go.RowKit Go.Proofs.YtenhgmddpkiliaaW.PrintWords Go.Proofs.YtenhgmddpkiliaaW.PrintLast Go.Proofs.YtenhgmddpkiliaaW.PrintMore
attribute [local go_sem] max2_int min2_int max_two min_two max_three min_three max_four min_four   -- for this text's walks alone
set_option linter.unusedVariables false
set_option linter.unusedSimpArgs false
/-! ### laws_toNode: function 71 -/
def laws_toNode.f (a0_0 : Int) (a0_1 : Int) (a0_2 : Int) (a0_3 : Int) (a0_4 : Int) : Option (Int × Int × Int × Int × Int) := some (a0_0, a0_1, a0_2, a0_3, a0_4)
set_option maxHeartbeats 8000000 in
set_option maxRecDepth 100000 in
theorem laws_toNode.calls (a0_0 : Int) (a0_1 : Int) (a0_2 : Int) (a0_3 : Int) (a0_4 : Int) (r1 : Int) (r2 : Int) (r3 : Int) (r4 : Int) (r5 : Int) (w : World) (h : laws_toNode.f a0_0 a0_1 a0_2 a0_3 a0_4 = some (r1, r2, r3, r4, r5)) :
  Calls Try.prog 71 #[.agg #[.int .i8 a0_0, .int .i16 a0_1, .int .i16 a0_2, .int .i64 a0_3, .int .i64 a0_4]] w fun e w' => e = .returned (.agg #[.int .i8 r1, .int .i16 r2, .int .i16 r3, .int .i64 r4, .int .i64 r5]) ∧ Below w.heap.size w w' := by
 have hu86 := Try.underlying86
 have hu83 := Try.underlying83
 have HB := Aside0.mk (Below.refl w.heap.size w)
 have H : (some (a0_0, a0_1, a0_2, a0_3, a0_4)) = some (r1, r2, r3, r4, r5) := h
 clear h
 simp only [Option.some.injEq, Prod.mk.injEq] at H
 obtain ⟨rfl, rfl, rfl, rfl, rfl⟩ := H
 go_enter Try.func71, Try.ntmps71
 go_wp2_with (first | ((with_reducible refine gate_dst (N := 1) rfl ?_); refine box_event ?hg (N := 1) ?hd (cs := #[.int .i8 a0_0, .int .i16 a0_1, .int .i16 a0_2, .int .i64 a0_3, .int .i64 a0_4]) (t := 86) ?hr ?_; (case hd => rfl); (case hg => rfl); (case hr => first | (go_simp; done) | (go_simp; rfl)); intro gb382 hg w2 hbox hb; have n0_ := Aside0.mk (below_step (by repeat (first | (with_reducible first | exact HB.out | apply below_alloc | apply pw_below_drewN | apply below_drew1) | exact HB.out)) hb); have n1_ := Aside0.mk (hbox); have n2_ := Aside0.mk ((by rw [hg]; exact (below_size (by repeat (first | (with_reducible first | exact HB.out | apply below_alloc | apply pw_below_drewN | apply below_drew1) | exact HB.out))) : w.heap.size ≤ gb382)); have n3_ := Aside0.mk ((by rw [hg]; exact (below_size (by repeat (first | (with_reducible first | exact HB.out | apply below_alloc | apply pw_below_drewN | apply below_drew1) | exact HB.out))) : w.heap.size ≤ gb382)); clear HB; have HB := n0_; have BK382 := n1_; have GW382 := n2_; have GE382 := n3_; clear n0_ n1_ n2_ n3_; clear hb hbox hg) | ((with_reducible refine gate_dst (N := 2) rfl ?_); refine box_event ?hg (N := 2) ?hd (cs := #[.int .i8 0, .int .i16 0, .int .i16 0, .int .i64 0, .int .i64 0]) (t := 83) ?hr ?_; (case hd => rfl); (case hg => rfl); (case hr => first | (go_simp; done) | (go_simp; rfl)); intro gb383 hg w3 hbox hb; have n0_ := Aside0.mk (blk_below (g := gb382) (o := .cells #[.int .i8 a0_0, .int .i16 a0_1, .int .i16 a0_2, .int .i64 a0_3, .int .i64 a0_4] 86 (0, 0)) (by (with_reducible repeat (first | refine blk_drewN ?_ _ | refine blk_drew ?_ | refine blk_alloc ?_ _)); exact BK382.out) hb); have n1_ := Aside0.mk (below_step (by repeat (first | (with_reducible first | exact HB.out | apply below_alloc | apply pw_below_drewN | apply below_drew1 | refine below_set ?_ GE382.out) | exact HB.out)) hb); have n2_ := Aside0.mk (hbox); have n3_ := Aside0.mk ((by rw [hg]; exact (below_size (by repeat (first | (with_reducible first | exact HB.out | apply below_alloc | apply pw_below_drewN | apply below_drew1 | refine below_set ?_ GE382.out) | exact HB.out))) : w.heap.size ≤ gb383)); have n4_ := Aside0.mk ((by rw [hg]; exact (below_size (by repeat (first | (with_reducible first | exact HB.out | apply below_alloc | apply pw_below_drewN | apply below_drew1 | refine below_set ?_ GE382.out) | exact HB.out))) : w.heap.size ≤ gb383)); have n5_ := Aside0.mk ((by rw [hg]; exact Nat.ne_of_lt (blk_lt (g := gb382) (o := .cells #[.int .i8 a0_0, .int .i16 a0_1, .int .i16 a0_2, .int .i64 a0_3, .int .i64 a0_4] 86 (0, 0)) (by (with_reducible repeat (first | refine blk_drewN ?_ _ | refine blk_drew ?_ | refine blk_alloc ?_ _)); exact BK382.out)) : gb382 ≠ gb383)); have n6_ := Aside0.mk ((by rw [hg]; exact Nat.ne_of_gt (blk_lt (g := gb382) (o := .cells #[.int .i8 a0_0, .int .i16 a0_1, .int .i16 a0_2, .int .i64 a0_3, .int .i64 a0_4] 86 (0, 0)) (by (with_reducible repeat (first | refine blk_drewN ?_ _ | refine blk_drew ?_ | refine blk_alloc ?_ _)); exact BK382.out)) : gb383 ≠ gb382)); clear BK382; clear HB; have BK382 := n0_; have HB := n1_; have BK383 := n2_; have GW383 := n3_; have GE383 := n4_; have NB382_383 := n5_; have NB383_382 := n6_; clear n0_ n1_ n2_ n3_ n4_ n5_ n6_; clear hb hbox hg) | ((with_reducible refine gate_dst (N := 3) rfl ?_); refine box_event ?hg (N := 3) ?hd (cs := #[.int .i8 0, .int .i16 0, .int .i16 0, .int .i64 0, .int .i64 0]) (t := 83) ?hr ?_; (case hd => rfl); (case hg => rfl); (case hr => first | (go_simp; done) | (go_simp; rfl)); intro gb384 hg w4 hbox hb; have n0_ := Aside0.mk (blk_below (g := gb382) (o := .cells #[.int .i8 a0_0, .int .i16 a0_1, .int .i16 a0_2, .int .i64 a0_3, .int .i64 a0_4] 86 (0, 0)) (by (with_reducible repeat (first | refine blk_drewN ?_ _ | refine blk_drew ?_ | refine blk_alloc ?_ _)); exact BK382.out) hb); have n1_ := Aside0.mk (blk_below (g := gb383) (o := .cells #[.int .i8 0, .int .i16 0, .int .i16 0, .int .i64 0, .int .i64 0] 83 (0, 0)) (by (with_reducible repeat (first | refine blk_drewN ?_ _ | refine blk_drew ?_ | refine blk_alloc ?_ _)); exact BK383.out) hb); have n2_ := Aside0.mk (below_step (by repeat (first | (with_reducible first | exact HB.out | apply below_alloc | apply pw_below_drewN | apply below_drew1 | refine below_set ?_ GE382.out | refine below_set ?_ GE383.out) | exact HB.out)) hb); have n3_ := Aside0.mk (hbox); have n4_ := Aside0.mk ((by rw [hg]; exact (below_size (by repeat (first | (with_reducible first | exact HB.out | apply below_alloc | apply pw_below_drewN | apply below_drew1 | refine below_set ?_ GE382.out | refine below_set ?_ GE383.out) | exact HB.out))) : w.heap.size ≤ gb384)); have n5_ := Aside0.mk ((by rw [hg]; exact (below_size (by repeat (first | (with_reducible first | exact HB.out | apply below_alloc | apply pw_below_drewN | apply below_drew1 | refine below_set ?_ GE382.out | refine below_set ?_ GE383.out) | exact HB.out))) : w.heap.size ≤ gb384)); have n6_ := Aside0.mk ((by rw [hg]; exact Nat.ne_of_lt (blk_lt (g := gb382) (o := .cells #[.int .i8 a0_0, .int .i16 a0_1, .int .i16 a0_2, .int .i64 a0_3, .int .i64 a0_4] 86 (0, 0)) (by (with_reducible repeat (first | refine blk_drewN ?_ _ | refine blk_drew ?_ | refine blk_alloc ?_ _)); exact BK382.out)) : gb382 ≠ gb384)); have n7_ := Aside0.mk ((by rw [hg]; exact Nat.ne_of_gt (blk_lt (g := gb382) (o := .cells #[.int .i8 a0_0, .int .i16 a0_1, .int .i16 a0_2, .int .i64 a0_3, .int .i64 a0_4] 86 (0, 0)) (by (with_reducible repeat (first | refine blk_drewN ?_ _ | refine blk_drew ?_ | refine blk_alloc ?_ _)); exact BK382.out)) : gb384 ≠ gb382)); have n8_ := Aside0.mk ((by rw [hg]; exact Nat.ne_of_lt (blk_lt (g := gb383) (o := .cells #[.int .i8 0, .int .i16 0, .int .i16 0, .int .i64 0, .int .i64 0] 83 (0, 0)) (by (with_reducible repeat (first | refine blk_drewN ?_ _ | refine blk_drew ?_ | refine blk_alloc ?_ _)); exact BK383.out)) : gb383 ≠ gb384)); have n9_ := Aside0.mk ((by rw [hg]; exact Nat.ne_of_gt (blk_lt (g := gb383) (o := .cells #[.int .i8 0, .int .i16 0, .int .i16 0, .int .i64 0, .int .i64 0] 83 (0, 0)) (by (with_reducible repeat (first | refine blk_drewN ?_ _ | refine blk_drew ?_ | refine blk_alloc ?_ _)); exact BK383.out)) : gb384 ≠ gb383)); clear BK382; clear BK383; clear HB; have BK382 := n0_; have BK383 := n1_; have HB := n2_; have BK384 := n3_; have GW384 := n4_; have GE384 := n5_; have NB382_384 := n6_; have NB384_382 := n7_; have NB383_384 := n8_; have NB384_383 := n9_; clear n0_ n1_ n2_ n3_ n4_ n5_ n6_ n7_ n8_ n9_; clear hb hbox hg; have hnb5 := NB382_383.out; have hnc5 := NB383_382.out; have hnb6 := NB382_384.out; have hnc6 := NB384_382.out; have hcz7_0 : w4.cell? ⟨gb382, 0, none⟩ = some (.int .i8 a0_0) := (blk_cell BK382.out 0).trans rfl; have hcz7_1 : w4.cell? ⟨gb382, 1, none⟩ = some (.int .i16 a0_1) := (blk_cell BK382.out 1).trans rfl; have hcz7_2 : w4.cell? ⟨gb382, 2, none⟩ = some (.int .i16 a0_2) := (blk_cell BK382.out 2).trans rfl; have hcz7_3 : w4.cell? ⟨gb382, 3, none⟩ = some (.int .i64 a0_3) := (blk_cell BK382.out 3).trans rfl; have hcz7_4 : w4.cell? ⟨gb382, 4, none⟩ = some (.int .i64 a0_4) := (blk_cell BK382.out 4).trans rfl; have hfz7_0 := blk_frozen BK382.out 0; have hfz7_1 := blk_frozen BK382.out 1; have hfz7_2 := blk_frozen BK382.out 2; have hfz7_3 := blk_frozen BK382.out 3; have hfz7_4 := blk_frozen BK382.out 4; have hnb8 := NB384_383.out; have hnc8 := NB383_384.out; have hcz9_0 : w4.cell? ⟨gb384, 0, none⟩ = some (.int .i8 0) := (blk_cell BK384.out 0).trans rfl; have hcz9_1 : w4.cell? ⟨gb384, 1, none⟩ = some (.int .i16 0) := (blk_cell BK384.out 1).trans rfl; have hcz9_2 : w4.cell? ⟨gb384, 2, none⟩ = some (.int .i16 0) := (blk_cell BK384.out 2).trans rfl; have hcz9_3 : w4.cell? ⟨gb384, 3, none⟩ = some (.int .i64 0) := (blk_cell BK384.out 3).trans rfl; have hcz9_4 : w4.cell? ⟨gb384, 4, none⟩ = some (.int .i64 0) := (blk_cell BK384.out 4).trans rfl; have hfz9_0 := blk_frozen BK384.out 0; have hfz9_1 := blk_frozen BK384.out 1; have hfz9_2 := blk_frozen BK384.out 2; have hfz9_3 := blk_frozen BK384.out 3; have hfz9_4 := blk_frozen BK384.out 4; have hcz10_0 : w4.cell? ⟨gb383, 0, none⟩ = some (.int .i8 0) := (blk_cell BK383.out 0).trans rfl; have hcz10_1 : w4.cell? ⟨gb383, 1, none⟩ = some (.int .i16 0) := (blk_cell BK383.out 1).trans rfl; have hcz10_2 : w4.cell? ⟨gb383, 2, none⟩ = some (.int .i16 0) := (blk_cell BK383.out 2).trans rfl; have hcz10_3 : w4.cell? ⟨gb383, 3, none⟩ = some (.int .i64 0) := (blk_cell BK383.out 3).trans rfl; have hcz10_4 : w4.cell? ⟨gb383, 4, none⟩ = some (.int .i64 0) := (blk_cell BK383.out 4).trans rfl; have hfz10_0 := blk_frozen BK383.out 0; have hfz10_1 := blk_frozen BK383.out 1; have hfz10_2 := blk_frozen BK383.out 2; have hfz10_3 := blk_frozen BK383.out 3; have hfz10_4 := blk_frozen BK383.out 4))
 refine bodyPost_ret (results_cell_row rfl _ _ gb383 83 #[.int .i8 a0_0, .int .i16 a0_1, .int .i16 a0_2, .int .i64 a0_3, .int .i64 a0_4] (0, 0) _ rfl (by (with_reducible repeat (first | refine blk_drewN ?_ _ | refine blk_drew ?_ | refine blk_alloc ?_ _)); refine blk_put (cs := #[.int .i8 a0_0, .int .i16 a0_1, .int .i16 a0_2, .int .i64 a0_3, .int .i64 0]) ?_ 4 _ rfl; (with_reducible repeat (first | refine blk_drewN ?_ _ | refine blk_drew ?_ | refine blk_alloc ?_ _)); refine blk_put (cs := #[.int .i8 a0_0, .int .i16 a0_1, .int .i16 a0_2, .int .i64 0, .int .i64 0]) ?_ 3 _ rfl; (with_reducible repeat (first | refine blk_drewN ?_ _ | refine blk_drew ?_ | refine blk_alloc ?_ _)); refine blk_put (cs := #[.int .i8 a0_0, .int .i16 a0_1, .int .i16 0, .int .i64 0, .int .i64 0]) ?_ 2 _ rfl; (with_reducible repeat (first | refine blk_drewN ?_ _ | refine blk_drew ?_ | refine blk_alloc ?_ _)); refine blk_put (cs := #[.int .i8 a0_0, .int .i16 0, .int .i16 0, .int .i64 0, .int .i64 0]) ?_ 1 _ rfl; (with_reducible repeat (first | refine blk_drewN ?_ _ | refine blk_drew ?_ | refine blk_alloc ?_ _)); refine blk_put (cs := #[.int .i8 0, .int .i16 0, .int .i16 0, .int .i64 0, .int .i64 0]) ?_ 0 _ rfl; (with_reducible repeat (first | refine blk_drewN ?_ _ | refine blk_drew ?_ | refine blk_alloc ?_ _)); refine blk_far ?_ NB383_384.out _; (with_reducible repeat (first | refine blk_drewN ?_ _ | refine blk_drew ?_ | refine blk_alloc ?_ _)); refine blk_far ?_ NB383_384.out _; (with_reducible repeat (first | refine blk_drewN ?_ _ | refine blk_drew ?_ | refine blk_alloc ?_ _)); refine blk_far ?_ NB383_384.out _; (with_reducible repeat (first | refine blk_drewN ?_ _ | refine blk_drew ?_ | refine blk_alloc ?_ _)); refine blk_far ?_ NB383_384.out _; (with_reducible repeat (first | refine blk_drewN ?_ _ | refine blk_drew ?_ | refine blk_alloc ?_ _)); refine blk_far ?_ NB383_384.out _; (with_reducible repeat (first | refine blk_drewN ?_ _ | refine blk_drew ?_ | refine blk_alloc ?_ _)); exact BK383.out) Try.underlying83 rfl (by kernel_rfl)) rfl ?_
 exact ⟨by first | rfl | (simp [errW_none, errW_some] <;> rfl) | (simp [*, errW_none, errW_some] <;> rfl), by repeat (first | (with_reducible first | exact HB.out | apply below_alloc | apply pw_below_drewN | apply below_drew1 | refine below_set ?_ GE382.out | refine below_set ?_ GE383.out | refine below_set ?_ GE384.out) | exact HB.out)⟩
/-! ### laws_toNodeS: function 23 -/
def laws_toNodeS.l0 : Nat → List (S86) → List (S83) → Int → Option ((List (S83)))
 | 0, _, _, _ => none
 | k + 1, x0, x3, x4 => if x4 < (x0.length : Int) then (if 0 ≤ x4 then ((laws_toNode.f ((rd_T86 x0 x4).f0) ((rd_T86 x0 x4).f1) ((rd_T86 x0 x4).f2) ((rd_T86 x0 x4).f3) ((rd_T86 x0 x4).f4)).bind fun bt389 => (if x4 < (x3.length : Int) then (laws_toNodeS.l0 k x0 (x3.set (x4 : Int).toNat (⟨bt389.1, bt389.2.1, bt389.2.2.1, bt389.2.2.2.1, bt389.2.2.2.2⟩ : S83)) (wrap64 (x4 + 1))) else (none))) else (none)) else (some x3)
def laws_toNodeS.f (k : Nat) (l0 : List (S86)) : Option ((List (S83))) := if 0 ≤ (l0.length : Int) then (if ((l0.length : Int) : Int).toNat ≤ 11728124029610 then (laws_toNodeS.l0 k l0 (List.replicate ((l0.length : Int) : Int).toNat z83) 0) else (none)) else (none)
theorem laws_toNodeS.mono_l : ∀ k, (∀ y0 y1 y2, LeO (laws_toNodeS.l0 k y0 y1 y2) (laws_toNodeS.l0 (k + 1) y0 y1 y2))
 | 0 => fun _ _ _ r h => by simp [laws_toNodeS.l0] at h
 | k + 1 => by
  have ih0 := laws_toNodeS.mono_l k
  ·
   intro y0 y1 y2
   unfold laws_toNodeS.l0
   repeat' first
   | (with_reducible exact ih0 _ _ _)
   | (with_reducible exact LeO.refl _)
   | (with_reducible exact LeO.none _)
   | (with_reducible refine LeO.ite ?_ ?_)
   | (with_reducible refine LeO.bind ?_ (fun _ => ?_))
   | exact ih0 _ _ _
   | exact LeO.none _
   | refine LeO.ite ?_ ?_
   | refine LeO.bind ?_ (fun _ => ?_)
theorem laws_toNodeS.mono : ∀ a0 k, LeO (laws_toNodeS.f k a0) (laws_toNodeS.f (k + 1) a0) := by
 intro a0 k
 have ih0 := laws_toNodeS.mono_l k
 unfold laws_toNodeS.f
 repeat' first
   | (with_reducible exact ih0 _ _ _)
   | (with_reducible exact LeO.refl _)
   | (with_reducible exact LeO.none _)
   | (with_reducible refine LeO.ite ?_ ?_)
   | (with_reducible refine LeO.bind ?_ (fun _ => ?_))
   | exact ih0 _ _ _
   | exact LeO.none _
   | refine LeO.ite ?_ ?_
   | refine LeO.bind ?_ (fun _ => ?_)
set_option maxHeartbeats 8000000 in
set_option maxRecDepth 100000 in
theorem laws_toNodeS.calls (k : Nat) (A0 : Option Addr) (c0 : Nat) (l0 : List (S86)) (r : List (S83)) (w : World) (hr0 : Kd.C k86 w A0 l0.length l0) (hc0 : l0.length ≤ c0) (h : laws_toNodeS.f k l0 = some r) :
  Calls Try.prog 23 #[.slice A0 l0.length c0] w fun e w' => ∃ v0_ : Value, e = .returned (v0_) ∧ Kd.R k83 83 w' w.heap.size (fun _ => True) v0_ r ∧ Below w.heap.size w w' := by
 have hu86 := Try.underlying86
 have hu83 := Try.underlying83
 have HR0 := Aside0.mk hr0
 have HC0 := Aside0.mk hc0
 clear hr0 hc0
 have HB := Aside0.mk (Below.refl w.heap.size w)
 have H : (if 0 ≤ (l0.length : Int) then (if ((l0.length : Int) : Int).toNat ≤ 11728124029610 then (laws_toNodeS.l0 k l0 (List.replicate ((l0.length : Int) : Int).toNat z83) 0) else (none)) else (none)) = some r := h
 clear h
 by_cases c2 : 0 ≤ (l0.length : Int)
 ·
  rw [if_pos c2] at H
  have c2b0 := eq_true c2
  have c2b1 : decide (0 ≤ (l0.length : Int)) = true := decide_eq_true c2
  clear c2
  by_cases c3 : ((l0.length : Int) : Int).toNat ≤ 11728124029610
  ·
   rw [if_pos c3] at H
   have c3b0 := eq_true c3
   have c3b1 : decide (((l0.length : Int) : Int).toNat ≤ 11728124029610) = true := decide_eq_true c3
   clear c3
   obtain ⟨y385, hy385⟩ : ∃ y_ : List (S83), y_ = (List.replicate ((l0.length : Int) : Int).toNat z83) := ⟨_, rfl⟩
   replace H : (laws_toNodeS.l0 k l0 y385 0) = some r := by first | (rw [hy385]; with_reducible exact H) | (have H2_ := (Option.bind_some _ _).symm.trans H; rw [hy385]; with_reducible exact H2_) | (have H2_ := (Option.bind_some _ _).symm.trans H; with_reducible exact H2_) | with_reducible exact H | (rw [hy385]; exact H) | exact H
   have Ny385 := Aside0.mk hy385
   clear hy385
   have H' := Aside0.mk H
   clear H
   go_enter Try.func23, Try.ntmps23
   go_wp2_with (first | ((with_reducible refine gate_dst (N := 7) rfl ?_); refine Kd.R_make k83 _ 83 rfl (N := 7) rfl 34 _ _ rfl (l0.length : Int) rfl rfl Try.underlying34 (.agg #[(.int .i8 0), (.int .i16 0), (.int .i16 0), (.int .i64 0), (.int .i64 0)]) 24 info83 rfl (by decide) (by omega) z83 (ok := fun _ => True) (okp := fun _ => True) (k83_mkM _ _ _ z83 ) (fun _ hk => hk) trivial (of_decide_eq_true (by first | (with_reducible assumption) | assumption)) (Nat.le_trans (Nat.mul_le_mul_right _ (of_decide_eq_true (by first | (with_reducible assumption) | assumption) : (l0.length : Int).toNat ≤ 11728124029610)) (by omega)) (Below.refl _ _) (Nat.le_refl _) ?_; intro v386 w4 ho5 hb hg_ hnew_; clear hg_ hnew_; (first | rw [← Ny385.out] at ho5 | (simp only [Int.reduceToNat] at ho5; rw [← Ny385.out] at ho5)); have n0_ := Aside0.mk (Kd.R_lower ho5 (below_size (by repeat (first | (with_reducible first | exact HB.out | apply below_alloc | apply pw_below_drewN | apply below_drew1) | exact HB.out)))); have n1_ := Aside0.mk (below_step (by repeat (first | (with_reducible first | exact HB.out | apply below_alloc | apply pw_below_drewN | apply below_drew1) | exact HB.out)) hb); clear HB; have HO387 := n0_; have HB := n1_; clear n0_ n1_; clear hb ho5))
   go_loopg [4] k (fun kq v4 w' => ∃ (x3_1 : List (S83)) (x4_1 : Int), v4 = .int .i64 x4_1 ∧ Aside0 (laws_toNodeS.l0 kq l0 x3_1 x4_1 = some r) ∧ Aside0 (kq ≤ k) ∧ Aside0 (Kd.R k83 83 w' w.heap.size (fun _ => True) v386 x3_1) ∧ Aside0 (Below w.heap.size w w'))
   case atStart => exact ⟨(y385), (0), (by first | rfl | (simp; done) | (simp [*]; done)), H', ⟨Nat.le_refl _⟩, ⟨by (with_reducible repeat (first | apply Kd.R_alloc | apply Kd.R_drewN | apply Kd.R_drew)); exact HO387.out⟩, ⟨by repeat (first | (with_reducible first | exact HB.out | apply below_alloc | apply pw_below_drewN | apply below_drew1) | exact HB.out)⟩⟩
   case round =>
    clear H'
    try clear c2
    try clear c2b0
    try clear c2b1
    try clear p2
    try clear c3
    try clear c3b0
    try clear c3b1
    obtain ⟨x3_1, x4_1, rfl, HA, HK1, HO_3, HB⟩ := hrel
    cases gk with
    | zero => exact absurd HA.out (by simp [laws_toNodeS.l0])
    | succ k1 =>
     have H := HA.out
     clear HA
     simp only [laws_toNodeS.l0] at H
     by_cases c6 : x4_1 < (l0.length : Int)
     ·
      rw [if_pos c6] at H
      have c6b0 : decide (x4_1 < (l0.length : Int)) = true := decide_eq_true c6
      clear c6
      by_cases c7 : 0 ≤ x4_1
      ·
       rw [if_pos c7] at H
       have c7b0 : decide (0 ≤ x4_1) = true := decide_eq_true c7
       clear c7
       replace H := Option.bind_eq_some_iff.mp H
       obtain ⟨⟨t389, t390, t391, t392, t393⟩, A80, H⟩ := H
       replace H : (if x4_1 < (x3_1.length : Int) then (laws_toNodeS.l0 k1 l0 (x3_1.set (x4_1 : Int).toNat (⟨t389, t390, t391, t392, t393⟩ : S83)) (wrap64 (x4_1 + 1))) else (none)) = some r := H
       have A8 := Aside0.mk A80
       clear A80
       by_cases c9 : x4_1 < (x3_1.length : Int)
       ·
        rw [if_pos c9] at H
        have c9b0 : decide (x4_1 < (x3_1.length : Int)) = true := decide_eq_true c9
        clear c9
        obtain ⟨y394, hy394⟩ : ∃ y_ : List (S83), y_ = (x3_1.set (x4_1 : Int).toNat (⟨t389, t390, t391, t392, t393⟩ : S83)) := ⟨_, rfl⟩
        replace H : (laws_toNodeS.l0 k1 l0 y394 (wrap64 (x4_1 + 1))) = some r := by first | (rw [hy394]; with_reducible exact H) | (have H2_ := (Option.bind_some _ _).symm.trans H; rw [hy394]; with_reducible exact H2_) | (have H2_ := (Option.bind_some _ _).symm.trans H; with_reducible exact H2_) | with_reducible exact H | (rw [hy394]; exact H) | exact H
        have Ny394 := Aside0.mk hy394
        clear hy394
        have H' := Aside0.mk H
        clear H
        have p388 : 0 ≤ (x4_1 : Int) := of_decide_eq_true (by first | (with_reducible assumption) | assumption)
        have q388 : x4_1 < (l0.length : Int) := of_decide_eq_true (by first | (with_reducible assumption) | assumption)
        obtain ⟨ad388, e388, hx388_0, hx388_1, hx388_2, hx388_3, hx388_4⟩ := at_T86 HR0.out x4_1 p388 q388
        cases e388
        replace hx388_0 := (HB.out.cell (World.block_lt_of_cell? w _ hx388_0)).trans hx388_0
        replace hx388_1 := (HB.out.cell (World.block_lt_of_cell? w _ hx388_1)).trans hx388_1
        replace hx388_2 := (HB.out.cell (World.block_lt_of_cell? w _ hx388_2)).trans hx388_2
        replace hx388_3 := (HB.out.cell (World.block_lt_of_cell? w _ hx388_3)).trans hx388_3
        replace hx388_4 := (HB.out.cell (World.block_lt_of_cell? w _ hx388_4)).trans hx388_4
        replace p388 := eq_true p388
        replace q388 := eq_true q388
        go_wp2_with (first | ((with_reducible refine gate_callee (f := 71) rfl ?_); refine goesL_ (some 20) rfl rfl Try.func71 (by kernel_rfl) rfl #[.agg #[.int .i8 ((rd_T86 l0 x4_1).f0), .int .i16 ((rd_T86 l0 x4_1).f1), .int .i16 ((rd_T86 l0 x4_1).f2), .int .i64 ((rd_T86 l0 x4_1).f3), .int .i64 ((rd_T86 l0 x4_1).f4)]] rfl (by (try simp only [List.map_toArray, List.map_cons, List.map_nil]); first | done | rfl | (simp only [List.length_drop, List.length_take]; rfl)) ?_; (with_reducible refine (laws_toNode.calls ((rd_T86 l0 x4_1).f0) ((rd_T86 l0 x4_1).f1) ((rd_T86 l0 x4_1).f2) ((rd_T86 l0 x4_1).f3) ((rd_T86 l0 x4_1).f4) t389 t390 t391 t392 t393 _ A8.out).mono ?_); rintro e w11 ⟨rfl, hb⟩; refine ⟨_, rfl, ?_⟩; have n0_ := Aside0.mk (Kd.R_below (by (with_reducible repeat (first | apply Kd.R_alloc | apply Kd.R_drewN | apply Kd.R_drew)); exact HO_3.out) hb); have n1_ := Aside0.mk (below_step (by repeat (first | (with_reducible first | exact HB.out | apply below_alloc | apply pw_below_drewN | apply below_drew1) | exact HB.out)) hb); clear HO_3; clear HB; have HO_3 := n0_; have HB := n1_; clear n0_ n1_; (try clear hb); (try clear hb2); (try clear hk); (try clear hi); have p10 : 0 ≤ (x4_1 : Int) := of_decide_eq_true (by first | (with_reducible assumption) | assumption); have q10 : (x4_1 : Int) < ((x3_1.length : Int) : Int) := of_decide_eq_true (by first | (with_reducible assumption) | assumption); obtain ⟨go10, co10, eo10, gb10, gl10, cl10, HG10⟩ := Kd.R_form HO_3.out (by omega); (first | cases eo10 | (injection eo10 with ea_ en_ ec_; (first | subst ea_ | (injection ea_ with ea_; subst ea_)); subst ec_; clear en_)); have GB10 := Aside0.mk gb10; have GG10 := Aside0.mk HG10; clear gb10 gl10 HG10; obtain ⟨ce10, hcl10, hM10, hcc10, hfr10⟩ := Kd.R_elem HO_3.out z83 (x4_1 : Int) p10 q10; obtain rfl := k83_openM hM10; have hx10_0 : w11.cell? ⟨go10, (x4_1 : Int).toNat * 5, none⟩ = some (.int .i8 ((rd_T83 x3_1 x4_1).f0)) := hcc10 0 _ rfl; have hx10_1 : w11.cell? ⟨go10, (x4_1 : Int).toNat * 5 + 1, none⟩ = some (.int .i16 ((rd_T83 x3_1 x4_1).f1)) := hcc10 1 _ rfl; have hx10_2 : w11.cell? ⟨go10, (x4_1 : Int).toNat * 5 + 2, none⟩ = some (.int .i16 ((rd_T83 x3_1 x4_1).f2)) := hcc10 2 _ rfl; have hx10_3 : w11.cell? ⟨go10, (x4_1 : Int).toNat * 5 + 3, none⟩ = some (.int .i64 ((rd_T83 x3_1 x4_1).f3)) := hcc10 3 _ rfl; have hx10_4 : w11.cell? ⟨go10, (x4_1 : Int).toNat * 5 + 4, none⟩ = some (.int .i64 ((rd_T83 x3_1 x4_1).f4)) := hcc10 4 _ rfl; have hf10_0 : w11.frozen? ⟨go10, (x4_1 : Int).toNat * 5, none⟩ = false := hfr10 0; have hf10_1 : w11.frozen? ⟨go10, (x4_1 : Int).toNat * 5 + 1, none⟩ = false := hfr10 1; have hf10_2 : w11.frozen? ⟨go10, (x4_1 : Int).toNat * 5 + 2, none⟩ = false := hfr10 2; have hf10_3 : w11.frozen? ⟨go10, (x4_1 : Int).toNat * 5 + 3, none⟩ = false := hfr10 3; have hf10_4 : w11.frozen? ⟨go10, (x4_1 : Int).toNat * 5 + 4, none⟩ = false := hfr10 4; clear hcl10 hcc10 hfr10 hM10; replace p10 := eq_true p10; replace q10 := eq_true q10; have HX12 := Aside0.mk (show Kd.R k83 83 w11 w.heap.size (fun _ => True) (.slice (some ⟨go10, 0, none⟩) x3_1.length co10) x3_1 from (by (with_reducible repeat (first | apply Kd.R_alloc | apply Kd.R_drewN | apply Kd.R_drew)); exact HO_3.out)); obtain ⟨ce12, hcl12, hM12, hcc12, hfr12⟩ := Kd.R_elem HX12.out z83 (x4_1 : Int) (of_decide_eq_true (by first | (with_reducible assumption) | assumption)) (by have h_ : (x4_1 : Int) < ((x3_1.length : Int) : Int) := of_decide_eq_true (by first | (with_reducible assumption) | assumption); first | exact h_ | (have e_ := (Kd.R_reads' HO_3.out).1; omega) | simpa using h_); obtain rfl := k83_openM hM12; have HP12 := Kd.R_seg HX12.out (x4_1 : Int) (of_decide_eq_true (by first | (with_reducible assumption) | assumption)) (by have h_ : (x4_1 : Int) < ((x3_1.length : Int) : Int) := of_decide_eq_true (by first | (with_reducible assumption) | assumption); first | exact h_ | (have e_ := (Kd.R_reads' HO_3.out).1; omega) | simpa using h_) (seg := [.int .i8 t389, .int .i16 t390, .int .i16 t391, .int .i64 t392, .int .i64 t393]) (j := 0) hcl12 hcc12 (show 5 ≤ 5 from by decide) (x' := (⟨t389, t390, t391, t392, t393⟩ : S83)) (k83_mkM _ _ _ (⟨t389, t390, t391, t392, t393⟩ : S83) ) (fun _ hk => hk); have hx12_0 := hcc12 0 _ rfl; (try simp only [show (k83).sz = 5 from rfl, Nat.mul_one, Nat.add_zero] at hx12_0); have hf12_0 := hfr12 0; (try simp only [show (k83).sz = 5 from rfl, Nat.mul_one, Nat.add_zero] at hf12_0); have hx12_1 := hcc12 1 _ rfl; (try simp only [show (k83).sz = 5 from rfl, Nat.mul_one, Nat.add_zero] at hx12_1); have hf12_1 := hfr12 1; (try simp only [show (k83).sz = 5 from rfl, Nat.mul_one, Nat.add_zero] at hf12_1); have hx12_2 := hcc12 2 _ rfl; (try simp only [show (k83).sz = 5 from rfl, Nat.mul_one, Nat.add_zero] at hx12_2); have hf12_2 := hfr12 2; (try simp only [show (k83).sz = 5 from rfl, Nat.mul_one, Nat.add_zero] at hf12_2); have hx12_3 := hcc12 3 _ rfl; (try simp only [show (k83).sz = 5 from rfl, Nat.mul_one, Nat.add_zero] at hx12_3); have hf12_3 := hfr12 3; (try simp only [show (k83).sz = 5 from rfl, Nat.mul_one, Nat.add_zero] at hf12_3); have hx12_4 := hcc12 4 _ rfl; (try simp only [show (k83).sz = 5 from rfl, Nat.mul_one, Nat.add_zero] at hx12_4); have hf12_4 := hfr12 4; (try simp only [show (k83).sz = 5 from rfl, Nat.mul_one, Nat.add_zero] at hf12_4); clear hcl12 hcc12 hfr12 hM12) | ((with_reducible refine gate_store (t := 83) (p := 21) rfl ?_); refine store_event (t := 83) (p := 21) (v := ?vo_w13) (w1 := (((((w11.setCell ⟨go10, (x4_1 : Int).toNat * 5, none⟩ (.int .i8 t389)).setCell ⟨go10, (x4_1 : Int).toNat * 5 + 1, none⟩ (.int .i16 t390)).setCell ⟨go10, (x4_1 : Int).toNat * 5 + 2, none⟩ (.int .i16 t391)).setCell ⟨go10, (x4_1 : Int).toNat * 5 + 3, none⟩ (.int .i64 t392)).setCell ⟨go10, (x4_1 : Int).toNat * 5 + 4, none⟩ (.int .i64 t393))) ?hg ?ho ?hn ?hr ?_; (case ho => rfl); (case hg => rfl); (case hn => rfl); (case hr => first | (go_simp; done) | (go_simp; rfl)); intro w13 hw; have hg : w11.grownBy w13 (some go10) := (by rw [hw]; exact HP12.2); have hp_ : Kd.R k83 83 w13 w.heap.size (fun _ => True) (.slice (some ⟨go10, 0, none⟩) x3_1.length co10) y394 := (by rw [hw, Ny394.out]; exact HP12.1); clear HP12; have n0_ := Aside0.mk (hp_); have n1_ := Aside0.mk ((by rw [hw]; exact below_set (below_set (below_set (below_set (below_set (HB.out) GB10.out) GB10.out) GB10.out) GB10.out) GB10.out : Below w.heap.size w w13)); clear HO_3; clear HB; have HO_3 := n0_; have HB := n1_; clear n0_ n1_; clear hg hw hp_))
        go_roundg k1
        case measure => have := HK1.out; omega
        case rel => exact ⟨(y394), (wrap64 (x4_1 + 1)), (by first | rfl | (simp; done) | (simp [*]; done)), H', ⟨by have := HK1.out; omega⟩, ⟨by (with_reducible repeat (first | apply Kd.R_alloc | apply Kd.R_drewN | apply Kd.R_drew)); exact HO_3.out⟩, ⟨by repeat (first | (with_reducible first | exact HB.out | apply below_alloc | apply pw_below_drewN | apply below_drew1) | exact HB.out)⟩⟩
       ·
        rw [if_neg c9] at H
        exact absurd H (by simp)
      ·
       rw [if_neg c7] at H
       exact absurd H (by simp)
     ·
      rw [if_neg c6] at H
      have c6b0 : decide (x4_1 < (l0.length : Int)) = false := decide_eq_false c6
      clear c6
      obtain rfl := Option.some.inj H
      go_wp2
      go_ret
      exact ⟨_, by first | rfl | (simp [errW_none, errW_some] <;> rfl) | (simp [*, errW_none, errW_some] <;> rfl), by (with_reducible repeat (first | apply Kd.R_alloc | apply Kd.R_drewN | apply Kd.R_drew)); exact HO_3.out, by repeat (first | (with_reducible first | exact HB.out | apply below_alloc | apply pw_below_drewN | apply below_drew1) | exact HB.out)⟩
  ·
   rw [if_neg c3] at H
   exact absurd H (by simp)
 ·
  rw [if_neg c2] at H
  exact absurd H (by simp)
/-! ### impl_earlier: function 109 -/
def impl_earlier.f (a0 : Int) (a1 : Int) (a2 : Bool) : Option (Bool) := if a2 = true then (if a0 ≥ 0 then (some (decide ((wrap64 (a0)) < a1))) else (some false)) else (some (a0 == 0))
set_option maxHeartbeats 8000000 in
set_option maxRecDepth 100000 in
theorem impl_earlier.calls (a0 : Int) (a1 : Int) (a2 : Bool) (r : Bool) (w : World) (h : impl_earlier.f a0 a1 a2 = some r) :
  Calls Try.prog 109 #[.int .i16 a0, .int .i64 a1, .bool a2] w fun e w' => e = .returned (.bool r) ∧ Drawn0 w w' := by
 have H : (if a2 = true then (if a0 ≥ 0 then (some (decide ((wrap64 (a0)) < a1))) else (some false)) else (some (a0 == 0))) = some r := h
 clear h
 by_cases c4 : a2 = true
 ·
  subst c4
  have H1 : (if a0 ≥ 0 then (some (decide ((wrap64 (a0)) < a1))) else (some false)) = some r := by rw [if_pos rfl] at H; exact H
  clear H
  have H := H1
  clear H1
  by_cases c5 : a0 ≥ 0
  ·
   rw [if_pos c5] at H
   have c5b0 : decide (0 ≤ a0) = true := decide_eq_true c5
   clear c5
   obtain rfl := Option.some.inj H
   go_enter Try.func109, Try.ntmps109
   go_wp2
   go_ret
   exact ⟨by first | rfl | (simp; done) | (simp [*]; done), by repeat (first | exact Drawn0.refl _ | apply Drawn0.step)⟩
  ·
   rw [if_neg c5] at H
   have c5b0 : decide (0 ≤ a0) = false := decide_eq_false c5
   clear c5
   obtain rfl := Option.some.inj H
   go_enter Try.func109, Try.ntmps109
   go_wp2
   go_ret
   exact ⟨by first | rfl | (simp; done) | (simp [*]; done), by repeat (first | exact Drawn0.refl _ | apply Drawn0.step)⟩
 ·
  replace c4 := Bool.eq_false_iff.mpr c4
  subst c4
  have H1 : (some (a0 == 0)) = some r := by rw [if_neg (show ¬ (false = true) by decide)] at H; exact H
  clear H
  have H := H1
  clear H1
  obtain rfl := Option.some.inj H
  go_enter Try.func109, Try.ntmps109
  go_wp2
  go_ret
  exact ⟨by first | rfl | (simp; done) | (simp [*]; done), by repeat (first | exact Drawn0.refl _ | apply Drawn0.step)⟩
/-! ### impl_ValidTerm: function 72 -/
mutual
def impl_ValidTerm.j0 : Nat → List (S83) → Bool → Option (Bool)
 | 0, _, _ => none
 | k + 1, x0, x15 => if x15 = true then (some false) else (impl_ValidTerm.l0 k x0 (x0.length : Int) 0)
def impl_ValidTerm.l0 : Nat → List (S83) → Int → Int → Option (Bool)
 | 0, _, _, _ => none
 | k + 1, x16, x17, x18 => if x18 < x17 then (if 0 ≤ x18 then (if x18 < (x16.length : Int) then ((impl_uses.f k ((rd_T83 x16 x18).f0)).bind fun bt397 => (if ((rd_T83 x16 x18).f0) < 1 then (some false) else (if ((rd_T83 x16 x18).f0) > 12 then (some false) else ((impl_ratioOk.f ((rd_T83 x16 x18).f0) ((rd_T83 x16 x18).f3) ((rd_T83 x16 x18).f4)).bind fun t400 => (if t400 = true then ((impl_earlier.f ((rd_T83 x16 x18).f1) x18 bt397.1).bind fun t401 => (if t401 = true then ((impl_earlier.f ((rd_T83 x16 x18).f2) x18 bt397.2.1).bind fun t402 => (if t402 = true then (impl_ValidTerm.l0 k x16 x17 (wrap64 (x18 + 1))) else (some false))) else (some false))) else (some false)))))) else (none)) else (none)) else (some true)
end
def impl_ValidTerm.f (k : Nat) (l0 : List (S83)) : Option (Bool) := if (l0.length : Int) < 1 then (impl_ValidTerm.j0 k l0 true) else (impl_ValidTerm.j0 k l0 (decide ((l0.length : Int) > 40)))
theorem impl_ValidTerm.mono_l : ∀ k, (∀ y0 y1, LeO (impl_ValidTerm.j0 k y0 y1) (impl_ValidTerm.j0 (k + 1) y0 y1)) ∧ (∀ y0 y1 y2, LeO (impl_ValidTerm.l0 k y0 y1 y2) (impl_ValidTerm.l0 (k + 1) y0 y1 y2))
 | 0 => ⟨fun _ _ r h => by simp [impl_ValidTerm.j0] at h, fun _ _ _ r h => by simp [impl_ValidTerm.l0] at h⟩
 | k + 1 => by
  obtain ⟨ih0, ih1⟩ := impl_ValidTerm.mono_l k
  refine ⟨?_, ?_⟩
  ·
   intro y0 y1
   unfold impl_ValidTerm.j0
   repeat' first
   | (with_reducible exact ih0 _ _)
   | (with_reducible exact ih1 _ _ _)
   | (with_reducible exact impl_uses.mono _ _)
   | (with_reducible exact LeO.refl _)
   | (with_reducible exact LeO.none _)
   | (with_reducible refine LeO.ite ?_ ?_)
   | (with_reducible refine LeO.bind ?_ (fun _ => ?_))
   | exact ih0 _ _
   | exact ih1 _ _ _
   | exact LeO.none _
   | refine LeO.ite ?_ ?_
   | refine LeO.bind ?_ (fun _ => ?_)
  ·
   intro y0 y1 y2
   unfold impl_ValidTerm.l0
   repeat' first
   | (with_reducible exact ih0 _ _)
   | (with_reducible exact ih1 _ _ _)
   | (with_reducible exact impl_uses.mono _ _)
   | (with_reducible exact LeO.refl _)
   | (with_reducible exact LeO.none _)
   | (with_reducible refine LeO.ite ?_ ?_)
   | (with_reducible refine LeO.bind ?_ (fun _ => ?_))
   | exact ih0 _ _
   | exact ih1 _ _ _
   | exact LeO.none _
   | refine LeO.ite ?_ ?_
   | refine LeO.bind ?_ (fun _ => ?_)
theorem impl_ValidTerm.mono : ∀ a0 k, LeO (impl_ValidTerm.f k a0) (impl_ValidTerm.f (k + 1) a0) := by
 intro a0 k
 obtain ⟨ih0, ih1⟩ := impl_ValidTerm.mono_l k
 unfold impl_ValidTerm.f
 repeat' first
   | (with_reducible exact ih0 _ _)
   | (with_reducible exact ih1 _ _ _)
   | (with_reducible exact impl_uses.mono _ _)
   | (with_reducible exact LeO.refl _)
   | (with_reducible exact LeO.none _)
   | (with_reducible refine LeO.ite ?_ ?_)
   | (with_reducible refine LeO.bind ?_ (fun _ => ?_))
   | exact ih0 _ _
   | exact ih1 _ _ _
   | exact LeO.none _
   | refine LeO.ite ?_ ?_
   | refine LeO.bind ?_ (fun _ => ?_)
set_option maxHeartbeats 8000000 in
set_option maxRecDepth 100000 in
theorem impl_ValidTerm.calls (k : Nat) (A0 : Option Addr) (c0 : Nat) (l0 : List (S83)) (r : Bool) (w : World) (hr0 : Kd.C k83 w A0 l0.length l0) (hc0 : l0.length ≤ c0) (h : impl_ValidTerm.f k l0 = some r) :
  Calls Try.prog 72 #[.slice A0 l0.length c0] w fun e w' => e = .returned (.bool r) ∧ Below w.heap.size w w' := by
 have hu83 := Try.underlying83
 have HR0 := Aside0.mk hr0
 have HC0 := Aside0.mk hc0
 clear hr0 hc0
 have HB := Aside0.mk (Below.refl w.heap.size w)
 have H : (if (l0.length : Int) < 1 then (impl_ValidTerm.j0 k l0 true) else (impl_ValidTerm.j0 k l0 (decide ((l0.length : Int) > 40)))) = some r := h
 clear h
 have HC2 := Aside0.mk H
 clear H
 go_enter Try.func72, Try.ntmps72
 go_upto_region 1 with (fail)
 go_cut [15] (fun v15 wc => ∃ (kq : Nat) (x15_1 : Bool), v15 = .bool x15_1 ∧ Aside0 (impl_ValidTerm.j0 kq l0 x15_1 = some r) ∧ Aside0 (kq ≤ k) ∧ Aside0 (Below w.heap.size w wc))
 case first =>
  have H := HC2.out
  clear HC2
  by_cases c3 : (l0.length : Int) < 1
  ·
   rw [if_pos c3] at H
   have c3b0 : decide ((l0.length : Int) < 1) = true := decide_eq_true c3
   have c3b1 : decide (l0.length < 1) = true := decide_eq_true (by omega)
   clear c3
   (first | rw [c3b0] | (simp only [i64_w, i32_w]; rw [c3b0]) | skip)
   have H' := Aside0.mk H
   clear H
   go_wp2
   go_meet
   case rel => exact ⟨_, (true), (by first | rfl | (simp; done) | (simp [*]; done)), H', ⟨by first | omega | exact Nat.le_refl _⟩, ⟨by repeat (first | (with_reducible first | exact HB.out | apply below_alloc | apply pw_below_drewN | apply below_drew1) | exact HB.out)⟩⟩
  ·
   rw [if_neg c3] at H
   have c3b0 : decide ((l0.length : Int) < 1) = false := decide_eq_false c3
   have c3b1 : decide (l0.length < 1) = false := decide_eq_false (by omega)
   clear c3
   (first | rw [c3b0] | (simp only [i64_w, i32_w]; rw [c3b0]) | skip)
   have H' := Aside0.mk H
   clear H
   go_wp2
   go_meet
   case rel => exact ⟨_, (decide ((l0.length : Int) > 40)), (by first | rfl | (simp; done) | (simp [*]; done)), H', ⟨by first | omega | exact Nat.le_refl _⟩, ⟨by repeat (first | (with_reducible first | exact HB.out | apply below_alloc | apply pw_below_drewN | apply below_drew1) | exact HB.out)⟩⟩
 case rest =>
  clear HC2
  try clear p2
  try clear c3
  try clear c3b0
  try clear c3b1
  obtain ⟨kq, x15_1, rfl, HA, HJ1, HB⟩ := hcut
  cases kq with
  | zero => exact absurd HA.out (by simp [impl_ValidTerm.j0])
  | succ kj1 =>
   have H := HA.out
   clear HA
   simp only [impl_ValidTerm.j0] at H
   by_cases c4 : x15_1 = true
   ·
    subst c4
    have H1 : (some false) = some r := by rw [if_pos rfl] at H; exact H
    clear H
    have H := H1
    clear H1
    obtain rfl := Option.some.inj H
    go_wp2
    go_ret
    exact ⟨by first | rfl | (simp [errW_none, errW_some] <;> rfl) | (simp [*, errW_none, errW_some] <;> rfl), by repeat (first | (with_reducible first | exact HB.out | apply below_alloc | apply pw_below_drewN | apply below_drew1) | exact HB.out)⟩
   ·
    replace c4 := Bool.eq_false_iff.mpr c4
    subst c4
    have H1 : (impl_ValidTerm.l0 kj1 l0 (l0.length : Int) 0) = some r := by rw [if_neg (show ¬ (false = true) by decide)] at H; exact H
    clear H
    have H := H1
    clear H1
    have H' := Aside0.mk H
    clear H
    go_wp2
    go_loopg [18] kj1 (fun kq v18 w' => ∃ (x18_2 : Int), v18 = .int .i64 x18_2 ∧ Aside0 (impl_ValidTerm.l0 kq l0 (l0.length : Int) x18_2 = some r) ∧ Aside0 (kq ≤ kj1) ∧ Aside0 (Below w.heap.size w w'))
    case atStart => exact ⟨(0), (by first | rfl | (simp; done) | (simp [*]; done)), H', ⟨Nat.le_refl _⟩, ⟨by repeat (first | (with_reducible first | exact HB.out | apply below_alloc | apply pw_below_drewN | apply below_drew1) | exact HB.out)⟩⟩
    case round =>
     clear H'
     try clear p2
     try clear c3
     try clear c3b0
     try clear c3b1
     try clear c4
     try clear p2
     obtain ⟨x18_2, rfl, HA, HK2, HB⟩ := hrel
     cases gk with
     | zero => exact absurd HA.out (by simp [impl_ValidTerm.l0])
     | succ k2 =>
      have H := HA.out
      clear HA
      simp only [impl_ValidTerm.l0] at H
      by_cases c5 : x18_2 < (l0.length : Int)
      ·
       rw [if_pos c5] at H
       have c5b0 : decide (x18_2 < (l0.length : Int)) = true := decide_eq_true c5
       clear c5
       by_cases c6 : 0 ≤ x18_2
       ·
        rw [if_pos c6] at H
        have c6b0 : decide (0 ≤ x18_2) = true := decide_eq_true c6
        clear c6
        by_cases c7 : x18_2 < (l0.length : Int)
        ·
         rw [if_pos c7] at H
         have c7b0 : decide (x18_2 < (l0.length : Int)) = true := decide_eq_true c7
         clear c7
         replace H := Option.bind_eq_some_iff.mp H
         obtain ⟨⟨t397, t398, t399⟩, A80, H⟩ := H
         replace H : (if ((rd_T83 l0 x18_2).f0) < 1 then (some false) else (if ((rd_T83 l0 x18_2).f0) > 12 then (some false) else ((impl_ratioOk.f ((rd_T83 l0 x18_2).f0) ((rd_T83 l0 x18_2).f3) ((rd_T83 l0 x18_2).f4)).bind fun t400 => (if t400 = true then ((impl_earlier.f ((rd_T83 l0 x18_2).f1) x18_2 t397).bind fun t401 => (if t401 = true then ((impl_earlier.f ((rd_T83 l0 x18_2).f2) x18_2 t398).bind fun t402 => (if t402 = true then (impl_ValidTerm.l0 k2 l0 (l0.length : Int) (wrap64 (x18_2 + 1))) else (some false))) else (some false))) else (some false))))) = some r := H
         have A8 := Aside0.mk A80
         clear A80
         by_cases c9 : ((rd_T83 l0 x18_2).f0) < 1
         ·
          rw [if_pos c9] at H
          have c9b0 : decide (((rd_T83 l0 x18_2).f0) < 1) = true := decide_eq_true c9
          clear c9
          obtain rfl := Option.some.inj H
          have p395 : 0 ≤ (x18_2 : Int) := of_decide_eq_true (by first | (with_reducible assumption) | assumption)
          have q395 : x18_2 < (l0.length : Int) := of_decide_eq_true (by first | (with_reducible assumption) | assumption)
          obtain ⟨ad395, e395, hx395_0, hx395_1, hx395_2, hx395_3, hx395_4⟩ := at_T83 HR0.out x18_2 p395 q395
          cases e395
          replace hx395_0 := (HB.out.cell (World.block_lt_of_cell? w _ hx395_0)).trans hx395_0
          replace hx395_1 := (HB.out.cell (World.block_lt_of_cell? w _ hx395_1)).trans hx395_1
          replace hx395_2 := (HB.out.cell (World.block_lt_of_cell? w _ hx395_2)).trans hx395_2
          replace hx395_3 := (HB.out.cell (World.block_lt_of_cell? w _ hx395_3)).trans hx395_3
          replace hx395_4 := (HB.out.cell (World.block_lt_of_cell? w _ hx395_4)).trans hx395_4
          replace p395 := eq_true p395
          replace q395 := eq_true q395
          go_wp2_with (first | ((with_reducible refine gate_dst (N := 4) rfl ?_); (try (refine gate_guard (by rfl) ?_; dsimp only)); refine box_event ?hg (N := 4) ?hd (cs := #[.int .i8 0, .int .i16 0, .int .i16 0, .int .i64 0, .int .i64 0]) (t := 83) ?hr ?_; (case hd => rfl); (case hg => rfl); (case hr => first | (go_simp; done) | (go_simp; rfl)); intro gb396 hg w10 hbox hb; have n0_ := Aside0.mk (below_step (by repeat (first | (with_reducible first | exact HB.out | apply below_alloc | apply pw_below_drewN | apply below_drew1) | exact HB.out)) hb); have n1_ := Aside0.mk (hbox); have n2_ := Aside0.mk ((by rw [hg]; exact (below_size (by repeat (first | (with_reducible first | exact HB.out | apply below_alloc | apply pw_below_drewN | apply below_drew1) | exact HB.out))) : w.heap.size ≤ gb396)); have n3_ := Aside0.mk ((by rw [hg]; exact (below_size (by repeat (first | (with_reducible first | exact HB.out | apply below_alloc | apply pw_below_drewN | apply below_drew1) | exact HB.out))) : w.heap.size ≤ gb396)); clear HB; have HB := n0_; have BK396 := n1_; have GW396 := n2_; have GE396 := n3_; clear n0_ n1_ n2_ n3_; clear hb hbox hg; have hcz11_0 : w10.cell? ⟨gb396, 0, none⟩ = some (.int .i8 0) := (blk_cell BK396.out 0).trans rfl; have hcz11_1 : w10.cell? ⟨gb396, 1, none⟩ = some (.int .i16 0) := (blk_cell BK396.out 1).trans rfl; have hcz11_2 : w10.cell? ⟨gb396, 2, none⟩ = some (.int .i16 0) := (blk_cell BK396.out 2).trans rfl; have hcz11_3 : w10.cell? ⟨gb396, 3, none⟩ = some (.int .i64 0) := (blk_cell BK396.out 3).trans rfl; have hcz11_4 : w10.cell? ⟨gb396, 4, none⟩ = some (.int .i64 0) := (blk_cell BK396.out 4).trans rfl; have hfz11_0 := blk_frozen BK396.out 0; have hfz11_1 := blk_frozen BK396.out 1; have hfz11_2 := blk_frozen BK396.out 2; have hfz11_3 := blk_frozen BK396.out 3; have hfz11_4 := blk_frozen BK396.out 4) | ((with_reducible refine gate_callee (f := 74) rfl ?_); refine goesL_ (some 26) rfl rfl Try.func74 (by kernel_rfl) rfl #[.int .i8 ((rd_T83 l0 x18_2).f0)] rfl (by (try simp only [List.map_toArray, List.map_cons, List.map_nil]); first | done | rfl | (simp only [List.length_drop, List.length_take]; rfl)) ?_; (with_reducible refine (impl_uses.calls k2 ((rd_T83 l0 x18_2).f0) t397 t398 t399 _ A8.out).mono ?_); rintro e w' ⟨rfl, ⟨nd, rfl⟩⟩; refine ⟨_, rfl, ?_⟩))
          go_ret
          exact ⟨by first | rfl | (simp [errW_none, errW_some] <;> rfl) | (simp [*, errW_none, errW_some] <;> rfl), by repeat (first | (with_reducible first | exact HB.out | apply below_alloc | apply pw_below_drewN | apply below_drew1 | refine below_set ?_ GE396.out) | exact HB.out)⟩
         ·
          rw [if_neg c9] at H
          have c9b0 : decide (((rd_T83 l0 x18_2).f0) < 1) = false := decide_eq_false c9
          clear c9
          by_cases c12 : ((rd_T83 l0 x18_2).f0) > 12
          ·
           rw [if_pos c12] at H
           have c12b0 : decide (12 < ((rd_T83 l0 x18_2).f0)) = true := decide_eq_true c12
           clear c12
           obtain rfl := Option.some.inj H
           have p395 : 0 ≤ (x18_2 : Int) := of_decide_eq_true (by first | (with_reducible assumption) | assumption)
           have q395 : x18_2 < (l0.length : Int) := of_decide_eq_true (by first | (with_reducible assumption) | assumption)
           obtain ⟨ad395, e395, hx395_0, hx395_1, hx395_2, hx395_3, hx395_4⟩ := at_T83 HR0.out x18_2 p395 q395
           cases e395
           replace hx395_0 := (HB.out.cell (World.block_lt_of_cell? w _ hx395_0)).trans hx395_0
           replace hx395_1 := (HB.out.cell (World.block_lt_of_cell? w _ hx395_1)).trans hx395_1
           replace hx395_2 := (HB.out.cell (World.block_lt_of_cell? w _ hx395_2)).trans hx395_2
           replace hx395_3 := (HB.out.cell (World.block_lt_of_cell? w _ hx395_3)).trans hx395_3
           replace hx395_4 := (HB.out.cell (World.block_lt_of_cell? w _ hx395_4)).trans hx395_4
           replace p395 := eq_true p395
           replace q395 := eq_true q395
           go_wp2_with (first | ((with_reducible refine gate_dst (N := 4) rfl ?_); (try (refine gate_guard (by rfl) ?_; dsimp only)); refine box_event ?hg (N := 4) ?hd (cs := #[.int .i8 0, .int .i16 0, .int .i16 0, .int .i64 0, .int .i64 0]) (t := 83) ?hr ?_; (case hd => rfl); (case hg => rfl); (case hr => first | (go_simp; done) | (go_simp; rfl)); intro gb396 hg w13 hbox hb; have n0_ := Aside0.mk (below_step (by repeat (first | (with_reducible first | exact HB.out | apply below_alloc | apply pw_below_drewN | apply below_drew1) | exact HB.out)) hb); have n1_ := Aside0.mk (hbox); have n2_ := Aside0.mk ((by rw [hg]; exact (below_size (by repeat (first | (with_reducible first | exact HB.out | apply below_alloc | apply pw_below_drewN | apply below_drew1) | exact HB.out))) : w.heap.size ≤ gb396)); have n3_ := Aside0.mk ((by rw [hg]; exact (below_size (by repeat (first | (with_reducible first | exact HB.out | apply below_alloc | apply pw_below_drewN | apply below_drew1) | exact HB.out))) : w.heap.size ≤ gb396)); clear HB; have HB := n0_; have BK396 := n1_; have GW396 := n2_; have GE396 := n3_; clear n0_ n1_ n2_ n3_; clear hb hbox hg; have hcz14_0 : w13.cell? ⟨gb396, 0, none⟩ = some (.int .i8 0) := (blk_cell BK396.out 0).trans rfl; have hcz14_1 : w13.cell? ⟨gb396, 1, none⟩ = some (.int .i16 0) := (blk_cell BK396.out 1).trans rfl; have hcz14_2 : w13.cell? ⟨gb396, 2, none⟩ = some (.int .i16 0) := (blk_cell BK396.out 2).trans rfl; have hcz14_3 : w13.cell? ⟨gb396, 3, none⟩ = some (.int .i64 0) := (blk_cell BK396.out 3).trans rfl; have hcz14_4 : w13.cell? ⟨gb396, 4, none⟩ = some (.int .i64 0) := (blk_cell BK396.out 4).trans rfl; have hfz14_0 := blk_frozen BK396.out 0; have hfz14_1 := blk_frozen BK396.out 1; have hfz14_2 := blk_frozen BK396.out 2; have hfz14_3 := blk_frozen BK396.out 3; have hfz14_4 := blk_frozen BK396.out 4) | ((with_reducible refine gate_callee (f := 74) rfl ?_); refine goesL_ (some 26) rfl rfl Try.func74 (by kernel_rfl) rfl #[.int .i8 ((rd_T83 l0 x18_2).f0)] rfl (by (try simp only [List.map_toArray, List.map_cons, List.map_nil]); first | done | rfl | (simp only [List.length_drop, List.length_take]; rfl)) ?_; (with_reducible refine (impl_uses.calls k2 ((rd_T83 l0 x18_2).f0) t397 t398 t399 _ A8.out).mono ?_); rintro e w' ⟨rfl, ⟨nd, rfl⟩⟩; refine ⟨_, rfl, ?_⟩))
           go_ret
           exact ⟨by first | rfl | (simp [errW_none, errW_some] <;> rfl) | (simp [*, errW_none, errW_some] <;> rfl), by repeat (first | (with_reducible first | exact HB.out | apply below_alloc | apply pw_below_drewN | apply below_drew1 | refine below_set ?_ GE396.out) | exact HB.out)⟩
          ·
           rw [if_neg c12] at H
           have c12b0 : decide (12 < ((rd_T83 l0 x18_2).f0)) = false := decide_eq_false c12
           clear c12
           replace H := Option.bind_eq_some_iff.mp H
           obtain ⟨t400, A150, H⟩ := H
           replace H : (if t400 = true then ((impl_earlier.f ((rd_T83 l0 x18_2).f1) x18_2 t397).bind fun t401 => (if t401 = true then ((impl_earlier.f ((rd_T83 l0 x18_2).f2) x18_2 t398).bind fun t402 => (if t402 = true then (impl_ValidTerm.l0 k2 l0 (l0.length : Int) (wrap64 (x18_2 + 1))) else (some false))) else (some false))) else (some false)) = some r := H
           have A15 := Aside0.mk A150
           clear A150
           by_cases c16 : t400 = true
           ·
            subst c16
            have H1 : ((impl_earlier.f ((rd_T83 l0 x18_2).f1) x18_2 t397).bind fun t401 => (if t401 = true then ((impl_earlier.f ((rd_T83 l0 x18_2).f2) x18_2 t398).bind fun t402 => (if t402 = true then (impl_ValidTerm.l0 k2 l0 (l0.length : Int) (wrap64 (x18_2 + 1))) else (some false))) else (some false))) = some r := by rw [if_pos rfl] at H; exact H
            clear H
            have H := H1
            clear H1
            replace H := Option.bind_eq_some_iff.mp H
            obtain ⟨t401, A170, H⟩ := H
            replace H : (if t401 = true then ((impl_earlier.f ((rd_T83 l0 x18_2).f2) x18_2 t398).bind fun t402 => (if t402 = true then (impl_ValidTerm.l0 k2 l0 (l0.length : Int) (wrap64 (x18_2 + 1))) else (some false))) else (some false)) = some r := H
            have A17 := Aside0.mk A170
            clear A170
            by_cases c18 : t401 = true
            ·
             subst c18
             have H1 : ((impl_earlier.f ((rd_T83 l0 x18_2).f2) x18_2 t398).bind fun t402 => (if t402 = true then (impl_ValidTerm.l0 k2 l0 (l0.length : Int) (wrap64 (x18_2 + 1))) else (some false))) = some r := by rw [if_pos rfl] at H; exact H
             clear H
             have H := H1
             clear H1
             replace H := Option.bind_eq_some_iff.mp H
             obtain ⟨t402, A190, H⟩ := H
             replace H : (if t402 = true then (impl_ValidTerm.l0 k2 l0 (l0.length : Int) (wrap64 (x18_2 + 1))) else (some false)) = some r := H
             have A19 := Aside0.mk A190
             clear A190
             by_cases c20 : t402 = true
             ·
              subst c20
              have H1 : (impl_ValidTerm.l0 k2 l0 (l0.length : Int) (wrap64 (x18_2 + 1))) = some r := by rw [if_pos rfl] at H; exact H
              clear H
              have H := H1
              clear H1
              have H' := Aside0.mk H
              clear H
              have p395 : 0 ≤ (x18_2 : Int) := of_decide_eq_true (by first | (with_reducible assumption) | assumption)
              have q395 : x18_2 < (l0.length : Int) := of_decide_eq_true (by first | (with_reducible assumption) | assumption)
              obtain ⟨ad395, e395, hx395_0, hx395_1, hx395_2, hx395_3, hx395_4⟩ := at_T83 HR0.out x18_2 p395 q395
              cases e395
              replace hx395_0 := (HB.out.cell (World.block_lt_of_cell? w _ hx395_0)).trans hx395_0
              replace hx395_1 := (HB.out.cell (World.block_lt_of_cell? w _ hx395_1)).trans hx395_1
              replace hx395_2 := (HB.out.cell (World.block_lt_of_cell? w _ hx395_2)).trans hx395_2
              replace hx395_3 := (HB.out.cell (World.block_lt_of_cell? w _ hx395_3)).trans hx395_3
              replace hx395_4 := (HB.out.cell (World.block_lt_of_cell? w _ hx395_4)).trans hx395_4
              replace p395 := eq_true p395
              replace q395 := eq_true q395
              go_wp2_with (first | ((with_reducible refine gate_dst (N := 4) rfl ?_); (try (refine gate_guard (by rfl) ?_; dsimp only)); refine box_event ?hg (N := 4) ?hd (cs := #[.int .i8 0, .int .i16 0, .int .i16 0, .int .i64 0, .int .i64 0]) (t := 83) ?hr ?_; (case hd => rfl); (case hg => rfl); (case hr => first | (go_simp; done) | (go_simp; rfl)); intro gb396 hg w21 hbox hb; have n0_ := Aside0.mk (below_step (by repeat (first | (with_reducible first | exact HB.out | apply below_alloc | apply pw_below_drewN | apply below_drew1) | exact HB.out)) hb); have n1_ := Aside0.mk (hbox); have n2_ := Aside0.mk ((by rw [hg]; exact (below_size (by repeat (first | (with_reducible first | exact HB.out | apply below_alloc | apply pw_below_drewN | apply below_drew1) | exact HB.out))) : w.heap.size ≤ gb396)); have n3_ := Aside0.mk ((by rw [hg]; exact (below_size (by repeat (first | (with_reducible first | exact HB.out | apply below_alloc | apply pw_below_drewN | apply below_drew1) | exact HB.out))) : w.heap.size ≤ gb396)); clear HB; have HB := n0_; have BK396 := n1_; have GW396 := n2_; have GE396 := n3_; clear n0_ n1_ n2_ n3_; clear hb hbox hg; have hcz22_0 : w21.cell? ⟨gb396, 0, none⟩ = some (.int .i8 0) := (blk_cell BK396.out 0).trans rfl; have hcz22_1 : w21.cell? ⟨gb396, 1, none⟩ = some (.int .i16 0) := (blk_cell BK396.out 1).trans rfl; have hcz22_2 : w21.cell? ⟨gb396, 2, none⟩ = some (.int .i16 0) := (blk_cell BK396.out 2).trans rfl; have hcz22_3 : w21.cell? ⟨gb396, 3, none⟩ = some (.int .i64 0) := (blk_cell BK396.out 3).trans rfl; have hcz22_4 : w21.cell? ⟨gb396, 4, none⟩ = some (.int .i64 0) := (blk_cell BK396.out 4).trans rfl; have hfz22_0 := blk_frozen BK396.out 0; have hfz22_1 := blk_frozen BK396.out 1; have hfz22_2 := blk_frozen BK396.out 2; have hfz22_3 := blk_frozen BK396.out 3; have hfz22_4 := blk_frozen BK396.out 4) | ((with_reducible refine gate_callee (f := 74) rfl ?_); refine goesL_ (some 26) rfl rfl Try.func74 (by kernel_rfl) rfl #[.int .i8 ((rd_T83 l0 x18_2).f0)] rfl (by (try simp only [List.map_toArray, List.map_cons, List.map_nil]); first | done | rfl | (simp only [List.length_drop, List.length_take]; rfl)) ?_; (with_reducible refine (impl_uses.calls k2 ((rd_T83 l0 x18_2).f0) t397 t398 t399 _ A8.out).mono ?_); rintro e w' ⟨rfl, ⟨nd, rfl⟩⟩; refine ⟨_, rfl, ?_⟩) | (go_at_call 105; (with_reducible refine (impl_ratioOk.calls ((rd_T83 l0 x18_2).f0) ((rd_T83 l0 x18_2).f3) ((rd_T83 l0 x18_2).f4) true _ A15.out).mono ?_); rintro e w' ⟨rfl, ⟨nd, rfl⟩⟩) | (go_at_call 109; (with_reducible refine (impl_earlier.calls ((rd_T83 l0 x18_2).f1) x18_2 t397 true _ A17.out).mono ?_); rintro e w' ⟨rfl, ⟨nd, rfl⟩⟩) | (go_at_call 109; (with_reducible refine (impl_earlier.calls ((rd_T83 l0 x18_2).f2) x18_2 t398 true _ A19.out).mono ?_); rintro e w' ⟨rfl, ⟨nd, rfl⟩⟩))
              go_roundg k2
              case measure => have := HJ1.out; have := HK2.out; omega
              case rel => exact ⟨(wrap64 (x18_2 + 1)), (by first | rfl | (simp; done) | (simp [*]; done)), H', ⟨by have := HJ1.out; have := HK2.out; omega⟩, ⟨by repeat (first | (with_reducible first | exact HB.out | apply below_alloc | apply pw_below_drewN | apply below_drew1 | refine below_set ?_ GE396.out) | exact HB.out)⟩⟩
             ·
              replace c20 := Bool.eq_false_iff.mpr c20
              subst c20
              have H1 : (some false) = some r := by rw [if_neg (show ¬ (false = true) by decide)] at H; exact H
              clear H
              have H := H1
              clear H1
              obtain rfl := Option.some.inj H
              have p395 : 0 ≤ (x18_2 : Int) := of_decide_eq_true (by first | (with_reducible assumption) | assumption)
              have q395 : x18_2 < (l0.length : Int) := of_decide_eq_true (by first | (with_reducible assumption) | assumption)
              obtain ⟨ad395, e395, hx395_0, hx395_1, hx395_2, hx395_3, hx395_4⟩ := at_T83 HR0.out x18_2 p395 q395
              cases e395
              replace hx395_0 := (HB.out.cell (World.block_lt_of_cell? w _ hx395_0)).trans hx395_0
              replace hx395_1 := (HB.out.cell (World.block_lt_of_cell? w _ hx395_1)).trans hx395_1
              replace hx395_2 := (HB.out.cell (World.block_lt_of_cell? w _ hx395_2)).trans hx395_2
              replace hx395_3 := (HB.out.cell (World.block_lt_of_cell? w _ hx395_3)).trans hx395_3
              replace hx395_4 := (HB.out.cell (World.block_lt_of_cell? w _ hx395_4)).trans hx395_4
              replace p395 := eq_true p395
              replace q395 := eq_true q395
              go_wp2_with (first | ((with_reducible refine gate_dst (N := 4) rfl ?_); (try (refine gate_guard (by rfl) ?_; dsimp only)); refine box_event ?hg (N := 4) ?hd (cs := #[.int .i8 0, .int .i16 0, .int .i16 0, .int .i64 0, .int .i64 0]) (t := 83) ?hr ?_; (case hd => rfl); (case hg => rfl); (case hr => first | (go_simp; done) | (go_simp; rfl)); intro gb396 hg w23 hbox hb; have n0_ := Aside0.mk (below_step (by repeat (first | (with_reducible first | exact HB.out | apply below_alloc | apply pw_below_drewN | apply below_drew1) | exact HB.out)) hb); have n1_ := Aside0.mk (hbox); have n2_ := Aside0.mk ((by rw [hg]; exact (below_size (by repeat (first | (with_reducible first | exact HB.out | apply below_alloc | apply pw_below_drewN | apply below_drew1) | exact HB.out))) : w.heap.size ≤ gb396)); have n3_ := Aside0.mk ((by rw [hg]; exact (below_size (by repeat (first | (with_reducible first | exact HB.out | apply below_alloc | apply pw_below_drewN | apply below_drew1) | exact HB.out))) : w.heap.size ≤ gb396)); clear HB; have HB := n0_; have BK396 := n1_; have GW396 := n2_; have GE396 := n3_; clear n0_ n1_ n2_ n3_; clear hb hbox hg; have hcz24_0 : w23.cell? ⟨gb396, 0, none⟩ = some (.int .i8 0) := (blk_cell BK396.out 0).trans rfl; have hcz24_1 : w23.cell? ⟨gb396, 1, none⟩ = some (.int .i16 0) := (blk_cell BK396.out 1).trans rfl; have hcz24_2 : w23.cell? ⟨gb396, 2, none⟩ = some (.int .i16 0) := (blk_cell BK396.out 2).trans rfl; have hcz24_3 : w23.cell? ⟨gb396, 3, none⟩ = some (.int .i64 0) := (blk_cell BK396.out 3).trans rfl; have hcz24_4 : w23.cell? ⟨gb396, 4, none⟩ = some (.int .i64 0) := (blk_cell BK396.out 4).trans rfl; have hfz24_0 := blk_frozen BK396.out 0; have hfz24_1 := blk_frozen BK396.out 1; have hfz24_2 := blk_frozen BK396.out 2; have hfz24_3 := blk_frozen BK396.out 3; have hfz24_4 := blk_frozen BK396.out 4) | ((with_reducible refine gate_callee (f := 74) rfl ?_); refine goesL_ (some 26) rfl rfl Try.func74 (by kernel_rfl) rfl #[.int .i8 ((rd_T83 l0 x18_2).f0)] rfl (by (try simp only [List.map_toArray, List.map_cons, List.map_nil]); first | done | rfl | (simp only [List.length_drop, List.length_take]; rfl)) ?_; (with_reducible refine (impl_uses.calls k2 ((rd_T83 l0 x18_2).f0) t397 t398 t399 _ A8.out).mono ?_); rintro e w' ⟨rfl, ⟨nd, rfl⟩⟩; refine ⟨_, rfl, ?_⟩) | (go_at_call 105; (with_reducible refine (impl_ratioOk.calls ((rd_T83 l0 x18_2).f0) ((rd_T83 l0 x18_2).f3) ((rd_T83 l0 x18_2).f4) true _ A15.out).mono ?_); rintro e w' ⟨rfl, ⟨nd, rfl⟩⟩) | (go_at_call 109; (with_reducible refine (impl_earlier.calls ((rd_T83 l0 x18_2).f1) x18_2 t397 true _ A17.out).mono ?_); rintro e w' ⟨rfl, ⟨nd, rfl⟩⟩) | (go_at_call 109; (with_reducible refine (impl_earlier.calls ((rd_T83 l0 x18_2).f2) x18_2 t398 false _ A19.out).mono ?_); rintro e w' ⟨rfl, ⟨nd, rfl⟩⟩))
              go_ret
              exact ⟨by first | rfl | (simp [errW_none, errW_some] <;> rfl) | (simp [*, errW_none, errW_some] <;> rfl), by repeat (first | (with_reducible first | exact HB.out | apply below_alloc | apply pw_below_drewN | apply below_drew1 | refine below_set ?_ GE396.out) | exact HB.out)⟩
            ·
             replace c18 := Bool.eq_false_iff.mpr c18
             subst c18
             have H1 : (some false) = some r := by rw [if_neg (show ¬ (false = true) by decide)] at H; exact H
             clear H
             have H := H1
             clear H1
             obtain rfl := Option.some.inj H
             have p395 : 0 ≤ (x18_2 : Int) := of_decide_eq_true (by first | (with_reducible assumption) | assumption)
             have q395 : x18_2 < (l0.length : Int) := of_decide_eq_true (by first | (with_reducible assumption) | assumption)
             obtain ⟨ad395, e395, hx395_0, hx395_1, hx395_2, hx395_3, hx395_4⟩ := at_T83 HR0.out x18_2 p395 q395
             cases e395
             replace hx395_0 := (HB.out.cell (World.block_lt_of_cell? w _ hx395_0)).trans hx395_0
             replace hx395_1 := (HB.out.cell (World.block_lt_of_cell? w _ hx395_1)).trans hx395_1
             replace hx395_2 := (HB.out.cell (World.block_lt_of_cell? w _ hx395_2)).trans hx395_2
             replace hx395_3 := (HB.out.cell (World.block_lt_of_cell? w _ hx395_3)).trans hx395_3
             replace hx395_4 := (HB.out.cell (World.block_lt_of_cell? w _ hx395_4)).trans hx395_4
             replace p395 := eq_true p395
             replace q395 := eq_true q395
             go_wp2_with (first | ((with_reducible refine gate_dst (N := 4) rfl ?_); (try (refine gate_guard (by rfl) ?_; dsimp only)); refine box_event ?hg (N := 4) ?hd (cs := #[.int .i8 0, .int .i16 0, .int .i16 0, .int .i64 0, .int .i64 0]) (t := 83) ?hr ?_; (case hd => rfl); (case hg => rfl); (case hr => first | (go_simp; done) | (go_simp; rfl)); intro gb396 hg w25 hbox hb; have n0_ := Aside0.mk (below_step (by repeat (first | (with_reducible first | exact HB.out | apply below_alloc | apply pw_below_drewN | apply below_drew1) | exact HB.out)) hb); have n1_ := Aside0.mk (hbox); have n2_ := Aside0.mk ((by rw [hg]; exact (below_size (by repeat (first | (with_reducible first | exact HB.out | apply below_alloc | apply pw_below_drewN | apply below_drew1) | exact HB.out))) : w.heap.size ≤ gb396)); have n3_ := Aside0.mk ((by rw [hg]; exact (below_size (by repeat (first | (with_reducible first | exact HB.out | apply below_alloc | apply pw_below_drewN | apply below_drew1) | exact HB.out))) : w.heap.size ≤ gb396)); clear HB; have HB := n0_; have BK396 := n1_; have GW396 := n2_; have GE396 := n3_; clear n0_ n1_ n2_ n3_; clear hb hbox hg; have hcz26_0 : w25.cell? ⟨gb396, 0, none⟩ = some (.int .i8 0) := (blk_cell BK396.out 0).trans rfl; have hcz26_1 : w25.cell? ⟨gb396, 1, none⟩ = some (.int .i16 0) := (blk_cell BK396.out 1).trans rfl; have hcz26_2 : w25.cell? ⟨gb396, 2, none⟩ = some (.int .i16 0) := (blk_cell BK396.out 2).trans rfl; have hcz26_3 : w25.cell? ⟨gb396, 3, none⟩ = some (.int .i64 0) := (blk_cell BK396.out 3).trans rfl; have hcz26_4 : w25.cell? ⟨gb396, 4, none⟩ = some (.int .i64 0) := (blk_cell BK396.out 4).trans rfl; have hfz26_0 := blk_frozen BK396.out 0; have hfz26_1 := blk_frozen BK396.out 1; have hfz26_2 := blk_frozen BK396.out 2; have hfz26_3 := blk_frozen BK396.out 3; have hfz26_4 := blk_frozen BK396.out 4) | ((with_reducible refine gate_callee (f := 74) rfl ?_); refine goesL_ (some 26) rfl rfl Try.func74 (by kernel_rfl) rfl #[.int .i8 ((rd_T83 l0 x18_2).f0)] rfl (by (try simp only [List.map_toArray, List.map_cons, List.map_nil]); first | done | rfl | (simp only [List.length_drop, List.length_take]; rfl)) ?_; (with_reducible refine (impl_uses.calls k2 ((rd_T83 l0 x18_2).f0) t397 t398 t399 _ A8.out).mono ?_); rintro e w' ⟨rfl, ⟨nd, rfl⟩⟩; refine ⟨_, rfl, ?_⟩) | (go_at_call 105; (with_reducible refine (impl_ratioOk.calls ((rd_T83 l0 x18_2).f0) ((rd_T83 l0 x18_2).f3) ((rd_T83 l0 x18_2).f4) true _ A15.out).mono ?_); rintro e w' ⟨rfl, ⟨nd, rfl⟩⟩) | (go_at_call 109; (with_reducible refine (impl_earlier.calls ((rd_T83 l0 x18_2).f1) x18_2 t397 false _ A17.out).mono ?_); rintro e w' ⟨rfl, ⟨nd, rfl⟩⟩))
             go_ret
             exact ⟨by first | rfl | (simp [errW_none, errW_some] <;> rfl) | (simp [*, errW_none, errW_some] <;> rfl), by repeat (first | (with_reducible first | exact HB.out | apply below_alloc | apply pw_below_drewN | apply below_drew1 | refine below_set ?_ GE396.out) | exact HB.out)⟩
           ·
            replace c16 := Bool.eq_false_iff.mpr c16
            subst c16
            have H1 : (some false) = some r := by rw [if_neg (show ¬ (false = true) by decide)] at H; exact H
            clear H
            have H := H1
            clear H1
            obtain rfl := Option.some.inj H
            have p395 : 0 ≤ (x18_2 : Int) := of_decide_eq_true (by first | (with_reducible assumption) | assumption)
            have q395 : x18_2 < (l0.length : Int) := of_decide_eq_true (by first | (with_reducible assumption) | assumption)
            obtain ⟨ad395, e395, hx395_0, hx395_1, hx395_2, hx395_3, hx395_4⟩ := at_T83 HR0.out x18_2 p395 q395
            cases e395
            replace hx395_0 := (HB.out.cell (World.block_lt_of_cell? w _ hx395_0)).trans hx395_0
            replace hx395_1 := (HB.out.cell (World.block_lt_of_cell? w _ hx395_1)).trans hx395_1
            replace hx395_2 := (HB.out.cell (World.block_lt_of_cell? w _ hx395_2)).trans hx395_2
            replace hx395_3 := (HB.out.cell (World.block_lt_of_cell? w _ hx395_3)).trans hx395_3
            replace hx395_4 := (HB.out.cell (World.block_lt_of_cell? w _ hx395_4)).trans hx395_4
            replace p395 := eq_true p395
            replace q395 := eq_true q395
            go_wp2_with (first | ((with_reducible refine gate_dst (N := 4) rfl ?_); (try (refine gate_guard (by rfl) ?_; dsimp only)); refine box_event ?hg (N := 4) ?hd (cs := #[.int .i8 0, .int .i16 0, .int .i16 0, .int .i64 0, .int .i64 0]) (t := 83) ?hr ?_; (case hd => rfl); (case hg => rfl); (case hr => first | (go_simp; done) | (go_simp; rfl)); intro gb396 hg w27 hbox hb; have n0_ := Aside0.mk (below_step (by repeat (first | (with_reducible first | exact HB.out | apply below_alloc | apply pw_below_drewN | apply below_drew1) | exact HB.out)) hb); have n1_ := Aside0.mk (hbox); have n2_ := Aside0.mk ((by rw [hg]; exact (below_size (by repeat (first | (with_reducible first | exact HB.out | apply below_alloc | apply pw_below_drewN | apply below_drew1) | exact HB.out))) : w.heap.size ≤ gb396)); have n3_ := Aside0.mk ((by rw [hg]; exact (below_size (by repeat (first | (with_reducible first | exact HB.out | apply below_alloc | apply pw_below_drewN | apply below_drew1) | exact HB.out))) : w.heap.size ≤ gb396)); clear HB; have HB := n0_; have BK396 := n1_; have GW396 := n2_; have GE396 := n3_; clear n0_ n1_ n2_ n3_; clear hb hbox hg; have hcz28_0 : w27.cell? ⟨gb396, 0, none⟩ = some (.int .i8 0) := (blk_cell BK396.out 0).trans rfl; have hcz28_1 : w27.cell? ⟨gb396, 1, none⟩ = some (.int .i16 0) := (blk_cell BK396.out 1).trans rfl; have hcz28_2 : w27.cell? ⟨gb396, 2, none⟩ = some (.int .i16 0) := (blk_cell BK396.out 2).trans rfl; have hcz28_3 : w27.cell? ⟨gb396, 3, none⟩ = some (.int .i64 0) := (blk_cell BK396.out 3).trans rfl; have hcz28_4 : w27.cell? ⟨gb396, 4, none⟩ = some (.int .i64 0) := (blk_cell BK396.out 4).trans rfl; have hfz28_0 := blk_frozen BK396.out 0; have hfz28_1 := blk_frozen BK396.out 1; have hfz28_2 := blk_frozen BK396.out 2; have hfz28_3 := blk_frozen BK396.out 3; have hfz28_4 := blk_frozen BK396.out 4) | ((with_reducible refine gate_callee (f := 74) rfl ?_); refine goesL_ (some 26) rfl rfl Try.func74 (by kernel_rfl) rfl #[.int .i8 ((rd_T83 l0 x18_2).f0)] rfl (by (try simp only [List.map_toArray, List.map_cons, List.map_nil]); first | done | rfl | (simp only [List.length_drop, List.length_take]; rfl)) ?_; (with_reducible refine (impl_uses.calls k2 ((rd_T83 l0 x18_2).f0) t397 t398 t399 _ A8.out).mono ?_); rintro e w' ⟨rfl, ⟨nd, rfl⟩⟩; refine ⟨_, rfl, ?_⟩) | (go_at_call 105; (with_reducible refine (impl_ratioOk.calls ((rd_T83 l0 x18_2).f0) ((rd_T83 l0 x18_2).f3) ((rd_T83 l0 x18_2).f4) false _ A15.out).mono ?_); rintro e w' ⟨rfl, ⟨nd, rfl⟩⟩))
            go_ret
            exact ⟨by first | rfl | (simp [errW_none, errW_some] <;> rfl) | (simp [*, errW_none, errW_some] <;> rfl), by repeat (first | (with_reducible first | exact HB.out | apply below_alloc | apply pw_below_drewN | apply below_drew1 | refine below_set ?_ GE396.out) | exact HB.out)⟩
        ·
         rw [if_neg c7] at H
         exact absurd H (by simp)
       ·
        rw [if_neg c6] at H
        exact absurd H (by simp)
      ·
       rw [if_neg c5] at H
       have c5b0 : decide (x18_2 < (l0.length : Int)) = false := decide_eq_false c5
       clear c5
       obtain rfl := Option.some.inj H
       go_wp2
       go_ret
       exact ⟨by first | rfl | (simp [errW_none, errW_some] <;> rfl) | (simp [*, errW_none, errW_some] <;> rfl), by repeat (first | (with_reducible first | exact HB.out | apply below_alloc | apply pw_below_drewN | apply below_drew1) | exact HB.out)⟩
/-! ### impl_letter: function 73 -/
def impl_letter.f (a0 : Int) : Option (ByteArray) := some (strOfNums (([(97 + ((a0) % 256)) % 256] : List Int)))
set_option maxHeartbeats 8000000 in
set_option maxRecDepth 100000 in
theorem impl_letter.calls (a0 : Int) (r : ByteArray) (w : World) (h : impl_letter.f a0 = some r) :
  Calls Try.prog 73 #[.int .i16 a0] w fun e w' => e = .returned (.string r) ∧ Below w.heap.size w w' := by
 have HB := Aside0.mk (Below.refl w.heap.size w)
 have H : (some (strOfNums (([(97 + ((a0) % 256)) % 256] : List Int)))) = some r := h
 clear h
 obtain ⟨y403, hy403⟩ : ∃ y_ : List Int, y_ = (([(97 + ((a0) % 256)) % 256] : List Int)) := ⟨_, rfl⟩
 replace H : (some (strOfNums y403)) = some r := by first | (rw [hy403]; with_reducible exact H) | (have H2_ := (Option.bind_some _ _).symm.trans H; rw [hy403]; with_reducible exact H2_) | (have H2_ := (Option.bind_some _ _).symm.trans H; with_reducible exact H2_) | with_reducible exact H | (rw [hy403]; exact H) | exact H
 have Ny403 := Aside0.mk hy403
 clear hy403
 obtain rfl := Option.some.inj H
 go_enter Try.func73, Try.ntmps73
 go_wp2_with (first | ((with_reducible refine gate_dst (N := 6) rfl ?_); refine Kd.R_lit (Kd.int .u8) _ 5 ?hg (N := 6) ?hd (xs := ([(97 + ((a0) % 256)) % 256] : List Int)) (inner := [.int .u8 ((97 + ((a0) % 256)) % 256)]) (ok := fun _ => True) (okp := fun _ => True) ?hr ?hp (fun _ hk => hk) trivial (Below.refl _ _) (Nat.le_refl _) (by simp) ?_; (case hd => rfl); (case hg => rfl); (case hr => first | (go_simp; done) | (go_simp; rfl)); (case hp => exact (Reps.one (show Kd.M (Kd.int .u8) _ _ _ ((97 + ((a0) % 256)) % 256) [.int .u8 ((97 + ((a0) % 256)) % 256)] from rfl) (Reps.none _ _))); intro v404 w2 ho3 hb hg_ hnew_; clear hg_ hnew_; (first | rw [← Ny403.out] at ho3 | (simp only [Int.reduceToNat] at ho3; rw [← Ny403.out] at ho3)); have n0_ := Aside0.mk (Kd.R_lower ho3 (below_size (by repeat (first | (with_reducible first | exact HB.out | apply below_alloc | apply pw_below_drewN | apply below_drew1) | exact HB.out)))); have n1_ := Aside0.mk (below_step (by repeat (first | (with_reducible first | exact HB.out | apply below_alloc | apply pw_below_drewN | apply below_drew1) | exact HB.out)) hb); clear HB; have HO405 := n0_; have HB := n1_; clear n0_ n1_; clear hb ho3; have hcv4 := own_string (P := Try.prog) Try.underlying138 Try.underlying5 Try.underlying9 (Kd.own_of_R HO405.out)))
 go_ret
 exact ⟨by first | rfl | (simp [errW_none, errW_some] <;> rfl) | (simp [*, errW_none, errW_some] <;> rfl), by repeat (first | (with_reducible first | exact HB.out | apply below_alloc | apply pw_below_drewN | apply below_drew1) | exact HB.out)⟩
end Go.Proofs.Ytenhgmddpkiliaa.PB

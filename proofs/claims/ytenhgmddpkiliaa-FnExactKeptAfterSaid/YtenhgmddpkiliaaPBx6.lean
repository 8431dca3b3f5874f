import Derived.Test.YtenhgmddpkiliaaPBx0
namespace Go.Proofs.Ytenhgmddpkiliaa.PB
open Go.RowKit Go.Proofs.YtenhgmddpkiliaaW.PrintWords Go.Proofs.YtenhgmddpkiliaaW.PrintLast Go.Proofs.YtenhgmddpkiliaaW.PrintMore Go.Proofs.YtenhgmddpkiliaaRP
attribute [local go_sem] max2_int min2_int max_two min_two max_three min_three max_four min_four Go.Proofs.YtenhgmddpkiliaaRP.max_eight Go.Proofs.YtenhgmddpkiliaaRP.tmod_len   -- for this text's walks alone
set_option linter.unusedVariables false
set_option linter.unusedSimpArgs false
theorem z6_1_ {P : Prop} (h : P := by repeat (first | (with_reducible first | exact HB.out | apply below_alloc | apply pw_below_drewN | apply below_drew1) | exact HB.out)) : P := h
theorem z6_2_ {P : Prop} (h : P := by repeat (first | (with_reducible first | exact HB.out | apply below_alloc | apply pw_below_drewN | apply below_drew1 | refine below_set ?_ GE418.out) | exact HB.out)) : P := h
theorem z6_3_ {P : Prop} (h : P := by (with_reducible repeat (first | refine blk_drewN ?_ _ | refine blk_drew ?_ | refine blk_alloc ?_ _)); exact BK418.out) : P := h
theorem z6_4_ {P : Prop} (h : P := by repeat (first | (with_reducible first | exact HB.out | apply below_alloc | apply pw_below_drewN | apply below_drew1 | refine below_set ?_ GE415.out) | exact HB.out)) : P := h
theorem z6_5_ {P : Prop} (h : P := by repeat (first | (with_reducible first | exact HB.out | apply below_alloc | apply pw_below_drewN | apply below_drew1 | refine below_set ?_ GE411.out) | exact HB.out)) : P := h
theorem z6_6_ {P : Prop} (h : P := by (with_reducible repeat (first | refine blk_drewN ?_ _ | refine blk_drew ?_ | refine blk_alloc ?_ _)); exact BK415.out) : P := h
theorem z6_7_ {P : Prop} (h : P := by (with_reducible repeat (first | refine blk_drewN ?_ _ | refine blk_drew ?_ | refine blk_alloc ?_ _)); exact BK411.out) : P := h
theorem z6_8_ {P : Prop} (h : P := by first | rfl | (simp [errW_none, errW_some] <;> rfl) | (simp [*, errW_none, errW_some] <;> rfl)) : P := h
theorem z6_9_ {P : Prop} (h : P := by repeat (first | (with_reducible first | exact HB.out | apply below_alloc | apply pw_below_drewN | apply below_drew1 | refine below_set ?_ GE418.out | refine below_set ?_ GE419.out) | exact HB.out)) : P := h
theorem z6_10_ {P : Prop} (h : P := by repeat (first | (with_reducible first | exact HB.out | apply below_alloc | apply pw_below_drewN | apply below_drew1 | refine below_set ?_ GE415.out | refine below_set ?_ GE416.out) | exact HB.out)) : P := h
theorem z6_11_ {P : Prop} (h : P := by (try simp only [List.map_toArray, List.map_cons, List.map_nil]); first | done | rfl | (simp only [List.length_drop, List.length_take]; rfl)) : P := h
theorem z6_12_ {P : Prop} (h : P := by repeat (first | (with_reducible first | exact HB.out | apply below_alloc | apply pw_below_drewN | apply below_drew1 | refine below_set ?_ GE411.out | refine below_set ?_ GE412.out) | exact HB.out)) : P := h
theorem z6_13_ {P : Prop} (h : P := by first | rfl | (simp; done) | (simp [*]; done) | (simp [isE_]; done)) : P := h
theorem z6_14_ {P : Prop} (h : P := by (with_reducible repeat (first | refine blk_drewN ?_ _ | refine blk_drew ?_ | refine blk_alloc ?_ _)); exact BK419.out) : P := h
theorem z6_15_ {P : Prop} (h : P := by (with_reducible repeat (first | refine blk_drewN ?_ _ | refine blk_drew ?_ | refine blk_alloc ?_ _)); exact BK416.out) : P := h
theorem z6_16_ {P : Prop} (h : P := by (with_reducible repeat (first | refine blk_drewN ?_ _ | refine blk_drew ?_ | refine blk_alloc ?_ _)); exact BK412.out) : P := h
/-! ### laws_eqUint32A6: function 133 -/
def laws_eqUint32A6.l0 : Nat → Int → Int → Int → Int → Int → Int → Int → Int → Int → Int → Int → Int → Int → Option (Bool)
 | 0, _, _, _, _, _, _, _, _, _, _, _, _, _ => none
 | k + 1, x5, x412000, x412001, x412002, x412003, x412004, x412005, x413000, x413001, x413002, x413003, x413004, x413005 => if x5 < 6 then (if 0 ≤ x5 then (if (rd [x412000, x412001, x412002, x412003, x412004, x412005] x5) = (rd [x413000, x413001, x413002, x413003, x413004, x413005] x5) then (laws_eqUint32A6.l0 k (wrap64 (x5 + 1)) x412000 x412001 x412002 x412003 x412004 x412005 x413000 x413001 x413002 x413003 x413004 x413005) else (some false)) else (none)) else (some true)
def laws_eqUint32A6.f (k : Nat) (a0_0 : Int) (a0_1 : Int) (a0_2 : Int) (a0_3 : Int) (a0_4 : Int) (a0_5 : Int) (a1_0 : Int) (a1_1 : Int) (a1_2 : Int) (a1_3 : Int) (a1_4 : Int) (a1_5 : Int) : Option (Bool) := laws_eqUint32A6.l0 k 0 a0_0 a0_1 a0_2 a0_3 a0_4 a0_5 a1_0 a1_1 a1_2 a1_3 a1_4 a1_5
theorem laws_eqUint32A6.mono_l : ∀ k, (∀ y0 y1 y2 y3 y4 y5 y6 y7 y8 y9 y10 y11 y12, LeO (laws_eqUint32A6.l0 k y0 y1 y2 y3 y4 y5 y6 y7 y8 y9 y10 y11 y12) (laws_eqUint32A6.l0 (k + 1) y0 y1 y2 y3 y4 y5 y6 y7 y8 y9 y10 y11 y12))
 | 0 => fun _ _ _ _ _ _ _ _ _ _ _ _ _ r h => by simp [laws_eqUint32A6.l0] at h
 | k + 1 => by
  have ih0 := laws_eqUint32A6.mono_l k
  ·
   intro y0 y1 y2 y3 y4 y5 y6 y7 y8 y9 y10 y11 y12
   unfold laws_eqUint32A6.l0
   repeat' first
   | (with_reducible exact ih0 _ _ _ _ _ _ _ _ _ _ _ _ _)
   | (with_reducible exact LeO.refl _)
   | (with_reducible exact LeO.none _)
   | (with_reducible refine LeO.ite ?_ ?_)
   | (with_reducible refine LeO.bind ?_ (fun _ => ?_))
   | exact ih0 _ _ _ _ _ _ _ _ _ _ _ _ _
   | exact LeO.none _
   | refine LeO.ite ?_ ?_
   | refine LeO.bind ?_ (fun _ => ?_)
theorem laws_eqUint32A6.mono : ∀ a0 a1 a2 a3 a4 a5 a6 a7 a8 a9 a10 a11 k, LeO (laws_eqUint32A6.f k a0 a1 a2 a3 a4 a5 a6 a7 a8 a9 a10 a11) (laws_eqUint32A6.f (k + 1) a0 a1 a2 a3 a4 a5 a6 a7 a8 a9 a10 a11) := by
 intro a0 a1 a2 a3 a4 a5 a6 a7 a8 a9 a10 a11 k
 have ih0 := laws_eqUint32A6.mono_l k
 unfold laws_eqUint32A6.f
 repeat' first
   | (with_reducible exact ih0 _ _ _ _ _ _ _ _ _ _ _ _ _)
   | (with_reducible exact LeO.refl _)
   | (with_reducible exact LeO.none _)
   | (with_reducible refine LeO.ite ?_ ?_)
   | (with_reducible refine LeO.bind ?_ (fun _ => ?_))
   | exact ih0 _ _ _ _ _ _ _ _ _ _ _ _ _
   | exact LeO.none _
   | refine LeO.ite ?_ ?_
   | refine LeO.bind ?_ (fun _ => ?_)
set_option maxHeartbeats 8000000 in
set_option maxRecDepth 100000 in
theorem laws_eqUint32A6.calls (k : Nat) (a0_0 : Int) (a0_1 : Int) (a0_2 : Int) (a0_3 : Int) (a0_4 : Int) (a0_5 : Int) (a1_0 : Int) (a1_1 : Int) (a1_2 : Int) (a1_3 : Int) (a1_4 : Int) (a1_5 : Int) (r : Bool) (w : World) (h : laws_eqUint32A6.f k a0_0 a0_1 a0_2 a0_3 a0_4 a0_5 a1_0 a1_1 a1_2 a1_3 a1_4 a1_5 = some r) :
  Calls Try.prog 133 #[.agg #[.int .u32 a0_0, .int .u32 a0_1, .int .u32 a0_2, .int .u32 a0_3, .int .u32 a0_4, .int .u32 a0_5], .agg #[.int .u32 a1_0, .int .u32 a1_1, .int .u32 a1_2, .int .u32 a1_3, .int .u32 a1_4, .int .u32 a1_5]] w fun e w' => e = .returned (.bool r) ∧ Below w.heap.size w w' := by
 have hu116 := Try.underlying116
 have HB := A_ (Below.refl w.heap.size w)
 have H : (laws_eqUint32A6.l0 k 0 a0_0 a0_1 a0_2 a0_3 a0_4 a0_5 a1_0 a1_1 a1_2 a1_3 a1_4 a1_5) = some r := h
 clear h
 have H' := A_ H
 clear H
 go_enter Try.func133, Try.ntmps133
 go_wp2_with (first | ((with_reducible refine gate_dst (N := 2) rfl ?_); refine box_event ?hg (N := 2) ?hd (cs := #[.int .u32 a0_0, .int .u32 a0_1, .int .u32 a0_2, .int .u32 a0_3, .int .u32 a0_4, .int .u32 a0_5]) (t := 116) ?hr ?_; (case hd => rfl); (case hg => rfl); (case hr => first | (go_simp; done) | (go_simp; rfl)); intro gb411 hg w3 hbox hb; have _ := A_ (below_step z6_1_ hb); have _ := A_ (hbox); have _ := A_ ((by rw [hg]; exact (below_size z6_1_) : w.heap.size ≤ gb411)); have _ := A_ ((by rw [hg]; exact (below_size z6_1_) : w.heap.size ≤ gb411)); clear HB; rename_i HB BK411 GW411 GE411; clear hb hbox hg) | ((with_reducible refine gate_dst (N := 3) rfl ?_); refine box_event ?hg (N := 3) ?hd (cs := #[.int .u32 a1_0, .int .u32 a1_1, .int .u32 a1_2, .int .u32 a1_3, .int .u32 a1_4, .int .u32 a1_5]) (t := 116) ?hr ?_; (case hd => rfl); (case hg => rfl); (case hr => first | (go_simp; done) | (go_simp; rfl)); intro gb412 hg w4 hbox hb; have _ := A_ (blk_below (g := gb411) (o := .cells #[.int .u32 a0_0, .int .u32 a0_1, .int .u32 a0_2, .int .u32 a0_3, .int .u32 a0_4, .int .u32 a0_5] 116 (0, 0)) z6_7_ hb); have _ := A_ (below_step z6_5_ hb); have _ := A_ (hbox); have _ := A_ ((by rw [hg]; exact (below_size z6_5_) : w.heap.size ≤ gb412)); have _ := A_ ((by rw [hg]; exact (below_size z6_5_) : w.heap.size ≤ gb412)); have _ := A_ ((by rw [hg]; exact Nat.ne_of_lt (blk_lt (g := gb411) (o := .cells #[.int .u32 a0_0, .int .u32 a0_1, .int .u32 a0_2, .int .u32 a0_3, .int .u32 a0_4, .int .u32 a0_5] 116 (0, 0)) z6_7_) : gb411 ≠ gb412)); have _ := A_ ((by rw [hg]; exact Nat.ne_of_gt (blk_lt (g := gb411) (o := .cells #[.int .u32 a0_0, .int .u32 a0_1, .int .u32 a0_2, .int .u32 a0_3, .int .u32 a0_4, .int .u32 a0_5] 116 (0, 0)) z6_7_) : gb412 ≠ gb411)); clear BK411 HB; rename_i BK411 HB BK412 GW412 GE412 NB411_412 NB412_411; clear hb hbox hg))
 repeat (go_quiet (first | ((with_reducible refine gate_dst (N := 2) rfl ?_); refine box_event ?hg (N := 2) ?hd (cs := #[.int .u32 a0_0, .int .u32 a0_1, .int .u32 a0_2, .int .u32 a0_3, .int .u32 a0_4, .int .u32 a0_5]) (t := 116) ?hr ?_; (case hd => rfl); (case hg => rfl); (case hr => first | (go_simp; done) | (go_simp; rfl)); intro gb411 hg w3 hbox hb; have _ := A_ (below_step z6_1_ hb); have _ := A_ (hbox); have _ := A_ ((by rw [hg]; exact (below_size z6_1_) : w.heap.size ≤ gb411)); have _ := A_ ((by rw [hg]; exact (below_size z6_1_) : w.heap.size ≤ gb411)); clear HB; rename_i HB BK411 GW411 GE411; clear hb hbox hg) | ((with_reducible refine gate_dst (N := 3) rfl ?_); refine box_event ?hg (N := 3) ?hd (cs := #[.int .u32 a1_0, .int .u32 a1_1, .int .u32 a1_2, .int .u32 a1_3, .int .u32 a1_4, .int .u32 a1_5]) (t := 116) ?hr ?_; (case hd => rfl); (case hg => rfl); (case hr => first | (go_simp; done) | (go_simp; rfl)); intro gb412 hg w4 hbox hb; have _ := A_ (blk_below (g := gb411) (o := .cells #[.int .u32 a0_0, .int .u32 a0_1, .int .u32 a0_2, .int .u32 a0_3, .int .u32 a0_4, .int .u32 a0_5] 116 (0, 0)) z6_7_ hb); have _ := A_ (below_step z6_5_ hb); have _ := A_ (hbox); have _ := A_ ((by rw [hg]; exact (below_size z6_5_) : w.heap.size ≤ gb412)); have _ := A_ ((by rw [hg]; exact (below_size z6_5_) : w.heap.size ≤ gb412)); have _ := A_ ((by rw [hg]; exact Nat.ne_of_lt (blk_lt (g := gb411) (o := .cells #[.int .u32 a0_0, .int .u32 a0_1, .int .u32 a0_2, .int .u32 a0_3, .int .u32 a0_4, .int .u32 a0_5] 116 (0, 0)) z6_7_) : gb411 ≠ gb412)); have _ := A_ ((by rw [hg]; exact Nat.ne_of_gt (blk_lt (g := gb411) (o := .cells #[.int .u32 a0_0, .int .u32 a0_1, .int .u32 a0_2, .int .u32 a0_3, .int .u32 a0_4, .int .u32 a0_5] 116 (0, 0)) z6_7_) : gb412 ≠ gb411)); clear BK411 HB; rename_i BK411 HB BK412 GW412 GE412 NB411_412 NB412_411; clear hb hbox hg)); try go_wp2_with (first | ((with_reducible refine gate_dst (N := 2) rfl ?_); refine box_event ?hg (N := 2) ?hd (cs := #[.int .u32 a0_0, .int .u32 a0_1, .int .u32 a0_2, .int .u32 a0_3, .int .u32 a0_4, .int .u32 a0_5]) (t := 116) ?hr ?_; (case hd => rfl); (case hg => rfl); (case hr => first | (go_simp; done) | (go_simp; rfl)); intro gb411 hg w3 hbox hb; have _ := A_ (below_step z6_1_ hb); have _ := A_ (hbox); have _ := A_ ((by rw [hg]; exact (below_size z6_1_) : w.heap.size ≤ gb411)); have _ := A_ ((by rw [hg]; exact (below_size z6_1_) : w.heap.size ≤ gb411)); clear HB; rename_i HB BK411 GW411 GE411; clear hb hbox hg) | ((with_reducible refine gate_dst (N := 3) rfl ?_); refine box_event ?hg (N := 3) ?hd (cs := #[.int .u32 a1_0, .int .u32 a1_1, .int .u32 a1_2, .int .u32 a1_3, .int .u32 a1_4, .int .u32 a1_5]) (t := 116) ?hr ?_; (case hd => rfl); (case hg => rfl); (case hr => first | (go_simp; done) | (go_simp; rfl)); intro gb412 hg w4 hbox hb; have _ := A_ (blk_below (g := gb411) (o := .cells #[.int .u32 a0_0, .int .u32 a0_1, .int .u32 a0_2, .int .u32 a0_3, .int .u32 a0_4, .int .u32 a0_5] 116 (0, 0)) z6_7_ hb); have _ := A_ (below_step z6_5_ hb); have _ := A_ (hbox); have _ := A_ ((by rw [hg]; exact (below_size z6_5_) : w.heap.size ≤ gb412)); have _ := A_ ((by rw [hg]; exact (below_size z6_5_) : w.heap.size ≤ gb412)); have _ := A_ ((by rw [hg]; exact Nat.ne_of_lt (blk_lt (g := gb411) (o := .cells #[.int .u32 a0_0, .int .u32 a0_1, .int .u32 a0_2, .int .u32 a0_3, .int .u32 a0_4, .int .u32 a0_5] 116 (0, 0)) z6_7_) : gb411 ≠ gb412)); have _ := A_ ((by rw [hg]; exact Nat.ne_of_gt (blk_lt (g := gb411) (o := .cells #[.int .u32 a0_0, .int .u32 a0_1, .int .u32 a0_2, .int .u32 a0_3, .int .u32 a0_4, .int .u32 a0_5] 116 (0, 0)) z6_7_) : gb412 ≠ gb411)); clear BK411 HB; rename_i BK411 HB BK412 GW412 GE412 NB411_412 NB412_411; clear hb hbox hg)))
 go_loopg [5] k (fun kq v5 w' => ∃ (x5_1 : Int), v5 = .int .i64 x5_1 ∧ Aside0 (laws_eqUint32A6.l0 kq x5_1 a0_0 a0_1 a0_2 a0_3 a0_4 a0_5 a1_0 a1_1 a1_2 a1_3 a1_4 a1_5 = some r) ∧ Aside0 (kq ≤ k) ∧ Aside0 (w'.heap[gb411]? = some (.cells #[.int .u32 a0_0, .int .u32 a0_1, .int .u32 a0_2, .int .u32 a0_3, .int .u32 a0_4, .int .u32 a0_5] 116 (0, 0))) ∧ Aside0 (w'.heap[gb412]? = some (.cells #[.int .u32 a1_0, .int .u32 a1_1, .int .u32 a1_2, .int .u32 a1_3, .int .u32 a1_4, .int .u32 a1_5] 116 (0, 0))) ∧ Aside0 (Below w.heap.size w w'))
 case atStart => exact ⟨(0), z6_13_, H', ⟨Nat.le_refl _⟩, ⟨z6_7_⟩, ⟨z6_16_⟩, ⟨z6_12_⟩⟩
 case round =>
  clear H'
  try clear c1
  try clear p2
  obtain ⟨x5_1, rfl, HA, HK1, BK411, BK412, HB⟩ := hrel
  cases gk with
  | zero => exact absurd HA.out (by simp [laws_eqUint32A6.l0])
  | succ k1 =>
   have H := HA.out
   clear HA
   simp only [laws_eqUint32A6.l0] at H
   by_cases c5 : x5_1 < 6
   ·
    rw [if_pos c5] at H
    have c5b0 := decide_eq_true c5
    clear c5
    by_cases c6 : 0 ≤ x5_1
    ·
     rw [if_pos c6] at H
     have c6b0 := decide_eq_true c6
     clear c6
     by_cases c7 : (rd [a0_0, a0_1, a0_2, a0_3, a0_4, a0_5] x5_1) = (rd [a1_0, a1_1, a1_2, a1_3, a1_4, a1_5] x5_1)
     ·
      rw [if_pos c7] at H
      have c7b0 := beq_iff_eq.mpr c7
      have c7b1 := bne_eq_false_iff_eq.mpr c7
      clear c7
      have H' := A_ H
      clear H
      have p413 : 0 ≤ (x5_1 : Int) := of_decide_eq_true (by assumption)
      have q413 : (x5_1 : Int) < 6 := of_decide_eq_true (by assumption)
      have hx413_0 := blk_arr (xs := [a0_0, a0_1, a0_2, a0_3, a0_4, a0_5]) (k := .u32) BK411.out 0 rfl x5_1 p413 q413
      (try simp only [Nat.zero_add] at hx413_0)
      replace p413 := eq_true p413
      replace q413 := eq_true q413
      have p414 : 0 ≤ (x5_1 : Int) := of_decide_eq_true (by assumption)
      have q414 : (x5_1 : Int) < 6 := of_decide_eq_true (by assumption)
      have hx414_0 := blk_arr (xs := [a1_0, a1_1, a1_2, a1_3, a1_4, a1_5]) (k := .u32) BK412.out 0 rfl x5_1 p414 q414
      (try simp only [Nat.zero_add] at hx414_0)
      replace p414 := eq_true p414
      replace q414 := eq_true q414
      go_wp2
      repeat (go_quiet (fail); try go_wp2)
      go_roundg k1
      case measure => have := HK1.out; omega
      case rel => exact ⟨(wrap64 (x5_1 + 1)), z6_13_, H', ⟨(by have := HK1.out; omega)⟩, ⟨z6_7_⟩, ⟨z6_16_⟩, ⟨z6_12_⟩⟩
     ·
      rw [if_neg c7] at H
      have c7b0 : ((rd [a0_0, a0_1, a0_2, a0_3, a0_4, a0_5] x5_1) == (rd [a1_0, a1_1, a1_2, a1_3, a1_4, a1_5] x5_1)) = false := beq_eq_false_iff_ne.mpr c7
      have c7b1 : ((rd [a0_0, a0_1, a0_2, a0_3, a0_4, a0_5] x5_1) != (rd [a1_0, a1_1, a1_2, a1_3, a1_4, a1_5] x5_1)) = true := bne_iff_ne.mpr c7
      obtain rfl := Option.some.inj H
      have p413 : 0 ≤ (x5_1 : Int) := of_decide_eq_true (by assumption)
      have q413 : (x5_1 : Int) < 6 := of_decide_eq_true (by assumption)
      have hx413_0 := blk_arr (xs := [a0_0, a0_1, a0_2, a0_3, a0_4, a0_5]) (k := .u32) BK411.out 0 rfl x5_1 p413 q413
      (try simp only [Nat.zero_add] at hx413_0)
      replace p413 := eq_true p413
      replace q413 := eq_true q413
      have p414 : 0 ≤ (x5_1 : Int) := of_decide_eq_true (by assumption)
      have q414 : (x5_1 : Int) < 6 := of_decide_eq_true (by assumption)
      have hx414_0 := blk_arr (xs := [a1_0, a1_1, a1_2, a1_3, a1_4, a1_5]) (k := .u32) BK412.out 0 rfl x5_1 p414 q414
      (try simp only [Nat.zero_add] at hx414_0)
      replace p414 := eq_true p414
      replace q414 := eq_true q414
      go_wp2
      repeat (go_quiet (fail); try go_wp2)
      go_ret
      exact ⟨z6_8_, z6_12_⟩
    ·
     rw [if_neg c6] at H
     exact absurd H (by simp)
   ·
    rw [if_neg c5] at H
    have c5b0 := decide_eq_false c5
    clear c5
    obtain rfl := Option.some.inj H
    go_wp2
    repeat (go_quiet (fail); try go_wp2)
    go_ret
    exact ⟨z6_8_, z6_12_⟩
/-! ### laws_eqWide: function 130 -/
def laws_eqWide.f (k : Nat) (a0_0 : Bool) (a0_1 : Int) (a0_2 : Int) (a0_3 : Int) (a0_4 : Int) (a0_5 : Int) (a0_6 : Int) (a1_0 : Bool) (a1_1 : Int) (a1_2 : Int) (a1_3 : Int) (a1_4 : Int) (a1_5 : Int) (a1_6 : Int) : Option (Bool) := if (a0_0 != a1_0) = true then (some false) else ((laws_eqUint32A6.f k a0_1 a0_2 a0_3 a0_4 a0_5 a0_6 a1_1 a1_2 a1_3 a1_4 a1_5 a1_6).bind fun t417 => (if t417 = true then (some true) else (some false)))
theorem laws_eqWide.mono : ∀ a0 a1 a2 a3 a4 a5 a6 a7 a8 a9 a10 a11 a12 a13 k, LeO (laws_eqWide.f k a0 a1 a2 a3 a4 a5 a6 a7 a8 a9 a10 a11 a12 a13) (laws_eqWide.f (k + 1) a0 a1 a2 a3 a4 a5 a6 a7 a8 a9 a10 a11 a12 a13) := by
 intro a0 a1 a2 a3 a4 a5 a6 a7 a8 a9 a10 a11 a12 a13 k
 unfold laws_eqWide.f
 repeat' first
   | (with_reducible exact laws_eqUint32A6.mono _ _ _ _ _ _ _ _ _ _ _ _ _)
   | (with_reducible exact LeO.refl _)
   | (with_reducible exact LeO.none _)
   | (with_reducible refine LeO.ite ?_ ?_)
   | (with_reducible refine LeO.bind ?_ (fun _ => ?_))
   | exact LeO.none _
   | refine LeO.ite ?_ ?_
   | refine LeO.bind ?_ (fun _ => ?_)
set_option maxHeartbeats 8000000 in
set_option maxRecDepth 100000 in
theorem laws_eqWide.calls (k : Nat) (a0_0 : Bool) (a0_1 : Int) (a0_2 : Int) (a0_3 : Int) (a0_4 : Int) (a0_5 : Int) (a0_6 : Int) (a1_0 : Bool) (a1_1 : Int) (a1_2 : Int) (a1_3 : Int) (a1_4 : Int) (a1_5 : Int) (a1_6 : Int) (r : Bool) (w : World) (h : laws_eqWide.f k a0_0 a0_1 a0_2 a0_3 a0_4 a0_5 a0_6 a1_0 a1_1 a1_2 a1_3 a1_4 a1_5 a1_6 = some r) :
  Calls Try.prog 130 #[.agg #[.bool a0_0, .int .u32 a0_1, .int .u32 a0_2, .int .u32 a0_3, .int .u32 a0_4, .int .u32 a0_5, .int .u32 a0_6], .agg #[.bool a1_0, .int .u32 a1_1, .int .u32 a1_2, .int .u32 a1_3, .int .u32 a1_4, .int .u32 a1_5, .int .u32 a1_6]] w fun e w' => e = .returned (.bool r) ∧ Below w.heap.size w w' := by
 have hu122 := Try.underlying122
 have hu116 := Try.underlying116
 have HB := A_ (Below.refl w.heap.size w)
 have H : (if (a0_0 != a1_0) = true then (some false) else ((laws_eqUint32A6.f k a0_1 a0_2 a0_3 a0_4 a0_5 a0_6 a1_1 a1_2 a1_3 a1_4 a1_5 a1_6).bind fun t417 => (if t417 = true then (some true) else (some false)))) = some r := h
 clear h
 by_cases c3 : (a0_0 != a1_0) = true
 ·
  rw [if_pos c3] at H
  have c3b0 : (a0_0 != a1_0) = true := c3
  (try (have c3b1 : decide (a0_0 = a1_0) = false := by simpa using c3))
  (try (have c3b2 : (a0_0 == a1_0) = false := by simpa using c3))
  (try (have c3b3 : ¬ (a0_0 = a1_0) := by simpa using c3))
  clear c3
  obtain rfl := Option.some.inj H
  go_enter Try.func130, Try.ntmps130
  go_wp2_with (first | ((with_reducible refine gate_dst (N := 2) rfl ?_); refine box_event ?hg (N := 2) ?hd (cs := #[.bool a0_0, .int .u32 a0_1, .int .u32 a0_2, .int .u32 a0_3, .int .u32 a0_4, .int .u32 a0_5, .int .u32 a0_6]) (t := 122) ?hr ?_; (case hd => rfl); (case hg => rfl); (case hr => first | (go_simp; done) | (go_simp; rfl)); intro gb415 hg w4 hbox hb; have _ := A_ (below_step z6_1_ hb); have _ := A_ (hbox); have _ := A_ ((by rw [hg]; exact (below_size z6_1_) : w.heap.size ≤ gb415)); have _ := A_ ((by rw [hg]; exact (below_size z6_1_) : w.heap.size ≤ gb415)); clear HB; rename_i HB BK415 GW415 GE415; clear hb hbox hg) | ((with_reducible refine gate_dst (N := 3) rfl ?_); refine box_event ?hg (N := 3) ?hd (cs := #[.bool a1_0, .int .u32 a1_1, .int .u32 a1_2, .int .u32 a1_3, .int .u32 a1_4, .int .u32 a1_5, .int .u32 a1_6]) (t := 122) ?hr ?_; (case hd => rfl); (case hg => rfl); (case hr => first | (go_simp; done) | (go_simp; rfl)); intro gb416 hg w5 hbox hb; have _ := A_ (blk_below (g := gb415) (o := .cells #[.bool a0_0, .int .u32 a0_1, .int .u32 a0_2, .int .u32 a0_3, .int .u32 a0_4, .int .u32 a0_5, .int .u32 a0_6] 122 (0, 0)) z6_6_ hb); have _ := A_ (below_step z6_4_ hb); have _ := A_ (hbox); have _ := A_ ((by rw [hg]; exact (below_size z6_4_) : w.heap.size ≤ gb416)); have _ := A_ ((by rw [hg]; exact (below_size z6_4_) : w.heap.size ≤ gb416)); have _ := A_ ((by rw [hg]; exact Nat.ne_of_lt (blk_lt (g := gb415) (o := .cells #[.bool a0_0, .int .u32 a0_1, .int .u32 a0_2, .int .u32 a0_3, .int .u32 a0_4, .int .u32 a0_5, .int .u32 a0_6] 122 (0, 0)) z6_6_) : gb415 ≠ gb416)); have _ := A_ ((by rw [hg]; exact Nat.ne_of_gt (blk_lt (g := gb415) (o := .cells #[.bool a0_0, .int .u32 a0_1, .int .u32 a0_2, .int .u32 a0_3, .int .u32 a0_4, .int .u32 a0_5, .int .u32 a0_6] 122 (0, 0)) z6_6_) : gb416 ≠ gb415)); clear BK415 HB; rename_i BK415 HB BK416 GW416 GE416 NB415_416 NB416_415; clear hb hbox hg; have hnb6 := NB415_416.out; have hnc6 := NB416_415.out; obtain ⟨hcz7_0, hcz7_1, hcz7_2, hcz7_3, hcz7_4, hcz7_5, hcz7_6⟩ := bc7 BK415.out; obtain ⟨hfz7_0, hfz7_1, hfz7_2, hfz7_3, hfz7_4, hfz7_5, hfz7_6⟩ := bf7 BK415.out; obtain ⟨hcz8_0, hcz8_1, hcz8_2, hcz8_3, hcz8_4, hcz8_5, hcz8_6⟩ := bc7 BK416.out; obtain ⟨hfz8_0, hfz8_1, hfz8_2, hfz8_3, hfz8_4, hfz8_5, hfz8_6⟩ := bf7 BK416.out))
  go_ret
  exact ⟨z6_8_, z6_10_⟩
 ·
  rw [if_neg c3] at H
  have c3b0 : (a0_0 != a1_0) = false := by simpa using c3
  (try (have c3b1 : decide (a0_0 = a1_0) = true := by simpa using c3))
  (try (have c3b2 : (a0_0 == a1_0) = true := by simpa using c3))
  clear c3
  replace H := Option.bind_eq_some_iff.mp H
  obtain ⟨t417, A90, H⟩ := H
  try dsimp only at H
  have A9 := A_ A90
  clear A90
  by_cases c10 : t417 = true
  ·
   subst c10
   have H1 := H; rw [if_pos rfl] at H1
   clear H
   have H := H1
   clear H1
   obtain rfl := Option.some.inj H
   go_enter Try.func130, Try.ntmps130
   go_wp2_with (first | ((with_reducible refine gate_dst (N := 2) rfl ?_); refine box_event ?hg (N := 2) ?hd (cs := #[.bool a0_0, .int .u32 a0_1, .int .u32 a0_2, .int .u32 a0_3, .int .u32 a0_4, .int .u32 a0_5, .int .u32 a0_6]) (t := 122) ?hr ?_; (case hd => rfl); (case hg => rfl); (case hr => first | (go_simp; done) | (go_simp; rfl)); intro gb415 hg w11 hbox hb; have _ := A_ (below_step z6_1_ hb); have _ := A_ (hbox); have _ := A_ ((by rw [hg]; exact (below_size z6_1_) : w.heap.size ≤ gb415)); have _ := A_ ((by rw [hg]; exact (below_size z6_1_) : w.heap.size ≤ gb415)); clear HB; rename_i HB BK415 GW415 GE415; clear hb hbox hg) | ((with_reducible refine gate_dst (N := 3) rfl ?_); refine box_event ?hg (N := 3) ?hd (cs := #[.bool a1_0, .int .u32 a1_1, .int .u32 a1_2, .int .u32 a1_3, .int .u32 a1_4, .int .u32 a1_5, .int .u32 a1_6]) (t := 122) ?hr ?_; (case hd => rfl); (case hg => rfl); (case hr => first | (go_simp; done) | (go_simp; rfl)); intro gb416 hg w12 hbox hb; have _ := A_ (blk_below (g := gb415) (o := .cells #[.bool a0_0, .int .u32 a0_1, .int .u32 a0_2, .int .u32 a0_3, .int .u32 a0_4, .int .u32 a0_5, .int .u32 a0_6] 122 (0, 0)) z6_6_ hb); have _ := A_ (below_step z6_4_ hb); have _ := A_ (hbox); have _ := A_ ((by rw [hg]; exact (below_size z6_4_) : w.heap.size ≤ gb416)); have _ := A_ ((by rw [hg]; exact (below_size z6_4_) : w.heap.size ≤ gb416)); have _ := A_ ((by rw [hg]; exact Nat.ne_of_lt (blk_lt (g := gb415) (o := .cells #[.bool a0_0, .int .u32 a0_1, .int .u32 a0_2, .int .u32 a0_3, .int .u32 a0_4, .int .u32 a0_5, .int .u32 a0_6] 122 (0, 0)) z6_6_) : gb415 ≠ gb416)); have _ := A_ ((by rw [hg]; exact Nat.ne_of_gt (blk_lt (g := gb415) (o := .cells #[.bool a0_0, .int .u32 a0_1, .int .u32 a0_2, .int .u32 a0_3, .int .u32 a0_4, .int .u32 a0_5, .int .u32 a0_6] 122 (0, 0)) z6_6_) : gb416 ≠ gb415)); clear BK415 HB; rename_i BK415 HB BK416 GW416 GE416 NB415_416 NB416_415; clear hb hbox hg; have hnb13 := NB415_416.out; have hnc13 := NB416_415.out; obtain ⟨hcz14_0, hcz14_1, hcz14_2, hcz14_3, hcz14_4, hcz14_5, hcz14_6⟩ := bc7 BK415.out; obtain ⟨hfz14_0, hfz14_1, hfz14_2, hfz14_3, hfz14_4, hfz14_5, hfz14_6⟩ := bf7 BK415.out; obtain ⟨hcz15_0, hcz15_1, hcz15_2, hcz15_3, hcz15_4, hcz15_5, hcz15_6⟩ := bc7 BK416.out; obtain ⟨hfz15_0, hfz15_1, hfz15_2, hfz15_3, hfz15_4, hfz15_5, hfz15_6⟩ := bf7 BK416.out) | ((with_reducible refine gate_callee (f := 133) rfl ?_); refine goesL_ (some 14) rfl rfl Try.func133 (by kernel_rfl) rfl #[.agg #[.int .u32 a0_1, .int .u32 a0_2, .int .u32 a0_3, .int .u32 a0_4, .int .u32 a0_5, .int .u32 a0_6], .agg #[.int .u32 a1_1, .int .u32 a1_2, .int .u32 a1_3, .int .u32 a1_4, .int .u32 a1_5, .int .u32 a1_6]] rfl z6_11_ ?_; (with_reducible refine (laws_eqUint32A6.calls k a0_1 a0_2 a0_3 a0_4 a0_5 a0_6 a1_1 a1_2 a1_3 a1_4 a1_5 a1_6 true _ A9.out).mono ?_); rintro e w16 ⟨rfl, hb⟩; refine ⟨_, rfl, ?_⟩; have _ := A_ (blk_below (g := gb415) (o := .cells #[.bool a0_0, .int .u32 a0_1, .int .u32 a0_2, .int .u32 a0_3, .int .u32 a0_4, .int .u32 a0_5, .int .u32 a0_6] 122 (0, 0)) z6_6_ hb); have _ := A_ (blk_below (g := gb416) (o := .cells #[.bool a1_0, .int .u32 a1_1, .int .u32 a1_2, .int .u32 a1_3, .int .u32 a1_4, .int .u32 a1_5, .int .u32 a1_6] 122 (0, 0)) z6_15_ hb); have _ := A_ (below_step z6_10_ hb); clear BK415 BK416 HB; rename_i BK415 BK416 HB; (try clear hb)))
   go_ret
   exact ⟨z6_8_, z6_10_⟩
  ·
   replace c10 := Bool.eq_false_iff.mpr c10
   subst c10
   have H1 := H; rw [if_neg (show ¬ (false = true) by decide)] at H1
   clear H
   have H := H1
   clear H1
   obtain rfl := Option.some.inj H
   go_enter Try.func130, Try.ntmps130
   go_wp2_with (first | ((with_reducible refine gate_dst (N := 2) rfl ?_); refine box_event ?hg (N := 2) ?hd (cs := #[.bool a0_0, .int .u32 a0_1, .int .u32 a0_2, .int .u32 a0_3, .int .u32 a0_4, .int .u32 a0_5, .int .u32 a0_6]) (t := 122) ?hr ?_; (case hd => rfl); (case hg => rfl); (case hr => first | (go_simp; done) | (go_simp; rfl)); intro gb415 hg w17 hbox hb; have _ := A_ (below_step z6_1_ hb); have _ := A_ (hbox); have _ := A_ ((by rw [hg]; exact (below_size z6_1_) : w.heap.size ≤ gb415)); have _ := A_ ((by rw [hg]; exact (below_size z6_1_) : w.heap.size ≤ gb415)); clear HB; rename_i HB BK415 GW415 GE415; clear hb hbox hg) | ((with_reducible refine gate_dst (N := 3) rfl ?_); refine box_event ?hg (N := 3) ?hd (cs := #[.bool a1_0, .int .u32 a1_1, .int .u32 a1_2, .int .u32 a1_3, .int .u32 a1_4, .int .u32 a1_5, .int .u32 a1_6]) (t := 122) ?hr ?_; (case hd => rfl); (case hg => rfl); (case hr => first | (go_simp; done) | (go_simp; rfl)); intro gb416 hg w18 hbox hb; have _ := A_ (blk_below (g := gb415) (o := .cells #[.bool a0_0, .int .u32 a0_1, .int .u32 a0_2, .int .u32 a0_3, .int .u32 a0_4, .int .u32 a0_5, .int .u32 a0_6] 122 (0, 0)) z6_6_ hb); have _ := A_ (below_step z6_4_ hb); have _ := A_ (hbox); have _ := A_ ((by rw [hg]; exact (below_size z6_4_) : w.heap.size ≤ gb416)); have _ := A_ ((by rw [hg]; exact (below_size z6_4_) : w.heap.size ≤ gb416)); have _ := A_ ((by rw [hg]; exact Nat.ne_of_lt (blk_lt (g := gb415) (o := .cells #[.bool a0_0, .int .u32 a0_1, .int .u32 a0_2, .int .u32 a0_3, .int .u32 a0_4, .int .u32 a0_5, .int .u32 a0_6] 122 (0, 0)) z6_6_) : gb415 ≠ gb416)); have _ := A_ ((by rw [hg]; exact Nat.ne_of_gt (blk_lt (g := gb415) (o := .cells #[.bool a0_0, .int .u32 a0_1, .int .u32 a0_2, .int .u32 a0_3, .int .u32 a0_4, .int .u32 a0_5, .int .u32 a0_6] 122 (0, 0)) z6_6_) : gb416 ≠ gb415)); clear BK415 HB; rename_i BK415 HB BK416 GW416 GE416 NB415_416 NB416_415; clear hb hbox hg; have hnb19 := NB415_416.out; have hnc19 := NB416_415.out; obtain ⟨hcz20_0, hcz20_1, hcz20_2, hcz20_3, hcz20_4, hcz20_5, hcz20_6⟩ := bc7 BK415.out; obtain ⟨hfz20_0, hfz20_1, hfz20_2, hfz20_3, hfz20_4, hfz20_5, hfz20_6⟩ := bf7 BK415.out; obtain ⟨hcz21_0, hcz21_1, hcz21_2, hcz21_3, hcz21_4, hcz21_5, hcz21_6⟩ := bc7 BK416.out; obtain ⟨hfz21_0, hfz21_1, hfz21_2, hfz21_3, hfz21_4, hfz21_5, hfz21_6⟩ := bf7 BK416.out) | ((with_reducible refine gate_callee (f := 133) rfl ?_); refine goesL_ (some 14) rfl rfl Try.func133 (by kernel_rfl) rfl #[.agg #[.int .u32 a0_1, .int .u32 a0_2, .int .u32 a0_3, .int .u32 a0_4, .int .u32 a0_5, .int .u32 a0_6], .agg #[.int .u32 a1_1, .int .u32 a1_2, .int .u32 a1_3, .int .u32 a1_4, .int .u32 a1_5, .int .u32 a1_6]] rfl z6_11_ ?_; (with_reducible refine (laws_eqUint32A6.calls k a0_1 a0_2 a0_3 a0_4 a0_5 a0_6 a1_1 a1_2 a1_3 a1_4 a1_5 a1_6 false _ A9.out).mono ?_); rintro e w22 ⟨rfl, hb⟩; refine ⟨_, rfl, ?_⟩; have _ := A_ (blk_below (g := gb415) (o := .cells #[.bool a0_0, .int .u32 a0_1, .int .u32 a0_2, .int .u32 a0_3, .int .u32 a0_4, .int .u32 a0_5, .int .u32 a0_6] 122 (0, 0)) z6_6_ hb); have _ := A_ (blk_below (g := gb416) (o := .cells #[.bool a1_0, .int .u32 a1_1, .int .u32 a1_2, .int .u32 a1_3, .int .u32 a1_4, .int .u32 a1_5, .int .u32 a1_6] 122 (0, 0)) z6_15_ hb); have _ := A_ (below_step z6_10_ hb); clear BK415 BK416 HB; rename_i BK415 BK416 HB; (try clear hb)))
   go_ret
   exact ⟨z6_8_, z6_10_⟩
/-! ### laws_eqKept: function 102 -/
def laws_eqKept.f (k : Nat) (a0_0 : ByteArray) (a0_1 : Int) (a0_2 : Bool) (a0_3 : Int) (a0_4 : Int) (a0_5 : Int) (a0_6 : Int) (a0_7 : Int) (a0_8 : Int) (a1_0 : ByteArray) (a1_1 : Int) (a1_2 : Bool) (a1_3 : Int) (a1_4 : Int) (a1_5 : Int) (a1_6 : Int) (a1_7 : Int) (a1_8 : Int) : Option (Bool) := if a0_0.toList = a1_0.toList then (if a0_1 = a1_1 then ((laws_eqWide.f k a0_2 a0_3 a0_4 a0_5 a0_6 a0_7 a0_8 a1_2 a1_3 a1_4 a1_5 a1_6 a1_7 a1_8).bind fun t420 => (if t420 = true then (some true) else (some false))) else (some false)) else (some false)
theorem laws_eqKept.mono : ∀ a0 a1 a2 a3 a4 a5 a6 a7 a8 a9 a10 a11 a12 a13 a14 a15 a16 a17 k, LeO (laws_eqKept.f k a0 a1 a2 a3 a4 a5 a6 a7 a8 a9 a10 a11 a12 a13 a14 a15 a16 a17) (laws_eqKept.f (k + 1) a0 a1 a2 a3 a4 a5 a6 a7 a8 a9 a10 a11 a12 a13 a14 a15 a16 a17) := by
 intro a0 a1 a2 a3 a4 a5 a6 a7 a8 a9 a10 a11 a12 a13 a14 a15 a16 a17 k
 unfold laws_eqKept.f
 repeat' first
   | (with_reducible exact laws_eqWide.mono _ _ _ _ _ _ _ _ _ _ _ _ _ _ _)
   | (with_reducible exact LeO.refl _)
   | (with_reducible exact LeO.none _)
   | (with_reducible refine LeO.ite ?_ ?_)
   | (with_reducible refine LeO.bind ?_ (fun _ => ?_))
   | exact LeO.none _
   | refine LeO.ite ?_ ?_
   | refine LeO.bind ?_ (fun _ => ?_)
set_option maxHeartbeats 8000000 in
set_option maxRecDepth 100000 in
theorem laws_eqKept.calls (k : Nat) (a0_0 : ByteArray) (a0_1 : Int) (a0_2 : Bool) (a0_3 : Int) (a0_4 : Int) (a0_5 : Int) (a0_6 : Int) (a0_7 : Int) (a0_8 : Int) (a1_0 : ByteArray) (a1_1 : Int) (a1_2 : Bool) (a1_3 : Int) (a1_4 : Int) (a1_5 : Int) (a1_6 : Int) (a1_7 : Int) (a1_8 : Int) (r : Bool) (w : World) (h : laws_eqKept.f k a0_0 a0_1 a0_2 a0_3 a0_4 a0_5 a0_6 a0_7 a0_8 a1_0 a1_1 a1_2 a1_3 a1_4 a1_5 a1_6 a1_7 a1_8 = some r) :
  Calls Try.prog 102 #[.agg #[.string a0_0, .int .i64 a0_1, .bool a0_2, .int .u32 a0_3, .int .u32 a0_4, .int .u32 a0_5, .int .u32 a0_6, .int .u32 a0_7, .int .u32 a0_8], .agg #[.string a1_0, .int .i64 a1_1, .bool a1_2, .int .u32 a1_3, .int .u32 a1_4, .int .u32 a1_5, .int .u32 a1_6, .int .u32 a1_7, .int .u32 a1_8]] w fun e w' => e = .returned (.bool r) ∧ Below w.heap.size w w' := by
 have hu124 := Try.underlying124
 have hu122 := Try.underlying122
 have HB := A_ (Below.refl w.heap.size w)
 have H : (if a0_0.toList = a1_0.toList then (if a0_1 = a1_1 then ((laws_eqWide.f k a0_2 a0_3 a0_4 a0_5 a0_6 a0_7 a0_8 a1_2 a1_3 a1_4 a1_5 a1_6 a1_7 a1_8).bind fun t420 => (if t420 = true then (some true) else (some false))) else (some false)) else (some false)) = some r := h
 clear h
 by_cases c3 : a0_0.toList = a1_0.toList
 ·
  rw [if_pos c3] at H
  have c3b0 := beq_iff_eq.mpr c3
  have c3b1 := bne_eq_false_iff_eq.mpr c3
  clear c3
  by_cases c4 : a0_1 = a1_1
  ·
   rw [if_pos c4] at H
   have c4b0 := beq_iff_eq.mpr c4
   have c4b1 := bne_eq_false_iff_eq.mpr c4
   clear c4
   replace H := Option.bind_eq_some_iff.mp H
   obtain ⟨t420, A50, H⟩ := H
   try dsimp only at H
   have A5 := A_ A50
   clear A50
   by_cases c6 : t420 = true
   ·
    subst c6
    have H1 := H; rw [if_pos rfl] at H1
    clear H
    have H := H1
    clear H1
    obtain rfl := Option.some.inj H
    go_enter Try.func102, Try.ntmps102
    go_wp2_with (first | ((with_reducible refine gate_dst (N := 2) rfl ?_); refine box_event ?hg (N := 2) ?hd (cs := #[.string a0_0, .int .i64 a0_1, .bool a0_2, .int .u32 a0_3, .int .u32 a0_4, .int .u32 a0_5, .int .u32 a0_6, .int .u32 a0_7, .int .u32 a0_8]) (t := 124) ?hr ?_; (case hd => rfl); (case hg => rfl); (case hr => first | (go_simp; done) | (go_simp; rfl)); intro gb418 hg w7 hbox hb; have _ := A_ (below_step z6_1_ hb); have _ := A_ (hbox); have _ := A_ ((by rw [hg]; exact (below_size z6_1_) : w.heap.size ≤ gb418)); have _ := A_ ((by rw [hg]; exact (below_size z6_1_) : w.heap.size ≤ gb418)); clear HB; rename_i HB BK418 GW418 GE418; clear hb hbox hg) | ((with_reducible refine gate_dst (N := 3) rfl ?_); refine box_event ?hg (N := 3) ?hd (cs := #[.string a1_0, .int .i64 a1_1, .bool a1_2, .int .u32 a1_3, .int .u32 a1_4, .int .u32 a1_5, .int .u32 a1_6, .int .u32 a1_7, .int .u32 a1_8]) (t := 124) ?hr ?_; (case hd => rfl); (case hg => rfl); (case hr => first | (go_simp; done) | (go_simp; rfl)); intro gb419 hg w8 hbox hb; have _ := A_ (blk_below (g := gb418) (o := .cells #[.string a0_0, .int .i64 a0_1, .bool a0_2, .int .u32 a0_3, .int .u32 a0_4, .int .u32 a0_5, .int .u32 a0_6, .int .u32 a0_7, .int .u32 a0_8] 124 (0, 0)) z6_3_ hb); have _ := A_ (below_step z6_2_ hb); have _ := A_ (hbox); have _ := A_ ((by rw [hg]; exact (below_size z6_2_) : w.heap.size ≤ gb419)); have _ := A_ ((by rw [hg]; exact (below_size z6_2_) : w.heap.size ≤ gb419)); have _ := A_ ((by rw [hg]; exact Nat.ne_of_lt (blk_lt (g := gb418) (o := .cells #[.string a0_0, .int .i64 a0_1, .bool a0_2, .int .u32 a0_3, .int .u32 a0_4, .int .u32 a0_5, .int .u32 a0_6, .int .u32 a0_7, .int .u32 a0_8] 124 (0, 0)) z6_3_) : gb418 ≠ gb419)); have _ := A_ ((by rw [hg]; exact Nat.ne_of_gt (blk_lt (g := gb418) (o := .cells #[.string a0_0, .int .i64 a0_1, .bool a0_2, .int .u32 a0_3, .int .u32 a0_4, .int .u32 a0_5, .int .u32 a0_6, .int .u32 a0_7, .int .u32 a0_8] 124 (0, 0)) z6_3_) : gb419 ≠ gb418)); clear BK418 HB; rename_i BK418 HB BK419 GW419 GE419 NB418_419 NB419_418; clear hb hbox hg; have hnb9 := NB418_419.out; have hnc9 := NB419_418.out; obtain ⟨hcz10_0, hcz10_1, hcz10_2, hcz10_3, hcz10_4, hcz10_5, hcz10_6, hcz10_7, hcz10_8⟩ := bc9 BK418.out; obtain ⟨hfz10_0, hfz10_1, hfz10_2, hfz10_3, hfz10_4, hfz10_5, hfz10_6, hfz10_7, hfz10_8⟩ := bf9 BK418.out; obtain ⟨hcz11_0, hcz11_1, hcz11_2, hcz11_3, hcz11_4, hcz11_5, hcz11_6, hcz11_7, hcz11_8⟩ := bc9 BK419.out; obtain ⟨hfz11_0, hfz11_1, hfz11_2, hfz11_3, hfz11_4, hfz11_5, hfz11_6, hfz11_7, hfz11_8⟩ := bf9 BK419.out) | ((with_reducible refine gate_callee (f := 130) rfl ?_); refine goesL_ (some 19) rfl rfl Try.func130 (by kernel_rfl) rfl #[.agg #[.bool a0_2, .int .u32 a0_3, .int .u32 a0_4, .int .u32 a0_5, .int .u32 a0_6, .int .u32 a0_7, .int .u32 a0_8], .agg #[.bool a1_2, .int .u32 a1_3, .int .u32 a1_4, .int .u32 a1_5, .int .u32 a1_6, .int .u32 a1_7, .int .u32 a1_8]] rfl z6_11_ ?_; (with_reducible refine (laws_eqWide.calls k a0_2 a0_3 a0_4 a0_5 a0_6 a0_7 a0_8 a1_2 a1_3 a1_4 a1_5 a1_6 a1_7 a1_8 true _ A5.out).mono ?_); rintro e w12 ⟨rfl, hb⟩; refine ⟨_, rfl, ?_⟩; have _ := A_ (blk_below (g := gb418) (o := .cells #[.string a0_0, .int .i64 a0_1, .bool a0_2, .int .u32 a0_3, .int .u32 a0_4, .int .u32 a0_5, .int .u32 a0_6, .int .u32 a0_7, .int .u32 a0_8] 124 (0, 0)) z6_3_ hb); have _ := A_ (blk_below (g := gb419) (o := .cells #[.string a1_0, .int .i64 a1_1, .bool a1_2, .int .u32 a1_3, .int .u32 a1_4, .int .u32 a1_5, .int .u32 a1_6, .int .u32 a1_7, .int .u32 a1_8] 124 (0, 0)) z6_14_ hb); have _ := A_ (below_step z6_9_ hb); clear BK418 BK419 HB; rename_i BK418 BK419 HB; (try clear hb)))
    go_ret
    exact ⟨z6_8_, z6_9_⟩
   ·
    replace c6 := Bool.eq_false_iff.mpr c6
    subst c6
    have H1 := H; rw [if_neg (show ¬ (false = true) by decide)] at H1
    clear H
    have H := H1
    clear H1
    obtain rfl := Option.some.inj H
    go_enter Try.func102, Try.ntmps102
    go_wp2_with (first | ((with_reducible refine gate_dst (N := 2) rfl ?_); refine box_event ?hg (N := 2) ?hd (cs := #[.string a0_0, .int .i64 a0_1, .bool a0_2, .int .u32 a0_3, .int .u32 a0_4, .int .u32 a0_5, .int .u32 a0_6, .int .u32 a0_7, .int .u32 a0_8]) (t := 124) ?hr ?_; (case hd => rfl); (case hg => rfl); (case hr => first | (go_simp; done) | (go_simp; rfl)); intro gb418 hg w13 hbox hb; have _ := A_ (below_step z6_1_ hb); have _ := A_ (hbox); have _ := A_ ((by rw [hg]; exact (below_size z6_1_) : w.heap.size ≤ gb418)); have _ := A_ ((by rw [hg]; exact (below_size z6_1_) : w.heap.size ≤ gb418)); clear HB; rename_i HB BK418 GW418 GE418; clear hb hbox hg) | ((with_reducible refine gate_dst (N := 3) rfl ?_); refine box_event ?hg (N := 3) ?hd (cs := #[.string a1_0, .int .i64 a1_1, .bool a1_2, .int .u32 a1_3, .int .u32 a1_4, .int .u32 a1_5, .int .u32 a1_6, .int .u32 a1_7, .int .u32 a1_8]) (t := 124) ?hr ?_; (case hd => rfl); (case hg => rfl); (case hr => first | (go_simp; done) | (go_simp; rfl)); intro gb419 hg w14 hbox hb; have _ := A_ (blk_below (g := gb418) (o := .cells #[.string a0_0, .int .i64 a0_1, .bool a0_2, .int .u32 a0_3, .int .u32 a0_4, .int .u32 a0_5, .int .u32 a0_6, .int .u32 a0_7, .int .u32 a0_8] 124 (0, 0)) z6_3_ hb); have _ := A_ (below_step z6_2_ hb); have _ := A_ (hbox); have _ := A_ ((by rw [hg]; exact (below_size z6_2_) : w.heap.size ≤ gb419)); have _ := A_ ((by rw [hg]; exact (below_size z6_2_) : w.heap.size ≤ gb419)); have _ := A_ ((by rw [hg]; exact Nat.ne_of_lt (blk_lt (g := gb418) (o := .cells #[.string a0_0, .int .i64 a0_1, .bool a0_2, .int .u32 a0_3, .int .u32 a0_4, .int .u32 a0_5, .int .u32 a0_6, .int .u32 a0_7, .int .u32 a0_8] 124 (0, 0)) z6_3_) : gb418 ≠ gb419)); have _ := A_ ((by rw [hg]; exact Nat.ne_of_gt (blk_lt (g := gb418) (o := .cells #[.string a0_0, .int .i64 a0_1, .bool a0_2, .int .u32 a0_3, .int .u32 a0_4, .int .u32 a0_5, .int .u32 a0_6, .int .u32 a0_7, .int .u32 a0_8] 124 (0, 0)) z6_3_) : gb419 ≠ gb418)); clear BK418 HB; rename_i BK418 HB BK419 GW419 GE419 NB418_419 NB419_418; clear hb hbox hg; have hnb15 := NB418_419.out; have hnc15 := NB419_418.out; obtain ⟨hcz16_0, hcz16_1, hcz16_2, hcz16_3, hcz16_4, hcz16_5, hcz16_6, hcz16_7, hcz16_8⟩ := bc9 BK418.out; obtain ⟨hfz16_0, hfz16_1, hfz16_2, hfz16_3, hfz16_4, hfz16_5, hfz16_6, hfz16_7, hfz16_8⟩ := bf9 BK418.out; obtain ⟨hcz17_0, hcz17_1, hcz17_2, hcz17_3, hcz17_4, hcz17_5, hcz17_6, hcz17_7, hcz17_8⟩ := bc9 BK419.out; obtain ⟨hfz17_0, hfz17_1, hfz17_2, hfz17_3, hfz17_4, hfz17_5, hfz17_6, hfz17_7, hfz17_8⟩ := bf9 BK419.out) | ((with_reducible refine gate_callee (f := 130) rfl ?_); refine goesL_ (some 19) rfl rfl Try.func130 (by kernel_rfl) rfl #[.agg #[.bool a0_2, .int .u32 a0_3, .int .u32 a0_4, .int .u32 a0_5, .int .u32 a0_6, .int .u32 a0_7, .int .u32 a0_8], .agg #[.bool a1_2, .int .u32 a1_3, .int .u32 a1_4, .int .u32 a1_5, .int .u32 a1_6, .int .u32 a1_7, .int .u32 a1_8]] rfl z6_11_ ?_; (with_reducible refine (laws_eqWide.calls k a0_2 a0_3 a0_4 a0_5 a0_6 a0_7 a0_8 a1_2 a1_3 a1_4 a1_5 a1_6 a1_7 a1_8 false _ A5.out).mono ?_); rintro e w18 ⟨rfl, hb⟩; refine ⟨_, rfl, ?_⟩; have _ := A_ (blk_below (g := gb418) (o := .cells #[.string a0_0, .int .i64 a0_1, .bool a0_2, .int .u32 a0_3, .int .u32 a0_4, .int .u32 a0_5, .int .u32 a0_6, .int .u32 a0_7, .int .u32 a0_8] 124 (0, 0)) z6_3_ hb); have _ := A_ (blk_below (g := gb419) (o := .cells #[.string a1_0, .int .i64 a1_1, .bool a1_2, .int .u32 a1_3, .int .u32 a1_4, .int .u32 a1_5, .int .u32 a1_6, .int .u32 a1_7, .int .u32 a1_8] 124 (0, 0)) z6_14_ hb); have _ := A_ (below_step z6_9_ hb); clear BK418 BK419 HB; rename_i BK418 BK419 HB; (try clear hb)))
    go_ret
    exact ⟨z6_8_, z6_9_⟩
  ·
   rw [if_neg c4] at H
   have c4b0 : (a0_1 == a1_1) = false := beq_eq_false_iff_ne.mpr c4
   have c4b1 : (a0_1 != a1_1) = true := bne_iff_ne.mpr c4
   obtain rfl := Option.some.inj H
   go_enter Try.func102, Try.ntmps102
   go_wp2_with (first | ((with_reducible refine gate_dst (N := 2) rfl ?_); refine box_event ?hg (N := 2) ?hd (cs := #[.string a0_0, .int .i64 a0_1, .bool a0_2, .int .u32 a0_3, .int .u32 a0_4, .int .u32 a0_5, .int .u32 a0_6, .int .u32 a0_7, .int .u32 a0_8]) (t := 124) ?hr ?_; (case hd => rfl); (case hg => rfl); (case hr => first | (go_simp; done) | (go_simp; rfl)); intro gb418 hg w19 hbox hb; have _ := A_ (below_step z6_1_ hb); have _ := A_ (hbox); have _ := A_ ((by rw [hg]; exact (below_size z6_1_) : w.heap.size ≤ gb418)); have _ := A_ ((by rw [hg]; exact (below_size z6_1_) : w.heap.size ≤ gb418)); clear HB; rename_i HB BK418 GW418 GE418; clear hb hbox hg) | ((with_reducible refine gate_dst (N := 3) rfl ?_); refine box_event ?hg (N := 3) ?hd (cs := #[.string a1_0, .int .i64 a1_1, .bool a1_2, .int .u32 a1_3, .int .u32 a1_4, .int .u32 a1_5, .int .u32 a1_6, .int .u32 a1_7, .int .u32 a1_8]) (t := 124) ?hr ?_; (case hd => rfl); (case hg => rfl); (case hr => first | (go_simp; done) | (go_simp; rfl)); intro gb419 hg w20 hbox hb; have _ := A_ (blk_below (g := gb418) (o := .cells #[.string a0_0, .int .i64 a0_1, .bool a0_2, .int .u32 a0_3, .int .u32 a0_4, .int .u32 a0_5, .int .u32 a0_6, .int .u32 a0_7, .int .u32 a0_8] 124 (0, 0)) z6_3_ hb); have _ := A_ (below_step z6_2_ hb); have _ := A_ (hbox); have _ := A_ ((by rw [hg]; exact (below_size z6_2_) : w.heap.size ≤ gb419)); have _ := A_ ((by rw [hg]; exact (below_size z6_2_) : w.heap.size ≤ gb419)); have _ := A_ ((by rw [hg]; exact Nat.ne_of_lt (blk_lt (g := gb418) (o := .cells #[.string a0_0, .int .i64 a0_1, .bool a0_2, .int .u32 a0_3, .int .u32 a0_4, .int .u32 a0_5, .int .u32 a0_6, .int .u32 a0_7, .int .u32 a0_8] 124 (0, 0)) z6_3_) : gb418 ≠ gb419)); have _ := A_ ((by rw [hg]; exact Nat.ne_of_gt (blk_lt (g := gb418) (o := .cells #[.string a0_0, .int .i64 a0_1, .bool a0_2, .int .u32 a0_3, .int .u32 a0_4, .int .u32 a0_5, .int .u32 a0_6, .int .u32 a0_7, .int .u32 a0_8] 124 (0, 0)) z6_3_) : gb419 ≠ gb418)); clear BK418 HB; rename_i BK418 HB BK419 GW419 GE419 NB418_419 NB419_418; clear hb hbox hg; have hnb21 := NB418_419.out; have hnc21 := NB419_418.out; obtain ⟨hcz22_0, hcz22_1, hcz22_2, hcz22_3, hcz22_4, hcz22_5, hcz22_6, hcz22_7, hcz22_8⟩ := bc9 BK418.out; obtain ⟨hfz22_0, hfz22_1, hfz22_2, hfz22_3, hfz22_4, hfz22_5, hfz22_6, hfz22_7, hfz22_8⟩ := bf9 BK418.out; obtain ⟨hcz23_0, hcz23_1, hcz23_2, hcz23_3, hcz23_4, hcz23_5, hcz23_6, hcz23_7, hcz23_8⟩ := bc9 BK419.out; obtain ⟨hfz23_0, hfz23_1, hfz23_2, hfz23_3, hfz23_4, hfz23_5, hfz23_6, hfz23_7, hfz23_8⟩ := bf9 BK419.out))
   go_ret
   exact ⟨z6_8_, z6_9_⟩
 ·
  rw [if_neg c3] at H
  have c3b0 : (a0_0.toList == a1_0.toList) = false := beq_eq_false_iff_ne.mpr c3
  have c3b1 : (a0_0.toList != a1_0.toList) = true := bne_iff_ne.mpr c3
  obtain rfl := Option.some.inj H
  go_enter Try.func102, Try.ntmps102
  go_wp2_with (first | ((with_reducible refine gate_dst (N := 2) rfl ?_); refine box_event ?hg (N := 2) ?hd (cs := #[.string a0_0, .int .i64 a0_1, .bool a0_2, .int .u32 a0_3, .int .u32 a0_4, .int .u32 a0_5, .int .u32 a0_6, .int .u32 a0_7, .int .u32 a0_8]) (t := 124) ?hr ?_; (case hd => rfl); (case hg => rfl); (case hr => first | (go_simp; done) | (go_simp; rfl)); intro gb418 hg w24 hbox hb; have _ := A_ (below_step z6_1_ hb); have _ := A_ (hbox); have _ := A_ ((by rw [hg]; exact (below_size z6_1_) : w.heap.size ≤ gb418)); have _ := A_ ((by rw [hg]; exact (below_size z6_1_) : w.heap.size ≤ gb418)); clear HB; rename_i HB BK418 GW418 GE418; clear hb hbox hg) | ((with_reducible refine gate_dst (N := 3) rfl ?_); refine box_event ?hg (N := 3) ?hd (cs := #[.string a1_0, .int .i64 a1_1, .bool a1_2, .int .u32 a1_3, .int .u32 a1_4, .int .u32 a1_5, .int .u32 a1_6, .int .u32 a1_7, .int .u32 a1_8]) (t := 124) ?hr ?_; (case hd => rfl); (case hg => rfl); (case hr => first | (go_simp; done) | (go_simp; rfl)); intro gb419 hg w25 hbox hb; have _ := A_ (blk_below (g := gb418) (o := .cells #[.string a0_0, .int .i64 a0_1, .bool a0_2, .int .u32 a0_3, .int .u32 a0_4, .int .u32 a0_5, .int .u32 a0_6, .int .u32 a0_7, .int .u32 a0_8] 124 (0, 0)) z6_3_ hb); have _ := A_ (below_step z6_2_ hb); have _ := A_ (hbox); have _ := A_ ((by rw [hg]; exact (below_size z6_2_) : w.heap.size ≤ gb419)); have _ := A_ ((by rw [hg]; exact (below_size z6_2_) : w.heap.size ≤ gb419)); have _ := A_ ((by rw [hg]; exact Nat.ne_of_lt (blk_lt (g := gb418) (o := .cells #[.string a0_0, .int .i64 a0_1, .bool a0_2, .int .u32 a0_3, .int .u32 a0_4, .int .u32 a0_5, .int .u32 a0_6, .int .u32 a0_7, .int .u32 a0_8] 124 (0, 0)) z6_3_) : gb418 ≠ gb419)); have _ := A_ ((by rw [hg]; exact Nat.ne_of_gt (blk_lt (g := gb418) (o := .cells #[.string a0_0, .int .i64 a0_1, .bool a0_2, .int .u32 a0_3, .int .u32 a0_4, .int .u32 a0_5, .int .u32 a0_6, .int .u32 a0_7, .int .u32 a0_8] 124 (0, 0)) z6_3_) : gb419 ≠ gb418)); clear BK418 HB; rename_i BK418 HB BK419 GW419 GE419 NB418_419 NB419_418; clear hb hbox hg; have hnb26 := NB418_419.out; have hnc26 := NB419_418.out; obtain ⟨hcz27_0, hcz27_1, hcz27_2, hcz27_3, hcz27_4, hcz27_5, hcz27_6, hcz27_7, hcz27_8⟩ := bc9 BK418.out; obtain ⟨hfz27_0, hfz27_1, hfz27_2, hfz27_3, hfz27_4, hfz27_5, hfz27_6, hfz27_7, hfz27_8⟩ := bf9 BK418.out; obtain ⟨hcz28_0, hcz28_1, hcz28_2, hcz28_3, hcz28_4, hcz28_5, hcz28_6, hcz28_7, hcz28_8⟩ := bc9 BK419.out; obtain ⟨hfz28_0, hfz28_1, hfz28_2, hfz28_3, hfz28_4, hfz28_5, hfz28_6, hfz28_7, hfz28_8⟩ := bf9 BK419.out))
  go_ret
  exact ⟨z6_8_, z6_9_⟩
/-! ### laws_eqKeptS: function 59 -/
def laws_eqKeptS.l0 : Nat → List (S124) → List (S124) → Int → Option (Bool)
 | 0, _, _, _ => none
 | k + 1, x0, x1, x5 => if x5 < (x0.length : Int) then (if 0 ≤ x5 then (if x5 < (x1.length : Int) then ((laws_eqKept.f k ((rd_T124 x0 x5).f0) ((rd_T124 x0 x5).f1) ((rd_T124 x0 x5).f2.f0) ((rd_T124 x0 x5).f2.f1.f0) ((rd_T124 x0 x5).f2.f1.f1) ((rd_T124 x0 x5).f2.f1.f2) ((rd_T124 x0 x5).f2.f1.f3) ((rd_T124 x0 x5).f2.f1.f4) ((rd_T124 x0 x5).f2.f1.f5) ((rd_T124 x1 x5).f0) ((rd_T124 x1 x5).f1) ((rd_T124 x1 x5).f2.f0) ((rd_T124 x1 x5).f2.f1.f0) ((rd_T124 x1 x5).f2.f1.f1) ((rd_T124 x1 x5).f2.f1.f2) ((rd_T124 x1 x5).f2.f1.f3) ((rd_T124 x1 x5).f2.f1.f4) ((rd_T124 x1 x5).f2.f1.f5)).bind fun t423 => (if t423 = true then (laws_eqKeptS.l0 k x0 x1 (wrap64 (x5 + 1))) else (some false))) else (none)) else (none)) else (some true)
def laws_eqKeptS.f (k : Nat) (l0 : List (S124)) (l1 : List (S124)) : Option (Bool) := if (l0.length : Int) = (l1.length : Int) then (laws_eqKeptS.l0 k l0 l1 0) else (some false)
theorem laws_eqKeptS.mono_l : ∀ k, (∀ y0 y1 y2, LeO (laws_eqKeptS.l0 k y0 y1 y2) (laws_eqKeptS.l0 (k + 1) y0 y1 y2))
 | 0 => fun _ _ _ r h => by simp [laws_eqKeptS.l0] at h
 | k + 1 => by
  have ih0 := laws_eqKeptS.mono_l k
  ·
   intro y0 y1 y2
   unfold laws_eqKeptS.l0
   repeat' first
   | (with_reducible exact ih0 _ _ _)
   | (with_reducible exact laws_eqKept.mono _ _ _ _ _ _ _ _ _ _ _ _ _ _ _ _ _ _ _)
   | (with_reducible exact LeO.refl _)
   | (with_reducible exact LeO.none _)
   | (with_reducible refine LeO.ite ?_ ?_)
   | (with_reducible refine LeO.bind ?_ (fun _ => ?_))
   | exact ih0 _ _ _
   | exact LeO.none _
   | refine LeO.ite ?_ ?_
   | refine LeO.bind ?_ (fun _ => ?_)
theorem laws_eqKeptS.mono : ∀ a0 a1 k, LeO (laws_eqKeptS.f k a0 a1) (laws_eqKeptS.f (k + 1) a0 a1) := by
 intro a0 a1 k
 have ih0 := laws_eqKeptS.mono_l k
 unfold laws_eqKeptS.f
 repeat' first
   | (with_reducible exact ih0 _ _ _)
   | (with_reducible exact laws_eqKept.mono _ _ _ _ _ _ _ _ _ _ _ _ _ _ _ _ _ _ _)
   | (with_reducible exact LeO.refl _)
   | (with_reducible exact LeO.none _)
   | (with_reducible refine LeO.ite ?_ ?_)
   | (with_reducible refine LeO.bind ?_ (fun _ => ?_))
   | exact ih0 _ _ _
   | exact LeO.none _
   | refine LeO.ite ?_ ?_
   | refine LeO.bind ?_ (fun _ => ?_)
def laws_eqKeptS.T6 : Bool × List (List Nat × List Nat) := (true, [([], []), ([], []), ([0, 1], [0, 1]), ([2], [2]), ([], []), ([], []), ([4, 5], [4, 5]), ([6], [6]), ([3, 7], [3, 7]), ([8], [8])])
def laws_eqKeptS.B6 : List Nat := [0, 0, 3, 7, 0, 0, 48, 112, 255, 511]
theorem laws_eqKeptS.tab6 : rtab .any (opsOf Try.f59 6) = laws_eqKeptS.T6 := by kernel_rfl
theorem laws_eqKeptS.bits6 : waitsOk laws_eqKeptS.T6.2 laws_eqKeptS.B6 = true := by kernel_rfl
set_option maxHeartbeats 8000000 in
set_option maxRecDepth 100000 in
theorem laws_eqKeptS.calls (k : Nat) (A0 : Option Addr) (c0 : Nat) (l0 : List (S124)) (A1 : Option Addr) (c1 : Nat) (l1 : List (S124)) (r : Bool) (w : World) (hr0 : Kd.C k124 w A0 l0.length l0) (hc0 : l0.length ≤ c0) (hr1 : Kd.C k124 w A1 l1.length l1) (hc1 : l1.length ≤ c1) (h : laws_eqKeptS.f k l0 l1 = some r) :
  Calls Try.prog 59 #[.slice A0 l0.length c0, .slice A1 l1.length c1] w fun e w' => e = .returned (.bool r) ∧ Below w.heap.size w w' := by
 have hu124 := Try.underlying124
 have HR0 := A_ hr0
 have HC0 := A_ hc0
 clear hr0 hc0
 have HR1 := A_ hr1
 have HC1 := A_ hc1
 clear hr1 hc1
 have HB := A_ (Below.refl w.heap.size w)
 have H : (if (l0.length : Int) = (l1.length : Int) then (laws_eqKeptS.l0 k l0 l1 0) else (some false)) = some r := h
 clear h
 by_cases c3 : (l0.length : Int) = (l1.length : Int)
 ·
  rw [if_pos c3] at H
  have c3b0 := beq_iff_eq.mpr c3
  have c3b1 := bne_eq_false_iff_eq.mpr c3
  have c3b2 : (l0.length == l1.length) = true := by first | simpa using c3 | (simp at c3 ⊢; omega)
  clear c3
  have H' := A_ H
  clear H
  go_enter Try.func59, Try.ntmps59
  go_wp2
  go_loopg [5] k (fun kq v5 w' => ∃ (x5_1 : Int), v5 = .int .i64 x5_1 ∧ Aside0 (laws_eqKeptS.l0 kq l0 l1 x5_1 = some r) ∧ Aside0 (kq ≤ k) ∧ Aside0 (Below w.heap.size w w'))
  case atStart => exact ⟨(0), z6_13_, H', ⟨Nat.le_refl _⟩, ⟨z6_1_⟩⟩
  case round =>
   clear H'
   try clear c1
   try clear p2
   try clear c3
   try clear c3b0
   try clear c3b1
   try clear c3b2
   obtain ⟨x5_1, rfl, HA, HK1, HB⟩ := hrel
   cases gk with
   | zero => exact absurd HA.out (by simp [laws_eqKeptS.l0])
   | succ k1 =>
    have H := HA.out
    clear HA
    simp only [laws_eqKeptS.l0] at H
    by_cases c4 : x5_1 < (l0.length : Int)
    ·
     rw [if_pos c4] at H
     have c4b0 := decide_eq_true c4
     clear c4
     by_cases c5 : 0 ≤ x5_1
     ·
      rw [if_pos c5] at H
      have c5b0 := decide_eq_true c5
      clear c5
      by_cases c6 : x5_1 < (l1.length : Int)
      ·
       rw [if_pos c6] at H
       have c6b0 := decide_eq_true c6
       clear c6
       replace H := Option.bind_eq_some_iff.mp H
       obtain ⟨t423, A70, H⟩ := H
       try dsimp only at H
       have A7 := A_ A70
       clear A70
       by_cases c8 : t423 = true
       ·
        subst c8
        have H1 := H; rw [if_pos rfl] at H1
        clear H
        have H := H1
        clear H1
        have H' := A_ H
        clear H
        try go_wp2
        have _ := A_ (below_drew1 HB.out)
        clear HB
        rename_i HB
        have p421 : 0 ≤ (x5_1 : Int) := of_decide_eq_true (by assumption)
        have q421 : x5_1 < (l0.length : Int) := of_decide_eq_true (by assumption)
        obtain ⟨ad421, e421, hx421_0, hx421_1, hx421_2, hx421_3, hx421_4, hx421_5, hx421_6, hx421_7, hx421_8⟩ := at_T124 HR0.out x5_1 p421 q421
        have hw421_8 := hx421_8
        have hw421_7 := hx421_7
        have hw421_6 := hx421_6
        have hw421_5 := hx421_5
        have hw421_4 := hx421_4
        have hw421_3 := hx421_3
        have hw421_2 := hx421_2
        have hw421_1 := hx421_1
        have hw421_0 := hx421_0
        cases e421
        replace hx421_0 := cel HB.out hx421_0
        replace hx421_1 := cel HB.out hx421_1
        replace hx421_2 := cel HB.out hx421_2
        replace hx421_3 := cel HB.out hx421_3
        replace hx421_4 := cel HB.out hx421_4
        replace hx421_5 := cel HB.out hx421_5
        replace hx421_6 := cel HB.out hx421_6
        replace hx421_7 := cel HB.out hx421_7
        replace hx421_8 := cel HB.out hx421_8
        replace p421 := eq_true p421
        replace q421 := eq_true q421
        have p422 : 0 ≤ (x5_1 : Int) := of_decide_eq_true (by assumption)
        have q422 : x5_1 < (l1.length : Int) := of_decide_eq_true (by assumption)
        obtain ⟨ad422, e422, hx422_0, hx422_1, hx422_2, hx422_3, hx422_4, hx422_5, hx422_6, hx422_7, hx422_8⟩ := at_T124 HR1.out x5_1 p422 q422
        have hw422_8 := hx422_8
        have hw422_7 := hx422_7
        have hw422_6 := hx422_6
        have hw422_5 := hx422_5
        have hw422_4 := hx422_4
        have hw422_3 := hx422_3
        have hw422_2 := hx422_2
        have hw422_1 := hx422_1
        have hw422_0 := hx422_0
        cases e422
        replace hx422_0 := cel HB.out hx422_0
        replace hx422_1 := cel HB.out hx422_1
        replace hx422_2 := cel HB.out hx422_2
        replace hx422_3 := cel HB.out hx422_3
        replace hx422_4 := cel HB.out hx422_4
        replace hx422_5 := cel HB.out hx422_5
        replace hx422_6 := cel HB.out hx422_6
        replace hx422_7 := cel HB.out hx422_7
        replace hx422_8 := cel HB.out hx422_8
        replace p422 := eq_true p422
        replace q422 := eq_true q422
        refine start_ (n := 10) (S := fun w' => w'.cell? (ad421.add ((x5_1).toNat * 9)) = some (.string ((rd_T124 l0 x5_1).f0)) ∧ w'.cell? ⟨(ad421.add ((x5_1).toNat * 9)).block, (ad421.add ((x5_1).toNat * 9)).off + 1, none⟩ = some (.int .i64 ((rd_T124 l0 x5_1).f1)) ∧ w'.cell? ⟨(ad421.add ((x5_1).toNat * 9)).block, (ad421.add ((x5_1).toNat * 9)).off + 2, none⟩ = some (.bool ((rd_T124 l0 x5_1).f2.f0)) ∧ w'.cell? ⟨(ad421.add ((x5_1).toNat * 9)).block, (ad421.add ((x5_1).toNat * 9)).off + 3, none⟩ = some (.int .u32 ((rd_T124 l0 x5_1).f2.f1.f0)) ∧ w'.cell? ⟨(ad421.add ((x5_1).toNat * 9)).block, (ad421.add ((x5_1).toNat * 9)).off + 4, none⟩ = some (.int .u32 ((rd_T124 l0 x5_1).f2.f1.f1)) ∧ w'.cell? ⟨(ad421.add ((x5_1).toNat * 9)).block, (ad421.add ((x5_1).toNat * 9)).off + 5, none⟩ = some (.int .u32 ((rd_T124 l0 x5_1).f2.f1.f2)) ∧ w'.cell? ⟨(ad421.add ((x5_1).toNat * 9)).block, (ad421.add ((x5_1).toNat * 9)).off + 6, none⟩ = some (.int .u32 ((rd_T124 l0 x5_1).f2.f1.f3)) ∧ w'.cell? ⟨(ad421.add ((x5_1).toNat * 9)).block, (ad421.add ((x5_1).toNat * 9)).off + 7, none⟩ = some (.int .u32 ((rd_T124 l0 x5_1).f2.f1.f4)) ∧ w'.cell? ⟨(ad421.add ((x5_1).toNat * 9)).block, (ad421.add ((x5_1).toNat * 9)).off + 8, none⟩ = some (.int .u32 ((rd_T124 l0 x5_1).f2.f1.f5)) ∧ w'.cell? (ad422.add ((x5_1).toNat * 9)) = some (.string ((rd_T124 l1 x5_1).f0)) ∧ w'.cell? ⟨(ad422.add ((x5_1).toNat * 9)).block, (ad422.add ((x5_1).toNat * 9)).off + 1, none⟩ = some (.int .i64 ((rd_T124 l1 x5_1).f1)) ∧ w'.cell? ⟨(ad422.add ((x5_1).toNat * 9)).block, (ad422.add ((x5_1).toNat * 9)).off + 2, none⟩ = some (.bool ((rd_T124 l1 x5_1).f2.f0)) ∧ w'.cell? ⟨(ad422.add ((x5_1).toNat * 9)).block, (ad422.add ((x5_1).toNat * 9)).off + 3, none⟩ = some (.int .u32 ((rd_T124 l1 x5_1).f2.f1.f0)) ∧ w'.cell? ⟨(ad422.add ((x5_1).toNat * 9)).block, (ad422.add ((x5_1).toNat * 9)).off + 4, none⟩ = some (.int .u32 ((rd_T124 l1 x5_1).f2.f1.f1)) ∧ w'.cell? ⟨(ad422.add ((x5_1).toNat * 9)).block, (ad422.add ((x5_1).toNat * 9)).off + 5, none⟩ = some (.int .u32 ((rd_T124 l1 x5_1).f2.f1.f2)) ∧ w'.cell? ⟨(ad422.add ((x5_1).toNat * 9)).block, (ad422.add ((x5_1).toNat * 9)).off + 6, none⟩ = some (.int .u32 ((rd_T124 l1 x5_1).f2.f1.f3)) ∧ w'.cell? ⟨(ad422.add ((x5_1).toNat * 9)).block, (ad422.add ((x5_1).toNat * 9)).off + 7, none⟩ = some (.int .u32 ((rd_T124 l1 x5_1).f2.f1.f4)) ∧ w'.cell? ⟨(ad422.add ((x5_1).toNat * 9)).block, (ad422.add ((x5_1).toNat * 9)).off + 8, none⟩ = some (.int .u32 ((rd_T124 l1 x5_1).f2.f1.f5))) (ds := []) #[false, false, false, false, false, false, false, false, false, false] (by kernel_rfl) rfl rfl ⟨(cel HB.out hw421_0), (cel HB.out hw421_1), (cel HB.out hw421_2), (cel HB.out hw421_3), (cel HB.out hw421_4), (cel HB.out hw421_5), (cel HB.out hw421_6), (cel HB.out hw421_7), (cel HB.out hw421_8), (cel HB.out hw422_0), (cel HB.out hw422_1), (cel HB.out hw422_2), (cel HB.out hw422_3), (cel HB.out hw422_4), (cel HB.out hw422_5), (cel HB.out hw422_6), (cel HB.out hw422_7), (cel HB.out hw422_8)⟩ (fun hHeld => ?_); refine with_tabW laws_eqKeptS.tab6 laws_eqKeptS.bits6 (fun HT_ HW_ => ?_)
        generalize wr.drew = w9 at HB hx421_0 hx421_1 hx421_2 hx421_3 hx421_4 hx421_5 hx421_6 hx421_7 hx421_8 hx422_0 hx422_1 hx422_2 hx422_3 hx422_4 hx422_5 hx422_6 hx422_7 hx422_8 hHeld ⊢
        refine pure_ (i := 0) (N := some 17) (v := ?_) (a' := ?_) #[true, false, false, false, false, false, false, false, false, false] rfl rfl (any_of HT_.out (by kernel_rfl)) (fun _ _ _ h => h) (Or.inl ⟨by rfl, ?_⟩) ?_ ?_
        rotate_left
        ·
         intro w'
         go_simp
         with_reducible rfl
        rotate_left
        ·
         simp only [Act.put, sA_, sB_, sC_, i64_w, i32_w]
         rfl
        refine pure_ (i := 1) (N := some 18) (v := ?_) (a' := ?_) #[true, true, false, false, false, false, false, false, false, false] rfl rfl (any_of HT_.out (by kernel_rfl)) (fun _ _ _ h => h) (Or.inl ⟨by rfl, ?_⟩) ?_ ?_
        rotate_left
        ·
         intro w'
         go_simp
         with_reducible rfl
        rotate_left
        ·
         simp only [Act.put, sA_, sB_, sC_, i64_w, i32_w]
         rfl
        refine pure_ (i := 2) (N := some 19) (v := ?_) (a' := ?_) #[true, true, true, false, false, false, false, false, false, false] rfl rfl (any_of HT_.out (by kernel_rfl)) (fun _ _ _ h => h) (Or.inl ⟨by rfl, ?_⟩) ?_ ?_
        rotate_left
        ·
         intro w'
         go_simp
         with_reducible rfl
        rotate_left
        ·
         simp only [Act.put, sA_, sB_, sC_, i64_w, i32_w]
         rfl
        refine pure_ (i := 4) (N := some 21) (v := ?_) (a' := ?_) #[true, true, true, false, true, false, false, false, false, false] rfl rfl (any_of HT_.out (by kernel_rfl)) (fun _ _ _ h => h) (Or.inl ⟨by rfl, ?_⟩) ?_ ?_
        rotate_left
        ·
         intro w'
         go_simp
         with_reducible rfl
        rotate_left
        ·
         simp only [Act.put, sA_, sB_, sC_, i64_w, i32_w]
         rfl
        refine pure_ (i := 5) (N := some 22) (v := ?_) (a' := ?_) #[true, true, true, false, true, true, false, false, false, false] rfl rfl (any_of HT_.out (by kernel_rfl)) (fun _ _ _ h => h) (Or.inl ⟨by rfl, ?_⟩) ?_ ?_
        rotate_left
        ·
         intro w'
         go_simp
         with_reducible rfl
        rotate_left
        ·
         simp only [Act.put, sA_, sB_, sC_, i64_w, i32_w]
         rfl
        refine pure_ (i := 6) (N := some 23) (v := ?_) (a' := ?_) #[true, true, true, false, true, true, true, false, false, false] rfl rfl (any_of HT_.out (by kernel_rfl)) (fun _ _ _ h => h) (Or.inl ⟨by rfl, ?_⟩) ?_ ?_
        rotate_left
        ·
         intro w'
         go_simp
         with_reducible rfl
        rotate_left
        ·
         simp only [Act.put, sA_, sB_, sC_, i64_w, i32_w]
         rfl
        refine take_ (i := 3) (N := some 20) (v := ?_) (a' := ?_) #[true, true, true, true, true, true, true, false, false, false] rfl rfl (take_ofW HT_.out HW_.out (by kernel_rfl)) (fun _ _ _ h => h) (Or.inl ⟨by rfl, ?_⟩) hHeld ?_ ?_
        rotate_left
        ·
         rintro w' ⟨s0, s1, s2, s3, s4, s5, s6, s7, s8, s9, s10, s11, s12, s13, s14, s15, s16, s17⟩
         go_simp
         with_reducible rfl
        rotate_left
        ·
         simp only [Act.put, sA_, sB_, sC_, i64_w, i32_w]
         rfl
        refine take_ (i := 7) (N := some 24) (v := ?_) (a' := ?_) #[true, true, true, true, true, true, true, true, false, false] rfl rfl (take_ofW HT_.out HW_.out (by kernel_rfl)) (fun _ _ _ h => h) (Or.inl ⟨by rfl, ?_⟩) hHeld ?_ ?_
        rotate_left
        ·
         rintro w' ⟨s0, s1, s2, s3, s4, s5, s6, s7, s8, s9, s10, s11, s12, s13, s14, s15, s16, s17⟩
         go_simp
         with_reducible rfl
        rotate_left
        ·
         simp only [Act.put, sA_, sB_, sC_, i64_w, i32_w]
         rfl
        refine one_ (i := 8) (N := some 25) #[true, true, true, true, true, true, true, true, true, false] rfl rfl (one_of HT_.out (by kernel_rfl)) (by decide) (fun K hK => ?_)
        refine goes_ Try.func102 (by kernel_rfl) rfl #[.agg #[.string ((rd_T124 l0 x5_1).f0), .int .i64 ((rd_T124 l0 x5_1).f1), .bool ((rd_T124 l0 x5_1).f2.f0), .int .u32 ((rd_T124 l0 x5_1).f2.f1.f0), .int .u32 ((rd_T124 l0 x5_1).f2.f1.f1), .int .u32 ((rd_T124 l0 x5_1).f2.f1.f2), .int .u32 ((rd_T124 l0 x5_1).f2.f1.f3), .int .u32 ((rd_T124 l0 x5_1).f2.f1.f4), .int .u32 ((rd_T124 l0 x5_1).f2.f1.f5)], .agg #[.string ((rd_T124 l1 x5_1).f0), .int .i64 ((rd_T124 l1 x5_1).f1), .bool ((rd_T124 l1 x5_1).f2.f0), .int .u32 ((rd_T124 l1 x5_1).f2.f1.f0), .int .u32 ((rd_T124 l1 x5_1).f2.f1.f1), .int .u32 ((rd_T124 l1 x5_1).f2.f1.f2), .int .u32 ((rd_T124 l1 x5_1).f2.f1.f3), .int .u32 ((rd_T124 l1 x5_1).f2.f1.f4), .int .u32 ((rd_T124 l1 x5_1).f2.f1.f5)]] (by rfl) rfl rfl z6_11_ ?_
        with_reducible refine (laws_eqKept.calls k1 ((rd_T124 l0 x5_1).f0) ((rd_T124 l0 x5_1).f1) ((rd_T124 l0 x5_1).f2.f0) ((rd_T124 l0 x5_1).f2.f1.f0) ((rd_T124 l0 x5_1).f2.f1.f1) ((rd_T124 l0 x5_1).f2.f1.f2) ((rd_T124 l0 x5_1).f2.f1.f3) ((rd_T124 l0 x5_1).f2.f1.f4) ((rd_T124 l0 x5_1).f2.f1.f5) ((rd_T124 l1 x5_1).f0) ((rd_T124 l1 x5_1).f1) ((rd_T124 l1 x5_1).f2.f0) ((rd_T124 l1 x5_1).f2.f1.f0) ((rd_T124 l1 x5_1).f2.f1.f1) ((rd_T124 l1 x5_1).f2.f1.f2) ((rd_T124 l1 x5_1).f2.f1.f3) ((rd_T124 l1 x5_1).f2.f1.f4) ((rd_T124 l1 x5_1).f2.f1.f5) true _ A7.out).mono ?_
        rintro e w10 ⟨rfl, hb⟩
        refine ⟨_, rfl, ?_⟩
        have _ := A_ (below_step z6_1_ hb)
        clear HB
        rename_i HB
        (try clear hb)
        (try clear hb2)
        (try clear hk)
        (try clear hi)
        refine hK.out _ _ ⟨(cel HB.out hw421_0), (cel HB.out hw421_1), (cel HB.out hw421_2), (cel HB.out hw421_3), (cel HB.out hw421_4), (cel HB.out hw421_5), (cel HB.out hw421_6), (cel HB.out hw421_7), (cel HB.out hw421_8), (cel HB.out hw422_0), (cel HB.out hw422_1), (cel HB.out hw422_2), (cel HB.out hw422_3), (cel HB.out hw422_4), (cel HB.out hw422_5), (cel HB.out hw422_6), (cel HB.out hw422_7), (cel HB.out hw422_8)⟩ (fun hHeld => ?_)
        clear hK K
        refine norm_ (a' := ?_) ?_ ?_
        rotate_left
        ·
         show Act.put _ (some 25) _ = _
         simp only [Act.put, sA_, sB_, sC_, i64_w, i32_w]
         rfl
        refine pure_ (i := 9) (N := some 26) (v := ?_) (a' := ?_) #[true, true, true, true, true, true, true, true, true, true] rfl rfl (any_of HT_.out (by kernel_rfl)) (fun _ _ _ h => h) (Or.inl ⟨by rfl, ?_⟩) ?_ ?_
        rotate_left
        ·
         intro w'
         go_simp
         with_reducible rfl
        rotate_left
        ·
         simp only [Act.put, sA_, sB_, sC_, i64_w, i32_w]
         rfl
        refine done_ (done_of HT_.out (by kernel_rfl)) ?_
        try go_wp2
        go_roundg k1
        case measure => have := HK1.out; omega
        case rel => exact ⟨(wrap64 (x5_1 + 1)), z6_13_, H', ⟨(by have := HK1.out; omega)⟩, ⟨z6_1_⟩⟩
       ·
        replace c8 := Bool.eq_false_iff.mpr c8
        subst c8
        have H1 := H; rw [if_neg (show ¬ (false = true) by decide)] at H1
        clear H
        have H := H1
        clear H1
        obtain rfl := Option.some.inj H
        try go_wp2
        have _ := A_ (below_drew1 HB.out)
        clear HB
        rename_i HB
        have p421 : 0 ≤ (x5_1 : Int) := of_decide_eq_true (by assumption)
        have q421 : x5_1 < (l0.length : Int) := of_decide_eq_true (by assumption)
        obtain ⟨ad421, e421, hx421_0, hx421_1, hx421_2, hx421_3, hx421_4, hx421_5, hx421_6, hx421_7, hx421_8⟩ := at_T124 HR0.out x5_1 p421 q421
        have hw421_8 := hx421_8
        have hw421_7 := hx421_7
        have hw421_6 := hx421_6
        have hw421_5 := hx421_5
        have hw421_4 := hx421_4
        have hw421_3 := hx421_3
        have hw421_2 := hx421_2
        have hw421_1 := hx421_1
        have hw421_0 := hx421_0
        cases e421
        replace hx421_0 := cel HB.out hx421_0
        replace hx421_1 := cel HB.out hx421_1
        replace hx421_2 := cel HB.out hx421_2
        replace hx421_3 := cel HB.out hx421_3
        replace hx421_4 := cel HB.out hx421_4
        replace hx421_5 := cel HB.out hx421_5
        replace hx421_6 := cel HB.out hx421_6
        replace hx421_7 := cel HB.out hx421_7
        replace hx421_8 := cel HB.out hx421_8
        replace p421 := eq_true p421
        replace q421 := eq_true q421
        have p422 : 0 ≤ (x5_1 : Int) := of_decide_eq_true (by assumption)
        have q422 : x5_1 < (l1.length : Int) := of_decide_eq_true (by assumption)
        obtain ⟨ad422, e422, hx422_0, hx422_1, hx422_2, hx422_3, hx422_4, hx422_5, hx422_6, hx422_7, hx422_8⟩ := at_T124 HR1.out x5_1 p422 q422
        have hw422_8 := hx422_8
        have hw422_7 := hx422_7
        have hw422_6 := hx422_6
        have hw422_5 := hx422_5
        have hw422_4 := hx422_4
        have hw422_3 := hx422_3
        have hw422_2 := hx422_2
        have hw422_1 := hx422_1
        have hw422_0 := hx422_0
        cases e422
        replace hx422_0 := cel HB.out hx422_0
        replace hx422_1 := cel HB.out hx422_1
        replace hx422_2 := cel HB.out hx422_2
        replace hx422_3 := cel HB.out hx422_3
        replace hx422_4 := cel HB.out hx422_4
        replace hx422_5 := cel HB.out hx422_5
        replace hx422_6 := cel HB.out hx422_6
        replace hx422_7 := cel HB.out hx422_7
        replace hx422_8 := cel HB.out hx422_8
        replace p422 := eq_true p422
        replace q422 := eq_true q422
        refine start_ (n := 10) (S := fun w' => w'.cell? (ad421.add ((x5_1).toNat * 9)) = some (.string ((rd_T124 l0 x5_1).f0)) ∧ w'.cell? ⟨(ad421.add ((x5_1).toNat * 9)).block, (ad421.add ((x5_1).toNat * 9)).off + 1, none⟩ = some (.int .i64 ((rd_T124 l0 x5_1).f1)) ∧ w'.cell? ⟨(ad421.add ((x5_1).toNat * 9)).block, (ad421.add ((x5_1).toNat * 9)).off + 2, none⟩ = some (.bool ((rd_T124 l0 x5_1).f2.f0)) ∧ w'.cell? ⟨(ad421.add ((x5_1).toNat * 9)).block, (ad421.add ((x5_1).toNat * 9)).off + 3, none⟩ = some (.int .u32 ((rd_T124 l0 x5_1).f2.f1.f0)) ∧ w'.cell? ⟨(ad421.add ((x5_1).toNat * 9)).block, (ad421.add ((x5_1).toNat * 9)).off + 4, none⟩ = some (.int .u32 ((rd_T124 l0 x5_1).f2.f1.f1)) ∧ w'.cell? ⟨(ad421.add ((x5_1).toNat * 9)).block, (ad421.add ((x5_1).toNat * 9)).off + 5, none⟩ = some (.int .u32 ((rd_T124 l0 x5_1).f2.f1.f2)) ∧ w'.cell? ⟨(ad421.add ((x5_1).toNat * 9)).block, (ad421.add ((x5_1).toNat * 9)).off + 6, none⟩ = some (.int .u32 ((rd_T124 l0 x5_1).f2.f1.f3)) ∧ w'.cell? ⟨(ad421.add ((x5_1).toNat * 9)).block, (ad421.add ((x5_1).toNat * 9)).off + 7, none⟩ = some (.int .u32 ((rd_T124 l0 x5_1).f2.f1.f4)) ∧ w'.cell? ⟨(ad421.add ((x5_1).toNat * 9)).block, (ad421.add ((x5_1).toNat * 9)).off + 8, none⟩ = some (.int .u32 ((rd_T124 l0 x5_1).f2.f1.f5)) ∧ w'.cell? (ad422.add ((x5_1).toNat * 9)) = some (.string ((rd_T124 l1 x5_1).f0)) ∧ w'.cell? ⟨(ad422.add ((x5_1).toNat * 9)).block, (ad422.add ((x5_1).toNat * 9)).off + 1, none⟩ = some (.int .i64 ((rd_T124 l1 x5_1).f1)) ∧ w'.cell? ⟨(ad422.add ((x5_1).toNat * 9)).block, (ad422.add ((x5_1).toNat * 9)).off + 2, none⟩ = some (.bool ((rd_T124 l1 x5_1).f2.f0)) ∧ w'.cell? ⟨(ad422.add ((x5_1).toNat * 9)).block, (ad422.add ((x5_1).toNat * 9)).off + 3, none⟩ = some (.int .u32 ((rd_T124 l1 x5_1).f2.f1.f0)) ∧ w'.cell? ⟨(ad422.add ((x5_1).toNat * 9)).block, (ad422.add ((x5_1).toNat * 9)).off + 4, none⟩ = some (.int .u32 ((rd_T124 l1 x5_1).f2.f1.f1)) ∧ w'.cell? ⟨(ad422.add ((x5_1).toNat * 9)).block, (ad422.add ((x5_1).toNat * 9)).off + 5, none⟩ = some (.int .u32 ((rd_T124 l1 x5_1).f2.f1.f2)) ∧ w'.cell? ⟨(ad422.add ((x5_1).toNat * 9)).block, (ad422.add ((x5_1).toNat * 9)).off + 6, none⟩ = some (.int .u32 ((rd_T124 l1 x5_1).f2.f1.f3)) ∧ w'.cell? ⟨(ad422.add ((x5_1).toNat * 9)).block, (ad422.add ((x5_1).toNat * 9)).off + 7, none⟩ = some (.int .u32 ((rd_T124 l1 x5_1).f2.f1.f4)) ∧ w'.cell? ⟨(ad422.add ((x5_1).toNat * 9)).block, (ad422.add ((x5_1).toNat * 9)).off + 8, none⟩ = some (.int .u32 ((rd_T124 l1 x5_1).f2.f1.f5))) (ds := []) #[false, false, false, false, false, false, false, false, false, false] (by kernel_rfl) rfl rfl ⟨(cel HB.out hw421_0), (cel HB.out hw421_1), (cel HB.out hw421_2), (cel HB.out hw421_3), (cel HB.out hw421_4), (cel HB.out hw421_5), (cel HB.out hw421_6), (cel HB.out hw421_7), (cel HB.out hw421_8), (cel HB.out hw422_0), (cel HB.out hw422_1), (cel HB.out hw422_2), (cel HB.out hw422_3), (cel HB.out hw422_4), (cel HB.out hw422_5), (cel HB.out hw422_6), (cel HB.out hw422_7), (cel HB.out hw422_8)⟩ (fun hHeld => ?_); refine with_tabW laws_eqKeptS.tab6 laws_eqKeptS.bits6 (fun HT_ HW_ => ?_)
        generalize wr.drew = w11 at HB hx421_0 hx421_1 hx421_2 hx421_3 hx421_4 hx421_5 hx421_6 hx421_7 hx421_8 hx422_0 hx422_1 hx422_2 hx422_3 hx422_4 hx422_5 hx422_6 hx422_7 hx422_8 hHeld ⊢
        refine pure_ (i := 0) (N := some 17) (v := ?_) (a' := ?_) #[true, false, false, false, false, false, false, false, false, false] rfl rfl (any_of HT_.out (by kernel_rfl)) (fun _ _ _ h => h) (Or.inl ⟨by rfl, ?_⟩) ?_ ?_
        rotate_left
        ·
         intro w'
         go_simp
         with_reducible rfl
        rotate_left
        ·
         simp only [Act.put, sA_, sB_, sC_, i64_w, i32_w]
         rfl
        refine pure_ (i := 1) (N := some 18) (v := ?_) (a' := ?_) #[true, true, false, false, false, false, false, false, false, false] rfl rfl (any_of HT_.out (by kernel_rfl)) (fun _ _ _ h => h) (Or.inl ⟨by rfl, ?_⟩) ?_ ?_
        rotate_left
        ·
         intro w'
         go_simp
         with_reducible rfl
        rotate_left
        ·
         simp only [Act.put, sA_, sB_, sC_, i64_w, i32_w]
         rfl
        refine pure_ (i := 2) (N := some 19) (v := ?_) (a' := ?_) #[true, true, true, false, false, false, false, false, false, false] rfl rfl (any_of HT_.out (by kernel_rfl)) (fun _ _ _ h => h) (Or.inl ⟨by rfl, ?_⟩) ?_ ?_
        rotate_left
        ·
         intro w'
         go_simp
         with_reducible rfl
        rotate_left
        ·
         simp only [Act.put, sA_, sB_, sC_, i64_w, i32_w]
         rfl
        refine pure_ (i := 4) (N := some 21) (v := ?_) (a' := ?_) #[true, true, true, false, true, false, false, false, false, false] rfl rfl (any_of HT_.out (by kernel_rfl)) (fun _ _ _ h => h) (Or.inl ⟨by rfl, ?_⟩) ?_ ?_
        rotate_left
        ·
         intro w'
         go_simp
         with_reducible rfl
        rotate_left
        ·
         simp only [Act.put, sA_, sB_, sC_, i64_w, i32_w]
         rfl
        refine pure_ (i := 5) (N := some 22) (v := ?_) (a' := ?_) #[true, true, true, false, true, true, false, false, false, false] rfl rfl (any_of HT_.out (by kernel_rfl)) (fun _ _ _ h => h) (Or.inl ⟨by rfl, ?_⟩) ?_ ?_
        rotate_left
        ·
         intro w'
         go_simp
         with_reducible rfl
        rotate_left
        ·
         simp only [Act.put, sA_, sB_, sC_, i64_w, i32_w]
         rfl
        refine pure_ (i := 6) (N := some 23) (v := ?_) (a' := ?_) #[true, true, true, false, true, true, true, false, false, false] rfl rfl (any_of HT_.out (by kernel_rfl)) (fun _ _ _ h => h) (Or.inl ⟨by rfl, ?_⟩) ?_ ?_
        rotate_left
        ·
         intro w'
         go_simp
         with_reducible rfl
        rotate_left
        ·
         simp only [Act.put, sA_, sB_, sC_, i64_w, i32_w]
         rfl
        refine take_ (i := 3) (N := some 20) (v := ?_) (a' := ?_) #[true, true, true, true, true, true, true, false, false, false] rfl rfl (take_ofW HT_.out HW_.out (by kernel_rfl)) (fun _ _ _ h => h) (Or.inl ⟨by rfl, ?_⟩) hHeld ?_ ?_
        rotate_left
        ·
         rintro w' ⟨s0, s1, s2, s3, s4, s5, s6, s7, s8, s9, s10, s11, s12, s13, s14, s15, s16, s17⟩
         go_simp
         with_reducible rfl
        rotate_left
        ·
         simp only [Act.put, sA_, sB_, sC_, i64_w, i32_w]
         rfl
        refine take_ (i := 7) (N := some 24) (v := ?_) (a' := ?_) #[true, true, true, true, true, true, true, true, false, false] rfl rfl (take_ofW HT_.out HW_.out (by kernel_rfl)) (fun _ _ _ h => h) (Or.inl ⟨by rfl, ?_⟩) hHeld ?_ ?_
        rotate_left
        ·
         rintro w' ⟨s0, s1, s2, s3, s4, s5, s6, s7, s8, s9, s10, s11, s12, s13, s14, s15, s16, s17⟩
         go_simp
         with_reducible rfl
        rotate_left
        ·
         simp only [Act.put, sA_, sB_, sC_, i64_w, i32_w]
         rfl
        refine one_ (i := 8) (N := some 25) #[true, true, true, true, true, true, true, true, true, false] rfl rfl (one_of HT_.out (by kernel_rfl)) (by decide) (fun K hK => ?_)
        refine goes_ Try.func102 (by kernel_rfl) rfl #[.agg #[.string ((rd_T124 l0 x5_1).f0), .int .i64 ((rd_T124 l0 x5_1).f1), .bool ((rd_T124 l0 x5_1).f2.f0), .int .u32 ((rd_T124 l0 x5_1).f2.f1.f0), .int .u32 ((rd_T124 l0 x5_1).f2.f1.f1), .int .u32 ((rd_T124 l0 x5_1).f2.f1.f2), .int .u32 ((rd_T124 l0 x5_1).f2.f1.f3), .int .u32 ((rd_T124 l0 x5_1).f2.f1.f4), .int .u32 ((rd_T124 l0 x5_1).f2.f1.f5)], .agg #[.string ((rd_T124 l1 x5_1).f0), .int .i64 ((rd_T124 l1 x5_1).f1), .bool ((rd_T124 l1 x5_1).f2.f0), .int .u32 ((rd_T124 l1 x5_1).f2.f1.f0), .int .u32 ((rd_T124 l1 x5_1).f2.f1.f1), .int .u32 ((rd_T124 l1 x5_1).f2.f1.f2), .int .u32 ((rd_T124 l1 x5_1).f2.f1.f3), .int .u32 ((rd_T124 l1 x5_1).f2.f1.f4), .int .u32 ((rd_T124 l1 x5_1).f2.f1.f5)]] (by rfl) rfl rfl z6_11_ ?_
        with_reducible refine (laws_eqKept.calls k1 ((rd_T124 l0 x5_1).f0) ((rd_T124 l0 x5_1).f1) ((rd_T124 l0 x5_1).f2.f0) ((rd_T124 l0 x5_1).f2.f1.f0) ((rd_T124 l0 x5_1).f2.f1.f1) ((rd_T124 l0 x5_1).f2.f1.f2) ((rd_T124 l0 x5_1).f2.f1.f3) ((rd_T124 l0 x5_1).f2.f1.f4) ((rd_T124 l0 x5_1).f2.f1.f5) ((rd_T124 l1 x5_1).f0) ((rd_T124 l1 x5_1).f1) ((rd_T124 l1 x5_1).f2.f0) ((rd_T124 l1 x5_1).f2.f1.f0) ((rd_T124 l1 x5_1).f2.f1.f1) ((rd_T124 l1 x5_1).f2.f1.f2) ((rd_T124 l1 x5_1).f2.f1.f3) ((rd_T124 l1 x5_1).f2.f1.f4) ((rd_T124 l1 x5_1).f2.f1.f5) false _ A7.out).mono ?_
        rintro e w12 ⟨rfl, hb⟩
        refine ⟨_, rfl, ?_⟩
        have _ := A_ (below_step z6_1_ hb)
        clear HB
        rename_i HB
        (try clear hb)
        (try clear hb2)
        (try clear hk)
        (try clear hi)
        refine hK.out _ _ ⟨(cel HB.out hw421_0), (cel HB.out hw421_1), (cel HB.out hw421_2), (cel HB.out hw421_3), (cel HB.out hw421_4), (cel HB.out hw421_5), (cel HB.out hw421_6), (cel HB.out hw421_7), (cel HB.out hw421_8), (cel HB.out hw422_0), (cel HB.out hw422_1), (cel HB.out hw422_2), (cel HB.out hw422_3), (cel HB.out hw422_4), (cel HB.out hw422_5), (cel HB.out hw422_6), (cel HB.out hw422_7), (cel HB.out hw422_8)⟩ (fun hHeld => ?_)
        clear hK K
        refine norm_ (a' := ?_) ?_ ?_
        rotate_left
        ·
         show Act.put _ (some 25) _ = _
         simp only [Act.put, sA_, sB_, sC_, i64_w, i32_w]
         rfl
        refine pure_ (i := 9) (N := some 26) (v := ?_) (a' := ?_) #[true, true, true, true, true, true, true, true, true, true] rfl rfl (any_of HT_.out (by kernel_rfl)) (fun _ _ _ h => h) (Or.inl ⟨by rfl, ?_⟩) ?_ ?_
        rotate_left
        ·
         intro w'
         go_simp
         with_reducible rfl
        rotate_left
        ·
         simp only [Act.put, sA_, sB_, sC_, i64_w, i32_w]
         rfl
        refine done_ (done_of HT_.out (by kernel_rfl)) ?_
        try go_wp2
        go_ret
        exact ⟨z6_8_, z6_1_⟩
      ·
       rw [if_neg c6] at H
       exact absurd H (by simp)
     ·
      rw [if_neg c5] at H
      exact absurd H (by simp)
    ·
     rw [if_neg c4] at H
     have c4b0 := decide_eq_false c4
     clear c4
     obtain rfl := Option.some.inj H
     go_wp2
     go_ret
     exact ⟨z6_8_, z6_1_⟩
 ·
  rw [if_neg c3] at H
  have c3b0 : ((l0.length : Int) == (l1.length : Int)) = false := beq_eq_false_iff_ne.mpr c3
  have c3b1 : ((l0.length : Int) != (l1.length : Int)) = true := bne_iff_ne.mpr c3
  have c3b2 : (l0.length == l1.length) = false := by first | simpa using c3 | (simp at c3 ⊢; omega)
  obtain rfl := Option.some.inj H
  go_enter Try.func59, Try.ntmps59
  go_wp2
  go_ret
  exact ⟨z6_8_, z6_1_⟩
end Go.Proofs.Ytenhgmddpkiliaa.PB

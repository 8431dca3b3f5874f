import Derived.Test.YtpfnohdnaocpdaaPTx0
namespace Go.Proofs.Ytpfnohdnaocpdaa.PT
open Go.RowKit Go.Proofs.YtpfnohdnaocpdaaW.PrintWords Go.Proofs.YtpfnohdnaocpdaaW.PrintLast Go.Proofs.YtpfnohdnaocpdaaW.PrintMore Go.Proofs.YtpfnohdnaocpdaaRP
attribute [local go_sem] max2_int min2_int max_two min_two max_three min_three max_four min_four Go.Proofs.YtpfnohdnaocpdaaRP.max_eight Go.Proofs.YtpfnohdnaocpdaaRP.tmod_len   -- for this text's walks alone
set_option linter.unusedVariables false
set_option linter.unusedSimpArgs false
theorem eqA60 (d : Nat) (w : World) (x0 y0 : Int) (x1 y1 : Int) (x2 y2 : Int) (x3 y3 : Int) :
  (Op.equalIn (d + 2) 60 (.agg #[.int .i64 x0, .int .i64 x1, .int .i64 x2, .int .i64 x3]) (.agg #[.int .i64 y0, .int .i64 y1, .int .i64 y2, .int .i64 y3])).run Try.prog w = .ok (x0 == y0 && (x1 == y1 && (x2 == y2 && (x3 == y3)))) w := by
 refine eqA_of Try.underlying60 (by kernel_rfl) ?_
 refine eqf_cons (by rfl) (by go_simp; rfl) (by go_simp; rfl) (by go_simp) ?_
 refine eqf_cons (by rfl) (by go_simp; rfl) (by go_simp; rfl) (by go_simp) ?_
 refine eqf_cons (by rfl) (by go_simp; rfl) (by go_simp; rfl) (by go_simp) ?_
 exact eqf_last (by rfl) (by go_simp; rfl) (by go_simp; rfl) (by go_simp)
theorem z1_1_ {P : Prop} (h : P := by repeat (first | (with_reducible first | exact HB.out | apply below_alloc | apply pw_below_drewN | apply below_drew1) | exact HB.out)) : P := h
theorem z1_2_ {P : Prop} (h : P := by first | rfl | (simp; done) | (simp [*]; done) | (simp [isE_]; done)) : P := h
theorem z1_3_ {P : Prop} (h : P := by repeat (first | (with_reducible first | exact HB.out | apply below_alloc | apply pw_below_drewN | apply below_drew1 | refine below_set ?_ GE105.out) | exact HB.out)) : P := h
theorem z1_4_ {P : Prop} (h : P := by (with_reducible repeat (first | refine blk_drewN ?_ _ | refine blk_drew ?_ | refine blk_alloc ?_ _)); exact BK105.out) : P := h
theorem z1_5_ {P : Prop} (h : P := by repeat (first | (with_reducible first | exact HB.out | apply below_alloc | apply pw_below_drewN | apply below_drew1 | refine below_set ?_ GE101.out) | exact HB.out)) : P := h
theorem z1_6_ {P : Prop} (h : P := by first | rfl | (simp [errW_none, errW_some] <;> rfl) | (simp [*, errW_none, errW_some] <;> rfl)) : P := h
theorem z1_7_ {P : Prop} (h : P := by (with_reducible repeat (first | refine blk_drewN ?_ _ | refine blk_drew ?_ | refine blk_alloc ?_ _)); exact BK101.out) : P := h
theorem z1_8_ {P : Prop} (h : P := by (try simp only [List.map_toArray, List.map_cons, List.map_nil]); first | done | rfl | (simp only [List.length_drop, List.length_take]; rfl)) : P := h
theorem z1_9_ {P : Prop} (h : P := by repeat (first | (with_reducible first | exact HK.out | apply Kept.alloc | apply Kept.drewN | apply Kept.drew) | exact HK.out)) : P := h
theorem z1_10_ {P : Prop} (h : P := by repeat (first | (with_reducible first | exact HB.out | apply below_alloc | apply pw_below_drewN | apply below_drew1 | refine below_set ?_ GE105.out | refine below_set ?_ GE106.out) | exact HB.out)) : P := h
theorem z1_11_ {P : Prop} (h : P := by repeat (first | (with_reducible first | exact HB.out | apply below_alloc | apply pw_below_drewN | apply below_drew1 | refine below_set ?_ GE111.out) | exact HB.out)) : P := h
theorem z1_12_ {P : Prop} (h : P := by (with_reducible repeat (first | refine blk_drewN ?_ _ | refine blk_drew ?_ | refine blk_alloc ?_ _)); exact BK111.out) : P := h
theorem z1_13_ {P : Prop} (h : P := by repeat (first | exact Drawn0.refl _ | apply Drawn0.step)) : P := h
theorem z1_14_ {P : Prop} (h : P := by repeat (first | (with_reducible first | exact HB.out | apply below_alloc | apply pw_below_drewN | apply below_drew1 | refine below_set ?_ GE111.out | refine below_set ?_ GE112.out) | exact HB.out)) : P := h
theorem z1_15_ {P : Prop} (h : P := by repeat (first | (with_reducible first | exact HB.out | apply below_alloc | apply pw_below_drewN | apply below_drew1 | refine below_set ?_ GE101.out | refine below_set ?_ GE102.out) | exact HB.out)) : P := h
theorem z1_16_ {P : Prop} (h : P := by (with_reducible repeat (first | apply Kd.R_alloc | apply Kd.R_drewN | apply Kd.R_drew)); exact HO_0.out) : P := h
theorem z1_17_ {P : Prop} (h : P := by repeat (first | (with_reducible first | exact HK.out | apply Kept.alloc | apply Kept.drewN | apply Kept.drew | refine Kept.setCell ?_ (.inr GW118.out) _) | exact HK.out)) : P := h
theorem z1_18_ {P : Prop} (h : P := by repeat (first | (with_reducible first | exact HB.out | apply below_alloc | apply pw_below_drewN | apply below_drew1 | refine below_set ?_ GE125.out) | exact HB.out)) : P := h
theorem z1_19_ {P : Prop} (h : P := by (try simp only [hl0_2]); (with_reducible repeat (first | apply Kd.R_alloc | apply Kd.R_drewN | apply Kd.R_drew)); exact HO_0.out) : P := h
theorem z1_20_ {P : Prop} (h : P := by (with_reducible repeat (first | refine blk_drewN ?_ _ | refine blk_drew ?_ | refine blk_alloc ?_ _)); exact BK112.out) : P := h
theorem z1_21_ {P : Prop} (h : P := by (with_reducible repeat (first | refine blk_drewN ?_ _ | refine blk_drew ?_ | refine blk_alloc ?_ _)); exact BK106.out) : P := h
theorem z1_22_ {P : Prop} (h : P := by (with_reducible repeat (first | refine blk_drewN ?_ _ | refine blk_drew ?_ | refine blk_alloc ?_ _)); exact BK102.out) : P := h
theorem z1_23_ {P : Prop} (h : P := by have := HK1.out; have := HK2.out; omega) : P := h
theorem z1_24_ {P : Prop} (h : P := by (with_reducible repeat (first | apply Kd.R_alloc | apply Kd.R_drewN | apply Kd.R_drew)); exact HO0_0.out) : P := h
/-! ### laws_eqInt16A3: function 151 -/
def laws_eqInt16A3.l0 : Nat → Int → Int → Int → Int → Int → Int → Int → Option (Bool)
 | 0, _, _, _, _, _, _, _ => none
 | k + 1, x5, x102000, x102001, x102002, x103000, x103001, x103002 => if x5 < 3 then (if 0 ≤ x5 then (if (rd [x102000, x102001, x102002] x5) = (rd [x103000, x103001, x103002] x5) then (laws_eqInt16A3.l0 k (wrap64 (x5 + 1)) x102000 x102001 x102002 x103000 x103001 x103002) else (some false)) else (none)) else (some true)
def laws_eqInt16A3.f (k : Nat) (a0_0 : Int) (a0_1 : Int) (a0_2 : Int) (a1_0 : Int) (a1_1 : Int) (a1_2 : Int) : Option (Bool) := laws_eqInt16A3.l0 k 0 a0_0 a0_1 a0_2 a1_0 a1_1 a1_2
theorem laws_eqInt16A3.mono_l : ∀ k, (∀ y0 y1 y2 y3 y4 y5 y6, LeO (laws_eqInt16A3.l0 k y0 y1 y2 y3 y4 y5 y6) (laws_eqInt16A3.l0 (k + 1) y0 y1 y2 y3 y4 y5 y6))
 | 0 => fun _ _ _ _ _ _ _ r h => by simp [laws_eqInt16A3.l0] at h
 | k + 1 => by
  have ih0 := laws_eqInt16A3.mono_l k
  ·
   intro y0 y1 y2 y3 y4 y5 y6
   unfold laws_eqInt16A3.l0
   repeat' first
   | (with_reducible exact ih0 _ _ _ _ _ _ _)
   | (with_reducible exact LeO.refl _)
   | (with_reducible exact LeO.none _)
   | (with_reducible refine LeO.ite ?_ ?_)
   | (with_reducible refine LeO.bind ?_ (fun _ => ?_))
   | exact ih0 _ _ _ _ _ _ _
   | exact LeO.none _
   | refine LeO.ite ?_ ?_
   | refine LeO.bind ?_ (fun _ => ?_)
theorem laws_eqInt16A3.mono : ∀ a0 a1 a2 a3 a4 a5 k, LeO (laws_eqInt16A3.f k a0 a1 a2 a3 a4 a5) (laws_eqInt16A3.f (k + 1) a0 a1 a2 a3 a4 a5) := by
 intro a0 a1 a2 a3 a4 a5 k
 have ih0 := laws_eqInt16A3.mono_l k
 unfold laws_eqInt16A3.f
 repeat' first
   | (with_reducible exact ih0 _ _ _ _ _ _ _)
   | (with_reducible exact LeO.refl _)
   | (with_reducible exact LeO.none _)
   | (with_reducible refine LeO.ite ?_ ?_)
   | (with_reducible refine LeO.bind ?_ (fun _ => ?_))
   | exact ih0 _ _ _ _ _ _ _
   | exact LeO.none _
   | refine LeO.ite ?_ ?_
   | refine LeO.bind ?_ (fun _ => ?_)
set_option maxHeartbeats 8000000 in
set_option maxRecDepth 100000 in
theorem laws_eqInt16A3.calls (k : Nat) (a0_0 : Int) (a0_1 : Int) (a0_2 : Int) (a1_0 : Int) (a1_1 : Int) (a1_2 : Int) (r : Bool) (w : World) (h : laws_eqInt16A3.f k a0_0 a0_1 a0_2 a1_0 a1_1 a1_2 = some r) :
  Calls Try.prog 151 #[.agg #[.int .i16 a0_0, .int .i16 a0_1, .int .i16 a0_2], .agg #[.int .i16 a1_0, .int .i16 a1_1, .int .i16 a1_2]] w fun e w' => e = .returned (.bool r) ∧ Below w.heap.size w w' := by
 have hu87 := Try.underlying87
 have HB := A_ (Below.refl w.heap.size w)
 have H : (laws_eqInt16A3.l0 k 0 a0_0 a0_1 a0_2 a1_0 a1_1 a1_2) = some r := h
 clear h
 have H' := A_ H
 clear H
 go_enter Try.func151, Try.ntmps151
 go_wp2_with (first | ((with_reducible refine gate_dst (N := 2) rfl ?_); refine box_event ?hg (N := 2) ?hd (cs := #[.int .i16 a0_0, .int .i16 a0_1, .int .i16 a0_2]) (t := 87) ?hr ?_; (case hd => rfl); (case hg => rfl); (case hr => first | (go_simp; done) | (go_simp; rfl)); intro gb101 hg w3 hbox hb; have _ := A_ (below_step z1_1_ hb); have _ := A_ (hbox); have _ := A_ ((by rw [hg]; exact (below_size z1_1_) : w.heap.size ≤ gb101)); have _ := A_ ((by rw [hg]; exact (below_size z1_1_) : w.heap.size ≤ gb101)); clear HB; rename_i HB BK101 GW101 GE101; clear hb hbox hg) | ((with_reducible refine gate_dst (N := 3) rfl ?_); refine box_event ?hg (N := 3) ?hd (cs := #[.int .i16 a1_0, .int .i16 a1_1, .int .i16 a1_2]) (t := 87) ?hr ?_; (case hd => rfl); (case hg => rfl); (case hr => first | (go_simp; done) | (go_simp; rfl)); intro gb102 hg w4 hbox hb; have _ := A_ (blk_below (g := gb101) (o := .cells #[.int .i16 a0_0, .int .i16 a0_1, .int .i16 a0_2] 87 (0, 0)) z1_7_ hb); have _ := A_ (below_step z1_5_ hb); have _ := A_ (hbox); have _ := A_ ((by rw [hg]; exact (below_size z1_5_) : w.heap.size ≤ gb102)); have _ := A_ ((by rw [hg]; exact (below_size z1_5_) : w.heap.size ≤ gb102)); have _ := A_ ((by rw [hg]; exact Nat.ne_of_lt (blk_lt (g := gb101) (o := .cells #[.int .i16 a0_0, .int .i16 a0_1, .int .i16 a0_2] 87 (0, 0)) z1_7_) : gb101 ≠ gb102)); have _ := A_ ((by rw [hg]; exact Nat.ne_of_gt (blk_lt (g := gb101) (o := .cells #[.int .i16 a0_0, .int .i16 a0_1, .int .i16 a0_2] 87 (0, 0)) z1_7_) : gb102 ≠ gb101)); clear BK101 HB; rename_i BK101 HB BK102 GW102 GE102 NB101_102 NB102_101; clear hb hbox hg))
 repeat (go_quiet (first | ((with_reducible refine gate_dst (N := 2) rfl ?_); refine box_event ?hg (N := 2) ?hd (cs := #[.int .i16 a0_0, .int .i16 a0_1, .int .i16 a0_2]) (t := 87) ?hr ?_; (case hd => rfl); (case hg => rfl); (case hr => first | (go_simp; done) | (go_simp; rfl)); intro gb101 hg w3 hbox hb; have _ := A_ (below_step z1_1_ hb); have _ := A_ (hbox); have _ := A_ ((by rw [hg]; exact (below_size z1_1_) : w.heap.size ≤ gb101)); have _ := A_ ((by rw [hg]; exact (below_size z1_1_) : w.heap.size ≤ gb101)); clear HB; rename_i HB BK101 GW101 GE101; clear hb hbox hg) | ((with_reducible refine gate_dst (N := 3) rfl ?_); refine box_event ?hg (N := 3) ?hd (cs := #[.int .i16 a1_0, .int .i16 a1_1, .int .i16 a1_2]) (t := 87) ?hr ?_; (case hd => rfl); (case hg => rfl); (case hr => first | (go_simp; done) | (go_simp; rfl)); intro gb102 hg w4 hbox hb; have _ := A_ (blk_below (g := gb101) (o := .cells #[.int .i16 a0_0, .int .i16 a0_1, .int .i16 a0_2] 87 (0, 0)) z1_7_ hb); have _ := A_ (below_step z1_5_ hb); have _ := A_ (hbox); have _ := A_ ((by rw [hg]; exact (below_size z1_5_) : w.heap.size ≤ gb102)); have _ := A_ ((by rw [hg]; exact (below_size z1_5_) : w.heap.size ≤ gb102)); have _ := A_ ((by rw [hg]; exact Nat.ne_of_lt (blk_lt (g := gb101) (o := .cells #[.int .i16 a0_0, .int .i16 a0_1, .int .i16 a0_2] 87 (0, 0)) z1_7_) : gb101 ≠ gb102)); have _ := A_ ((by rw [hg]; exact Nat.ne_of_gt (blk_lt (g := gb101) (o := .cells #[.int .i16 a0_0, .int .i16 a0_1, .int .i16 a0_2] 87 (0, 0)) z1_7_) : gb102 ≠ gb101)); clear BK101 HB; rename_i BK101 HB BK102 GW102 GE102 NB101_102 NB102_101; clear hb hbox hg)); try go_wp2_with (first | ((with_reducible refine gate_dst (N := 2) rfl ?_); refine box_event ?hg (N := 2) ?hd (cs := #[.int .i16 a0_0, .int .i16 a0_1, .int .i16 a0_2]) (t := 87) ?hr ?_; (case hd => rfl); (case hg => rfl); (case hr => first | (go_simp; done) | (go_simp; rfl)); intro gb101 hg w3 hbox hb; have _ := A_ (below_step z1_1_ hb); have _ := A_ (hbox); have _ := A_ ((by rw [hg]; exact (below_size z1_1_) : w.heap.size ≤ gb101)); have _ := A_ ((by rw [hg]; exact (below_size z1_1_) : w.heap.size ≤ gb101)); clear HB; rename_i HB BK101 GW101 GE101; clear hb hbox hg) | ((with_reducible refine gate_dst (N := 3) rfl ?_); refine box_event ?hg (N := 3) ?hd (cs := #[.int .i16 a1_0, .int .i16 a1_1, .int .i16 a1_2]) (t := 87) ?hr ?_; (case hd => rfl); (case hg => rfl); (case hr => first | (go_simp; done) | (go_simp; rfl)); intro gb102 hg w4 hbox hb; have _ := A_ (blk_below (g := gb101) (o := .cells #[.int .i16 a0_0, .int .i16 a0_1, .int .i16 a0_2] 87 (0, 0)) z1_7_ hb); have _ := A_ (below_step z1_5_ hb); have _ := A_ (hbox); have _ := A_ ((by rw [hg]; exact (below_size z1_5_) : w.heap.size ≤ gb102)); have _ := A_ ((by rw [hg]; exact (below_size z1_5_) : w.heap.size ≤ gb102)); have _ := A_ ((by rw [hg]; exact Nat.ne_of_lt (blk_lt (g := gb101) (o := .cells #[.int .i16 a0_0, .int .i16 a0_1, .int .i16 a0_2] 87 (0, 0)) z1_7_) : gb101 ≠ gb102)); have _ := A_ ((by rw [hg]; exact Nat.ne_of_gt (blk_lt (g := gb101) (o := .cells #[.int .i16 a0_0, .int .i16 a0_1, .int .i16 a0_2] 87 (0, 0)) z1_7_) : gb102 ≠ gb101)); clear BK101 HB; rename_i BK101 HB BK102 GW102 GE102 NB101_102 NB102_101; clear hb hbox hg)))
 go_loopg [5] k (fun kq v5 w' => ∃ (x5_1 : Int), v5 = .int .i64 x5_1 ∧ Aside0 (laws_eqInt16A3.l0 kq x5_1 a0_0 a0_1 a0_2 a1_0 a1_1 a1_2 = some r) ∧ Aside0 (kq ≤ k) ∧ Aside0 (w'.heap[gb101]? = some (.cells #[.int .i16 a0_0, .int .i16 a0_1, .int .i16 a0_2] 87 (0, 0))) ∧ Aside0 (w'.heap[gb102]? = some (.cells #[.int .i16 a1_0, .int .i16 a1_1, .int .i16 a1_2] 87 (0, 0))) ∧ Aside0 (Below w.heap.size w w'))
 case atStart => exact ⟨(0), z1_2_, H', ⟨Nat.le_refl _⟩, ⟨z1_7_⟩, ⟨z1_22_⟩, ⟨z1_15_⟩⟩
 case round =>
  clear H'
  try clear c1
  try clear p2
  obtain ⟨x5_1, rfl, HA, HK1, BK101, BK102, HB⟩ := hrel
  cases gk with
  | zero => exact absurd HA.out (by simp [laws_eqInt16A3.l0])
  | succ k1 =>
   have H := HA.out
   clear HA
   simp only [laws_eqInt16A3.l0] at H
   by_cases c5 : x5_1 < 3
   ·
    rw [if_pos c5] at H
    have c5b0 := decide_eq_true c5
    clear c5
    by_cases c6 : 0 ≤ x5_1
    ·
     rw [if_pos c6] at H
     have c6b0 := decide_eq_true c6
     clear c6
     by_cases c7 : (rd [a0_0, a0_1, a0_2] x5_1) = (rd [a1_0, a1_1, a1_2] x5_1)
     ·
      rw [if_pos c7] at H
      have c7b0 := beq_iff_eq.mpr c7
      have c7b1 := bne_eq_false_iff_eq.mpr c7
      clear c7
      have H' := A_ H
      clear H
      have p103 : 0 ≤ (x5_1 : Int) := of_decide_eq_true (by assumption)
      have q103 : (x5_1 : Int) < 3 := of_decide_eq_true (by assumption)
      have hx103_0 := blk_arr (xs := [a0_0, a0_1, a0_2]) (k := .i16) BK101.out 0 rfl x5_1 p103 q103
      (try simp only [Nat.zero_add] at hx103_0)
      replace p103 := eq_true p103
      replace q103 := eq_true q103
      have p104 : 0 ≤ (x5_1 : Int) := of_decide_eq_true (by assumption)
      have q104 : (x5_1 : Int) < 3 := of_decide_eq_true (by assumption)
      have hx104_0 := blk_arr (xs := [a1_0, a1_1, a1_2]) (k := .i16) BK102.out 0 rfl x5_1 p104 q104
      (try simp only [Nat.zero_add] at hx104_0)
      replace p104 := eq_true p104
      replace q104 := eq_true q104
      go_wp2
      repeat (go_quiet (fail); try go_wp2)
      go_roundg k1
      case measure => have := HK1.out; omega
      case rel => exact ⟨(wrap64 (x5_1 + 1)), z1_2_, H', ⟨(by have := HK1.out; omega)⟩, ⟨z1_7_⟩, ⟨z1_22_⟩, ⟨z1_15_⟩⟩
     ·
      rw [if_neg c7] at H
      have c7b0 : ((rd [a0_0, a0_1, a0_2] x5_1) == (rd [a1_0, a1_1, a1_2] x5_1)) = false := beq_eq_false_iff_ne.mpr c7
      have c7b1 : ((rd [a0_0, a0_1, a0_2] x5_1) != (rd [a1_0, a1_1, a1_2] x5_1)) = true := bne_iff_ne.mpr c7
      obtain rfl := Option.some.inj H
      have p103 : 0 ≤ (x5_1 : Int) := of_decide_eq_true (by assumption)
      have q103 : (x5_1 : Int) < 3 := of_decide_eq_true (by assumption)
      have hx103_0 := blk_arr (xs := [a0_0, a0_1, a0_2]) (k := .i16) BK101.out 0 rfl x5_1 p103 q103
      (try simp only [Nat.zero_add] at hx103_0)
      replace p103 := eq_true p103
      replace q103 := eq_true q103
      have p104 : 0 ≤ (x5_1 : Int) := of_decide_eq_true (by assumption)
      have q104 : (x5_1 : Int) < 3 := of_decide_eq_true (by assumption)
      have hx104_0 := blk_arr (xs := [a1_0, a1_1, a1_2]) (k := .i16) BK102.out 0 rfl x5_1 p104 q104
      (try simp only [Nat.zero_add] at hx104_0)
      replace p104 := eq_true p104
      replace q104 := eq_true q104
      go_wp2
      repeat (go_quiet (fail); try go_wp2)
      go_ret
      exact ⟨z1_6_, z1_15_⟩
    ·
     rw [if_neg c6] at H
     exact absurd H (by simp)
   ·
    rw [if_neg c5] at H
    have c5b0 := decide_eq_false c5
    clear c5
    obtain rfl := Option.some.inj H
    go_wp2
    repeat (go_quiet (fail); try go_wp2)
    go_ret
    exact ⟨z1_6_, z1_15_⟩
/-! ### laws_eqFork: function 116 -/
def laws_eqFork.f (k : Nat) (a0_0 : Int) (a0_1 : Int) (a0_2 : Int) (a0_3 : Int) (a0_4 : Int) (a1_0 : Int) (a1_1 : Int) (a1_2 : Int) (a1_3 : Int) (a1_4 : Int) : Option (Bool) := if a0_0 = a1_0 then (if a0_1 = a1_1 then ((laws_eqInt16A3.f k a0_2 a0_3 a0_4 a1_2 a1_3 a1_4).bind fun t107 => (if t107 = true then (some true) else (some false))) else (some false)) else (some false)
theorem laws_eqFork.mono : ∀ a0 a1 a2 a3 a4 a5 a6 a7 a8 a9 k, LeO (laws_eqFork.f k a0 a1 a2 a3 a4 a5 a6 a7 a8 a9) (laws_eqFork.f (k + 1) a0 a1 a2 a3 a4 a5 a6 a7 a8 a9) := by
 intro a0 a1 a2 a3 a4 a5 a6 a7 a8 a9 k
 unfold laws_eqFork.f
 repeat' first
   | (with_reducible exact laws_eqInt16A3.mono _ _ _ _ _ _ _)
   | (with_reducible exact LeO.refl _)
   | (with_reducible exact LeO.none _)
   | (with_reducible refine LeO.ite ?_ ?_)
   | (with_reducible refine LeO.bind ?_ (fun _ => ?_))
   | exact LeO.none _
   | refine LeO.ite ?_ ?_
   | refine LeO.bind ?_ (fun _ => ?_)
set_option maxHeartbeats 8000000 in
set_option maxRecDepth 100000 in
theorem laws_eqFork.calls (k : Nat) (a0_0 : Int) (a0_1 : Int) (a0_2 : Int) (a0_3 : Int) (a0_4 : Int) (a1_0 : Int) (a1_1 : Int) (a1_2 : Int) (a1_3 : Int) (a1_4 : Int) (r : Bool) (w : World) (h : laws_eqFork.f k a0_0 a0_1 a0_2 a0_3 a0_4 a1_0 a1_1 a1_2 a1_3 a1_4 = some r) :
  Calls Try.prog 116 #[.agg #[.int .i8 a0_0, .int .i8 a0_1, .int .i16 a0_2, .int .i16 a0_3, .int .i16 a0_4], .agg #[.int .i8 a1_0, .int .i8 a1_1, .int .i16 a1_2, .int .i16 a1_3, .int .i16 a1_4]] w fun e w' => e = .returned (.bool r) ∧ Below w.heap.size w w' := by
 have hu89 := Try.underlying89
 have hu87 := Try.underlying87
 have HB := A_ (Below.refl w.heap.size w)
 have H : (if a0_0 = a1_0 then (if a0_1 = a1_1 then ((laws_eqInt16A3.f k a0_2 a0_3 a0_4 a1_2 a1_3 a1_4).bind fun t107 => (if t107 = true then (some true) else (some false))) else (some false)) else (some false)) = some r := h
 clear h
 by_cases c3 : a0_0 = a1_0
 ·
  rw [if_pos c3] at H
  have c3b0 := beq_iff_eq.mpr c3
  have c3b1 := bne_eq_false_iff_eq.mpr c3
  clear c3
  by_cases c4 : a0_1 = a1_1
  ·
   rw [if_pos c4] at H
   have c4b0 := beq_iff_eq.mpr c4
   have c4b1 := bne_eq_false_iff_eq.mpr c4
   clear c4
   replace H := Option.bind_eq_some_iff.mp H
   obtain ⟨t107, A50, H⟩ := H
   try dsimp only at H
   have A5 := A_ A50
   clear A50
   by_cases c6 : t107 = true
   ·
    subst c6
    have H1 := H; rw [if_pos rfl] at H1
    clear H
    have H := H1
    clear H1
    obtain rfl := Option.some.inj H
    go_enter Try.func116, Try.ntmps116
    go_wp2_with (first | ((with_reducible refine gate_dst (N := 2) rfl ?_); refine box_event ?hg (N := 2) ?hd (cs := #[.int .i8 a0_0, .int .i8 a0_1, .int .i16 a0_2, .int .i16 a0_3, .int .i16 a0_4]) (t := 89) ?hr ?_; (case hd => rfl); (case hg => rfl); (case hr => first | (go_simp; done) | (go_simp; rfl)); intro gb105 hg w7 hbox hb; have _ := A_ (below_step z1_1_ hb); have _ := A_ (hbox); have _ := A_ ((by rw [hg]; exact (below_size z1_1_) : w.heap.size ≤ gb105)); have _ := A_ ((by rw [hg]; exact (below_size z1_1_) : w.heap.size ≤ gb105)); clear HB; rename_i HB BK105 GW105 GE105; clear hb hbox hg) | ((with_reducible refine gate_dst (N := 3) rfl ?_); refine box_event ?hg (N := 3) ?hd (cs := #[.int .i8 a1_0, .int .i8 a1_1, .int .i16 a1_2, .int .i16 a1_3, .int .i16 a1_4]) (t := 89) ?hr ?_; (case hd => rfl); (case hg => rfl); (case hr => first | (go_simp; done) | (go_simp; rfl)); intro gb106 hg w8 hbox hb; have _ := A_ (blk_below (g := gb105) (o := .cells #[.int .i8 a0_0, .int .i8 a0_1, .int .i16 a0_2, .int .i16 a0_3, .int .i16 a0_4] 89 (0, 0)) z1_4_ hb); have _ := A_ (below_step z1_3_ hb); have _ := A_ (hbox); have _ := A_ ((by rw [hg]; exact (below_size z1_3_) : w.heap.size ≤ gb106)); have _ := A_ ((by rw [hg]; exact (below_size z1_3_) : w.heap.size ≤ gb106)); have _ := A_ ((by rw [hg]; exact Nat.ne_of_lt (blk_lt (g := gb105) (o := .cells #[.int .i8 a0_0, .int .i8 a0_1, .int .i16 a0_2, .int .i16 a0_3, .int .i16 a0_4] 89 (0, 0)) z1_4_) : gb105 ≠ gb106)); have _ := A_ ((by rw [hg]; exact Nat.ne_of_gt (blk_lt (g := gb105) (o := .cells #[.int .i8 a0_0, .int .i8 a0_1, .int .i16 a0_2, .int .i16 a0_3, .int .i16 a0_4] 89 (0, 0)) z1_4_) : gb106 ≠ gb105)); clear BK105 HB; rename_i BK105 HB BK106 GW106 GE106 NB105_106 NB106_105; clear hb hbox hg; have hnb9 := NB105_106.out; have hnc9 := NB106_105.out; obtain ⟨hcz10_0, hcz10_1, hcz10_2, hcz10_3, hcz10_4⟩ := bc5 BK105.out; obtain ⟨hfz10_0, hfz10_1, hfz10_2, hfz10_3, hfz10_4⟩ := bf5 BK105.out; obtain ⟨hcz11_0, hcz11_1, hcz11_2, hcz11_3, hcz11_4⟩ := bc5 BK106.out; obtain ⟨hfz11_0, hfz11_1, hfz11_2, hfz11_3, hfz11_4⟩ := bf5 BK106.out) | ((with_reducible refine gate_callee (f := 151) rfl ?_); refine goesL_ (some 19) rfl rfl Try.func151 (by kernel_rfl) rfl #[.agg #[.int .i16 a0_2, .int .i16 a0_3, .int .i16 a0_4], .agg #[.int .i16 a1_2, .int .i16 a1_3, .int .i16 a1_4]] rfl z1_8_ ?_; (with_reducible refine (laws_eqInt16A3.calls k a0_2 a0_3 a0_4 a1_2 a1_3 a1_4 true _ A5.out).mono ?_); rintro e w12 ⟨rfl, hb⟩; refine ⟨_, rfl, ?_⟩; have _ := A_ (blk_below (g := gb105) (o := .cells #[.int .i8 a0_0, .int .i8 a0_1, .int .i16 a0_2, .int .i16 a0_3, .int .i16 a0_4] 89 (0, 0)) z1_4_ hb); have _ := A_ (blk_below (g := gb106) (o := .cells #[.int .i8 a1_0, .int .i8 a1_1, .int .i16 a1_2, .int .i16 a1_3, .int .i16 a1_4] 89 (0, 0)) z1_21_ hb); have _ := A_ (below_step z1_10_ hb); clear BK105 BK106 HB; rename_i BK105 BK106 HB; (try clear hb)))
    go_ret
    exact ⟨z1_6_, z1_10_⟩
   ·
    replace c6 := Bool.eq_false_iff.mpr c6
    subst c6
    have H1 := H; rw [if_neg (show ¬ (false = true) by decide)] at H1
    clear H
    have H := H1
    clear H1
    obtain rfl := Option.some.inj H
    go_enter Try.func116, Try.ntmps116
    go_wp2_with (first | ((with_reducible refine gate_dst (N := 2) rfl ?_); refine box_event ?hg (N := 2) ?hd (cs := #[.int .i8 a0_0, .int .i8 a0_1, .int .i16 a0_2, .int .i16 a0_3, .int .i16 a0_4]) (t := 89) ?hr ?_; (case hd => rfl); (case hg => rfl); (case hr => first | (go_simp; done) | (go_simp; rfl)); intro gb105 hg w13 hbox hb; have _ := A_ (below_step z1_1_ hb); have _ := A_ (hbox); have _ := A_ ((by rw [hg]; exact (below_size z1_1_) : w.heap.size ≤ gb105)); have _ := A_ ((by rw [hg]; exact (below_size z1_1_) : w.heap.size ≤ gb105)); clear HB; rename_i HB BK105 GW105 GE105; clear hb hbox hg) | ((with_reducible refine gate_dst (N := 3) rfl ?_); refine box_event ?hg (N := 3) ?hd (cs := #[.int .i8 a1_0, .int .i8 a1_1, .int .i16 a1_2, .int .i16 a1_3, .int .i16 a1_4]) (t := 89) ?hr ?_; (case hd => rfl); (case hg => rfl); (case hr => first | (go_simp; done) | (go_simp; rfl)); intro gb106 hg w14 hbox hb; have _ := A_ (blk_below (g := gb105) (o := .cells #[.int .i8 a0_0, .int .i8 a0_1, .int .i16 a0_2, .int .i16 a0_3, .int .i16 a0_4] 89 (0, 0)) z1_4_ hb); have _ := A_ (below_step z1_3_ hb); have _ := A_ (hbox); have _ := A_ ((by rw [hg]; exact (below_size z1_3_) : w.heap.size ≤ gb106)); have _ := A_ ((by rw [hg]; exact (below_size z1_3_) : w.heap.size ≤ gb106)); have _ := A_ ((by rw [hg]; exact Nat.ne_of_lt (blk_lt (g := gb105) (o := .cells #[.int .i8 a0_0, .int .i8 a0_1, .int .i16 a0_2, .int .i16 a0_3, .int .i16 a0_4] 89 (0, 0)) z1_4_) : gb105 ≠ gb106)); have _ := A_ ((by rw [hg]; exact Nat.ne_of_gt (blk_lt (g := gb105) (o := .cells #[.int .i8 a0_0, .int .i8 a0_1, .int .i16 a0_2, .int .i16 a0_3, .int .i16 a0_4] 89 (0, 0)) z1_4_) : gb106 ≠ gb105)); clear BK105 HB; rename_i BK105 HB BK106 GW106 GE106 NB105_106 NB106_105; clear hb hbox hg; have hnb15 := NB105_106.out; have hnc15 := NB106_105.out; obtain ⟨hcz16_0, hcz16_1, hcz16_2, hcz16_3, hcz16_4⟩ := bc5 BK105.out; obtain ⟨hfz16_0, hfz16_1, hfz16_2, hfz16_3, hfz16_4⟩ := bf5 BK105.out; obtain ⟨hcz17_0, hcz17_1, hcz17_2, hcz17_3, hcz17_4⟩ := bc5 BK106.out; obtain ⟨hfz17_0, hfz17_1, hfz17_2, hfz17_3, hfz17_4⟩ := bf5 BK106.out) | ((with_reducible refine gate_callee (f := 151) rfl ?_); refine goesL_ (some 19) rfl rfl Try.func151 (by kernel_rfl) rfl #[.agg #[.int .i16 a0_2, .int .i16 a0_3, .int .i16 a0_4], .agg #[.int .i16 a1_2, .int .i16 a1_3, .int .i16 a1_4]] rfl z1_8_ ?_; (with_reducible refine (laws_eqInt16A3.calls k a0_2 a0_3 a0_4 a1_2 a1_3 a1_4 false _ A5.out).mono ?_); rintro e w18 ⟨rfl, hb⟩; refine ⟨_, rfl, ?_⟩; have _ := A_ (blk_below (g := gb105) (o := .cells #[.int .i8 a0_0, .int .i8 a0_1, .int .i16 a0_2, .int .i16 a0_3, .int .i16 a0_4] 89 (0, 0)) z1_4_ hb); have _ := A_ (blk_below (g := gb106) (o := .cells #[.int .i8 a1_0, .int .i8 a1_1, .int .i16 a1_2, .int .i16 a1_3, .int .i16 a1_4] 89 (0, 0)) z1_21_ hb); have _ := A_ (below_step z1_10_ hb); clear BK105 BK106 HB; rename_i BK105 BK106 HB; (try clear hb)))
    go_ret
    exact ⟨z1_6_, z1_10_⟩
  ·
   rw [if_neg c4] at H
   have c4b0 : (a0_1 == a1_1) = false := beq_eq_false_iff_ne.mpr c4
   have c4b1 : (a0_1 != a1_1) = true := bne_iff_ne.mpr c4
   obtain rfl := Option.some.inj H
   go_enter Try.func116, Try.ntmps116
   go_wp2_with (first | ((with_reducible refine gate_dst (N := 2) rfl ?_); refine box_event ?hg (N := 2) ?hd (cs := #[.int .i8 a0_0, .int .i8 a0_1, .int .i16 a0_2, .int .i16 a0_3, .int .i16 a0_4]) (t := 89) ?hr ?_; (case hd => rfl); (case hg => rfl); (case hr => first | (go_simp; done) | (go_simp; rfl)); intro gb105 hg w19 hbox hb; have _ := A_ (below_step z1_1_ hb); have _ := A_ (hbox); have _ := A_ ((by rw [hg]; exact (below_size z1_1_) : w.heap.size ≤ gb105)); have _ := A_ ((by rw [hg]; exact (below_size z1_1_) : w.heap.size ≤ gb105)); clear HB; rename_i HB BK105 GW105 GE105; clear hb hbox hg) | ((with_reducible refine gate_dst (N := 3) rfl ?_); refine box_event ?hg (N := 3) ?hd (cs := #[.int .i8 a1_0, .int .i8 a1_1, .int .i16 a1_2, .int .i16 a1_3, .int .i16 a1_4]) (t := 89) ?hr ?_; (case hd => rfl); (case hg => rfl); (case hr => first | (go_simp; done) | (go_simp; rfl)); intro gb106 hg w20 hbox hb; have _ := A_ (blk_below (g := gb105) (o := .cells #[.int .i8 a0_0, .int .i8 a0_1, .int .i16 a0_2, .int .i16 a0_3, .int .i16 a0_4] 89 (0, 0)) z1_4_ hb); have _ := A_ (below_step z1_3_ hb); have _ := A_ (hbox); have _ := A_ ((by rw [hg]; exact (below_size z1_3_) : w.heap.size ≤ gb106)); have _ := A_ ((by rw [hg]; exact (below_size z1_3_) : w.heap.size ≤ gb106)); have _ := A_ ((by rw [hg]; exact Nat.ne_of_lt (blk_lt (g := gb105) (o := .cells #[.int .i8 a0_0, .int .i8 a0_1, .int .i16 a0_2, .int .i16 a0_3, .int .i16 a0_4] 89 (0, 0)) z1_4_) : gb105 ≠ gb106)); have _ := A_ ((by rw [hg]; exact Nat.ne_of_gt (blk_lt (g := gb105) (o := .cells #[.int .i8 a0_0, .int .i8 a0_1, .int .i16 a0_2, .int .i16 a0_3, .int .i16 a0_4] 89 (0, 0)) z1_4_) : gb106 ≠ gb105)); clear BK105 HB; rename_i BK105 HB BK106 GW106 GE106 NB105_106 NB106_105; clear hb hbox hg; have hnb21 := NB105_106.out; have hnc21 := NB106_105.out; obtain ⟨hcz22_0, hcz22_1, hcz22_2, hcz22_3, hcz22_4⟩ := bc5 BK105.out; obtain ⟨hfz22_0, hfz22_1, hfz22_2, hfz22_3, hfz22_4⟩ := bf5 BK105.out; obtain ⟨hcz23_0, hcz23_1, hcz23_2, hcz23_3, hcz23_4⟩ := bc5 BK106.out; obtain ⟨hfz23_0, hfz23_1, hfz23_2, hfz23_3, hfz23_4⟩ := bf5 BK106.out))
   go_ret
   exact ⟨z1_6_, z1_10_⟩
 ·
  rw [if_neg c3] at H
  have c3b0 : (a0_0 == a1_0) = false := beq_eq_false_iff_ne.mpr c3
  have c3b1 : (a0_0 != a1_0) = true := bne_iff_ne.mpr c3
  obtain rfl := Option.some.inj H
  go_enter Try.func116, Try.ntmps116
  go_wp2_with (first | ((with_reducible refine gate_dst (N := 2) rfl ?_); refine box_event ?hg (N := 2) ?hd (cs := #[.int .i8 a0_0, .int .i8 a0_1, .int .i16 a0_2, .int .i16 a0_3, .int .i16 a0_4]) (t := 89) ?hr ?_; (case hd => rfl); (case hg => rfl); (case hr => first | (go_simp; done) | (go_simp; rfl)); intro gb105 hg w24 hbox hb; have _ := A_ (below_step z1_1_ hb); have _ := A_ (hbox); have _ := A_ ((by rw [hg]; exact (below_size z1_1_) : w.heap.size ≤ gb105)); have _ := A_ ((by rw [hg]; exact (below_size z1_1_) : w.heap.size ≤ gb105)); clear HB; rename_i HB BK105 GW105 GE105; clear hb hbox hg) | ((with_reducible refine gate_dst (N := 3) rfl ?_); refine box_event ?hg (N := 3) ?hd (cs := #[.int .i8 a1_0, .int .i8 a1_1, .int .i16 a1_2, .int .i16 a1_3, .int .i16 a1_4]) (t := 89) ?hr ?_; (case hd => rfl); (case hg => rfl); (case hr => first | (go_simp; done) | (go_simp; rfl)); intro gb106 hg w25 hbox hb; have _ := A_ (blk_below (g := gb105) (o := .cells #[.int .i8 a0_0, .int .i8 a0_1, .int .i16 a0_2, .int .i16 a0_3, .int .i16 a0_4] 89 (0, 0)) z1_4_ hb); have _ := A_ (below_step z1_3_ hb); have _ := A_ (hbox); have _ := A_ ((by rw [hg]; exact (below_size z1_3_) : w.heap.size ≤ gb106)); have _ := A_ ((by rw [hg]; exact (below_size z1_3_) : w.heap.size ≤ gb106)); have _ := A_ ((by rw [hg]; exact Nat.ne_of_lt (blk_lt (g := gb105) (o := .cells #[.int .i8 a0_0, .int .i8 a0_1, .int .i16 a0_2, .int .i16 a0_3, .int .i16 a0_4] 89 (0, 0)) z1_4_) : gb105 ≠ gb106)); have _ := A_ ((by rw [hg]; exact Nat.ne_of_gt (blk_lt (g := gb105) (o := .cells #[.int .i8 a0_0, .int .i8 a0_1, .int .i16 a0_2, .int .i16 a0_3, .int .i16 a0_4] 89 (0, 0)) z1_4_) : gb106 ≠ gb105)); clear BK105 HB; rename_i BK105 HB BK106 GW106 GE106 NB105_106 NB106_105; clear hb hbox hg; have hnb26 := NB105_106.out; have hnc26 := NB106_105.out; obtain ⟨hcz27_0, hcz27_1, hcz27_2, hcz27_3, hcz27_4⟩ := bc5 BK105.out; obtain ⟨hfz27_0, hfz27_1, hfz27_2, hfz27_3, hfz27_4⟩ := bf5 BK105.out; obtain ⟨hcz28_0, hcz28_1, hcz28_2, hcz28_3, hcz28_4⟩ := bc5 BK106.out; obtain ⟨hfz28_0, hfz28_1, hfz28_2, hfz28_3, hfz28_4⟩ := bf5 BK106.out))
  go_ret
  exact ⟨z1_6_, z1_10_⟩
/-! ### laws_eqForkS: function 64 -/
def laws_eqForkS.l0 : Nat → List (S89) → List (S89) → Int → Option (Bool)
 | 0, _, _, _ => none
 | k + 1, x0, x1, x5 => if x5 < (x0.length : Int) then (if 0 ≤ x5 then (if x5 < (x1.length : Int) then ((laws_eqFork.f k ((rd_T89 x0 x5).f0) ((rd_T89 x0 x5).f1) ((rd_T89 x0 x5).f2.f0) ((rd_T89 x0 x5).f2.f1) ((rd_T89 x0 x5).f2.f2) ((rd_T89 x1 x5).f0) ((rd_T89 x1 x5).f1) ((rd_T89 x1 x5).f2.f0) ((rd_T89 x1 x5).f2.f1) ((rd_T89 x1 x5).f2.f2)).bind fun t110 => (if t110 = true then (laws_eqForkS.l0 k x0 x1 (wrap64 (x5 + 1))) else (some false))) else (none)) else (none)) else (some true)
def laws_eqForkS.f (k : Nat) (l0 : List (S89)) (l1 : List (S89)) : Option (Bool) := if (l0.length : Int) = (l1.length : Int) then (laws_eqForkS.l0 k l0 l1 0) else (some false)
theorem laws_eqForkS.mono_l : ∀ k, (∀ y0 y1 y2, LeO (laws_eqForkS.l0 k y0 y1 y2) (laws_eqForkS.l0 (k + 1) y0 y1 y2))
 | 0 => fun _ _ _ r h => by simp [laws_eqForkS.l0] at h
 | k + 1 => by
  have ih0 := laws_eqForkS.mono_l k
  ·
   intro y0 y1 y2
   unfold laws_eqForkS.l0
   repeat' first
   | (with_reducible exact ih0 _ _ _)
   | (with_reducible exact laws_eqFork.mono _ _ _ _ _ _ _ _ _ _ _)
   | (with_reducible exact LeO.refl _)
   | (with_reducible exact LeO.none _)
   | (with_reducible refine LeO.ite ?_ ?_)
   | (with_reducible refine LeO.bind ?_ (fun _ => ?_))
   | exact ih0 _ _ _
   | exact LeO.none _
   | refine LeO.ite ?_ ?_
   | refine LeO.bind ?_ (fun _ => ?_)
theorem laws_eqForkS.mono : ∀ a0 a1 k, LeO (laws_eqForkS.f k a0 a1) (laws_eqForkS.f (k + 1) a0 a1) := by
 intro a0 a1 k
 have ih0 := laws_eqForkS.mono_l k
 unfold laws_eqForkS.f
 repeat' first
   | (with_reducible exact ih0 _ _ _)
   | (with_reducible exact laws_eqFork.mono _ _ _ _ _ _ _ _ _ _ _)
   | (with_reducible exact LeO.refl _)
   | (with_reducible exact LeO.none _)
   | (with_reducible refine LeO.ite ?_ ?_)
   | (with_reducible refine LeO.bind ?_ (fun _ => ?_))
   | exact ih0 _ _ _
   | exact LeO.none _
   | refine LeO.ite ?_ ?_
   | refine LeO.bind ?_ (fun _ => ?_)
def laws_eqForkS.T6 : Bool × List (List Nat × List Nat) := (true, [([], []), ([], []), ([0, 1], [0, 1]), ([2], [2]), ([], []), ([], []), ([4, 5], [4, 5]), ([6], [6]), ([3, 7], [3, 7]), ([8], [8])])
def laws_eqForkS.B6 : List Nat := [0, 0, 3, 7, 0, 0, 48, 112, 255, 511]
theorem laws_eqForkS.tab6 : rtab .any (opsOf Try.f64 6) = laws_eqForkS.T6 := by kernel_rfl
theorem laws_eqForkS.bits6 : waitsOk laws_eqForkS.T6.2 laws_eqForkS.B6 = true := by kernel_rfl
set_option maxHeartbeats 8000000 in
set_option maxRecDepth 100000 in
theorem laws_eqForkS.calls (k : Nat) (A0 : Option Addr) (c0 : Nat) (l0 : List (S89)) (A1 : Option Addr) (c1 : Nat) (l1 : List (S89)) (r : Bool) (w : World) (hr0 : Kd.C k89 w A0 l0.length l0) (hc0 : l0.length ≤ c0) (hr1 : Kd.C k89 w A1 l1.length l1) (hc1 : l1.length ≤ c1) (h : laws_eqForkS.f k l0 l1 = some r) :
  Calls Try.prog 64 #[.slice A0 l0.length c0, .slice A1 l1.length c1] w fun e w' => e = .returned (.bool r) ∧ Below w.heap.size w w' := by
 have hu89 := Try.underlying89
 have HR0 := A_ hr0
 have HC0 := A_ hc0
 clear hr0 hc0
 have HR1 := A_ hr1
 have HC1 := A_ hc1
 clear hr1 hc1
 have HB := A_ (Below.refl w.heap.size w)
 have H : (if (l0.length : Int) = (l1.length : Int) then (laws_eqForkS.l0 k l0 l1 0) else (some false)) = some r := h
 clear h
 by_cases c3 : (l0.length : Int) = (l1.length : Int)
 ·
  rw [if_pos c3] at H
  have c3b0 := beq_iff_eq.mpr c3
  have c3b1 := bne_eq_false_iff_eq.mpr c3
  have c3b2 : (l0.length == l1.length) = true := by first | simpa using c3 | (simp at c3 ⊢; omega)
  clear c3
  have H' := A_ H
  clear H
  go_enter Try.func64, Try.ntmps64
  go_wp2
  go_loopg [5] k (fun kq v5 w' => ∃ (x5_1 : Int), v5 = .int .i64 x5_1 ∧ Aside0 (laws_eqForkS.l0 kq l0 l1 x5_1 = some r) ∧ Aside0 (kq ≤ k) ∧ Aside0 (Below w.heap.size w w'))
  case atStart => exact ⟨(0), z1_2_, H', ⟨Nat.le_refl _⟩, ⟨z1_1_⟩⟩
  case round =>
   clear H'
   try clear c1
   try clear p2
   try clear c3
   try clear c3b0
   try clear c3b1
   try clear c3b2
   obtain ⟨x5_1, rfl, HA, HK1, HB⟩ := hrel
   cases gk with
   | zero => exact absurd HA.out (by simp [laws_eqForkS.l0])
   | succ k1 =>
    have H := HA.out
    clear HA
    simp only [laws_eqForkS.l0] at H
    by_cases c4 : x5_1 < (l0.length : Int)
    ·
     rw [if_pos c4] at H
     have c4b0 := decide_eq_true c4
     clear c4
     by_cases c5 : 0 ≤ x5_1
     ·
      rw [if_pos c5] at H
      have c5b0 := decide_eq_true c5
      clear c5
      by_cases c6 : x5_1 < (l1.length : Int)
      ·
       rw [if_pos c6] at H
       have c6b0 := decide_eq_true c6
       clear c6
       replace H := Option.bind_eq_some_iff.mp H
       obtain ⟨t110, A70, H⟩ := H
       try dsimp only at H
       have A7 := A_ A70
       clear A70
       by_cases c8 : t110 = true
       ·
        subst c8
        have H1 := H; rw [if_pos rfl] at H1
        clear H
        have H := H1
        clear H1
        have H' := A_ H
        clear H
        try go_wp2
        have _ := A_ (below_drew1 HB.out)
        clear HB
        rename_i HB
        have p108 : 0 ≤ (x5_1 : Int) := of_decide_eq_true (by assumption)
        have q108 : x5_1 < (l0.length : Int) := of_decide_eq_true (by assumption)
        obtain ⟨ad108, e108, hx108_0, hx108_1, hx108_2, hx108_3, hx108_4⟩ := at_T89 HR0.out x5_1 p108 q108
        have hw108_4 := hx108_4
        have hw108_3 := hx108_3
        have hw108_2 := hx108_2
        have hw108_1 := hx108_1
        have hw108_0 := hx108_0
        cases e108
        replace hx108_0 := cel HB.out hx108_0
        replace hx108_1 := cel HB.out hx108_1
        replace hx108_2 := cel HB.out hx108_2
        replace hx108_3 := cel HB.out hx108_3
        replace hx108_4 := cel HB.out hx108_4
        replace p108 := eq_true p108
        replace q108 := eq_true q108
        have p109 : 0 ≤ (x5_1 : Int) := of_decide_eq_true (by assumption)
        have q109 : x5_1 < (l1.length : Int) := of_decide_eq_true (by assumption)
        obtain ⟨ad109, e109, hx109_0, hx109_1, hx109_2, hx109_3, hx109_4⟩ := at_T89 HR1.out x5_1 p109 q109
        have hw109_4 := hx109_4
        have hw109_3 := hx109_3
        have hw109_2 := hx109_2
        have hw109_1 := hx109_1
        have hw109_0 := hx109_0
        cases e109
        replace hx109_0 := cel HB.out hx109_0
        replace hx109_1 := cel HB.out hx109_1
        replace hx109_2 := cel HB.out hx109_2
        replace hx109_3 := cel HB.out hx109_3
        replace hx109_4 := cel HB.out hx109_4
        replace p109 := eq_true p109
        replace q109 := eq_true q109
        refine start_ (n := 10) (S := fun w' => w'.cell? (ad108.add ((x5_1).toNat * 5)) = some (.int .i8 ((rd_T89 l0 x5_1).f0)) ∧ w'.cell? ⟨(ad108.add ((x5_1).toNat * 5)).block, (ad108.add ((x5_1).toNat * 5)).off + 1, none⟩ = some (.int .i8 ((rd_T89 l0 x5_1).f1)) ∧ w'.cell? ⟨(ad108.add ((x5_1).toNat * 5)).block, (ad108.add ((x5_1).toNat * 5)).off + 2, none⟩ = some (.int .i16 ((rd_T89 l0 x5_1).f2.f0)) ∧ w'.cell? ⟨(ad108.add ((x5_1).toNat * 5)).block, (ad108.add ((x5_1).toNat * 5)).off + 3, none⟩ = some (.int .i16 ((rd_T89 l0 x5_1).f2.f1)) ∧ w'.cell? ⟨(ad108.add ((x5_1).toNat * 5)).block, (ad108.add ((x5_1).toNat * 5)).off + 4, none⟩ = some (.int .i16 ((rd_T89 l0 x5_1).f2.f2)) ∧ w'.cell? (ad109.add ((x5_1).toNat * 5)) = some (.int .i8 ((rd_T89 l1 x5_1).f0)) ∧ w'.cell? ⟨(ad109.add ((x5_1).toNat * 5)).block, (ad109.add ((x5_1).toNat * 5)).off + 1, none⟩ = some (.int .i8 ((rd_T89 l1 x5_1).f1)) ∧ w'.cell? ⟨(ad109.add ((x5_1).toNat * 5)).block, (ad109.add ((x5_1).toNat * 5)).off + 2, none⟩ = some (.int .i16 ((rd_T89 l1 x5_1).f2.f0)) ∧ w'.cell? ⟨(ad109.add ((x5_1).toNat * 5)).block, (ad109.add ((x5_1).toNat * 5)).off + 3, none⟩ = some (.int .i16 ((rd_T89 l1 x5_1).f2.f1)) ∧ w'.cell? ⟨(ad109.add ((x5_1).toNat * 5)).block, (ad109.add ((x5_1).toNat * 5)).off + 4, none⟩ = some (.int .i16 ((rd_T89 l1 x5_1).f2.f2))) (ds := []) #[false, false, false, false, false, false, false, false, false, false] (by kernel_rfl) rfl rfl ⟨(cel HB.out hw108_0 :), (cel HB.out hw108_1 :), (cel HB.out hw108_2 :), (cel HB.out hw108_3 :), (cel HB.out hw108_4 :), (cel HB.out hw109_0 :), (cel HB.out hw109_1 :), (cel HB.out hw109_2 :), (cel HB.out hw109_3 :), (cel HB.out hw109_4 :)⟩ (fun hHeld => ?_); refine with_tabW laws_eqForkS.tab6 laws_eqForkS.bits6 (fun HT_ HW_ => ?_)
        generalize wr.drew = w9 at HB hx108_0 hx108_1 hx108_2 hx108_3 hx108_4 hx109_0 hx109_1 hx109_2 hx109_3 hx109_4 hHeld ⊢
        refine pure_ (i := 0) (N := some 17) (v := ?_) (a' := ?_) #[true, false, false, false, false, false, false, false, false, false] rfl rfl (any_of HT_.out (by kernel_rfl)) (fun _ _ _ h => h) (Or.inl ⟨by rfl, ?_⟩) ?_ ?_
        rotate_left
        ·
         intro w'
         go_simp
         with_reducible rfl
        rotate_left
        ·
         simp only [Act.put, sA_, sB_, sC_, i64_w, i32_w]
         rfl
        refine pure_ (i := 1) (N := some 18) (v := ?_) (a' := ?_) #[true, true, false, false, false, false, false, false, false, false] rfl rfl (any_of HT_.out (by kernel_rfl)) (fun _ _ _ h => h) (Or.inl ⟨by rfl, ?_⟩) ?_ ?_
        rotate_left
        ·
         intro w'
         go_simp
         with_reducible rfl
        rotate_left
        ·
         simp only [Act.put, sA_, sB_, sC_, i64_w, i32_w]
         rfl
        refine pure_ (i := 2) (N := some 19) (v := ?_) (a' := ?_) #[true, true, true, false, false, false, false, false, false, false] rfl rfl (any_of HT_.out (by kernel_rfl)) (fun _ _ _ h => h) (Or.inl ⟨by rfl, ?_⟩) ?_ ?_
        rotate_left
        ·
         intro w'
         go_simp
         with_reducible rfl
        rotate_left
        ·
         simp only [Act.put, sA_, sB_, sC_, i64_w, i32_w]
         rfl
        refine pure_ (i := 4) (N := some 21) (v := ?_) (a' := ?_) #[true, true, true, false, true, false, false, false, false, false] rfl rfl (any_of HT_.out (by kernel_rfl)) (fun _ _ _ h => h) (Or.inl ⟨by rfl, ?_⟩) ?_ ?_
        rotate_left
        ·
         intro w'
         go_simp
         with_reducible rfl
        rotate_left
        ·
         simp only [Act.put, sA_, sB_, sC_, i64_w, i32_w]
         rfl
        refine pure_ (i := 5) (N := some 22) (v := ?_) (a' := ?_) #[true, true, true, false, true, true, false, false, false, false] rfl rfl (any_of HT_.out (by kernel_rfl)) (fun _ _ _ h => h) (Or.inl ⟨by rfl, ?_⟩) ?_ ?_
        rotate_left
        ·
         intro w'
         go_simp
         with_reducible rfl
        rotate_left
        ·
         simp only [Act.put, sA_, sB_, sC_, i64_w, i32_w]
         rfl
        refine pure_ (i := 6) (N := some 23) (v := ?_) (a' := ?_) #[true, true, true, false, true, true, true, false, false, false] rfl rfl (any_of HT_.out (by kernel_rfl)) (fun _ _ _ h => h) (Or.inl ⟨by rfl, ?_⟩) ?_ ?_
        rotate_left
        ·
         intro w'
         go_simp
         with_reducible rfl
        rotate_left
        ·
         simp only [Act.put, sA_, sB_, sC_, i64_w, i32_w]
         rfl
        refine take_ (i := 3) (N := some 20) (v := ?_) (a' := ?_) #[true, true, true, true, true, true, true, false, false, false] rfl rfl (take_ofW HT_.out HW_.out (by kernel_rfl)) (fun _ _ _ h => h) (Or.inl ⟨by rfl, ?_⟩) hHeld ?_ ?_
        rotate_left
        ·
         rintro w' ⟨s0, s1, s2, s3, s4, s5, s6, s7, s8, s9⟩
         go_simp
         with_reducible rfl
        rotate_left
        ·
         simp only [Act.put, sA_, sB_, sC_, i64_w, i32_w]
         rfl
        refine take_ (i := 7) (N := some 24) (v := ?_) (a' := ?_) #[true, true, true, true, true, true, true, true, false, false] rfl rfl (take_ofW HT_.out HW_.out (by kernel_rfl)) (fun _ _ _ h => h) (Or.inl ⟨by rfl, ?_⟩) hHeld ?_ ?_
        rotate_left
        ·
         rintro w' ⟨s0, s1, s2, s3, s4, s5, s6, s7, s8, s9⟩
         go_simp
         with_reducible rfl
        rotate_left
        ·
         simp only [Act.put, sA_, sB_, sC_, i64_w, i32_w]
         rfl
        refine one_ (i := 8) (N := some 25) #[true, true, true, true, true, true, true, true, true, false] rfl rfl (one_of HT_.out (by kernel_rfl)) (by decide) (fun K hK => ?_)
        refine goes_ Try.func116 (by kernel_rfl) rfl #[.agg #[.int .i8 ((rd_T89 l0 x5_1).f0), .int .i8 ((rd_T89 l0 x5_1).f1), .int .i16 ((rd_T89 l0 x5_1).f2.f0), .int .i16 ((rd_T89 l0 x5_1).f2.f1), .int .i16 ((rd_T89 l0 x5_1).f2.f2)], .agg #[.int .i8 ((rd_T89 l1 x5_1).f0), .int .i8 ((rd_T89 l1 x5_1).f1), .int .i16 ((rd_T89 l1 x5_1).f2.f0), .int .i16 ((rd_T89 l1 x5_1).f2.f1), .int .i16 ((rd_T89 l1 x5_1).f2.f2)]] (by rfl) rfl rfl z1_8_ ?_
        with_reducible refine (laws_eqFork.calls k1 ((rd_T89 l0 x5_1).f0) ((rd_T89 l0 x5_1).f1) ((rd_T89 l0 x5_1).f2.f0) ((rd_T89 l0 x5_1).f2.f1) ((rd_T89 l0 x5_1).f2.f2) ((rd_T89 l1 x5_1).f0) ((rd_T89 l1 x5_1).f1) ((rd_T89 l1 x5_1).f2.f0) ((rd_T89 l1 x5_1).f2.f1) ((rd_T89 l1 x5_1).f2.f2) true _ A7.out).mono ?_
        rintro e w10 ⟨rfl, hb⟩
        refine ⟨_, rfl, ?_⟩
        have _ := A_ (below_step z1_1_ hb)
        clear HB
        rename_i HB
        (try clear hb)
        (try clear hb2)
        (try clear hk)
        (try clear hi)
        refine hK.out _ _ ⟨(cel HB.out hw108_0 :), (cel HB.out hw108_1 :), (cel HB.out hw108_2 :), (cel HB.out hw108_3 :), (cel HB.out hw108_4 :), (cel HB.out hw109_0 :), (cel HB.out hw109_1 :), (cel HB.out hw109_2 :), (cel HB.out hw109_3 :), (cel HB.out hw109_4 :)⟩ (fun hHeld => ?_)
        clear hK K
        refine norm_ (a' := ?_) ?_ ?_
        rotate_left
        ·
         show Act.put _ (some 25) _ = _
         simp only [Act.put, sA_, sB_, sC_, i64_w, i32_w]
         rfl
        refine pure_ (i := 9) (N := some 26) (v := ?_) (a' := ?_) #[true, true, true, true, true, true, true, true, true, true] rfl rfl (any_of HT_.out (by kernel_rfl)) (fun _ _ _ h => h) (Or.inl ⟨by rfl, ?_⟩) ?_ ?_
        rotate_left
        ·
         intro w'
         go_simp
         with_reducible rfl
        rotate_left
        ·
         simp only [Act.put, sA_, sB_, sC_, i64_w, i32_w]
         rfl
        refine done_ (done_of HT_.out (by kernel_rfl)) ?_
        try go_wp2
        go_roundg k1
        case measure => have := HK1.out; omega
        case rel => exact ⟨(wrap64 (x5_1 + 1)), z1_2_, H', ⟨(by have := HK1.out; omega)⟩, ⟨z1_1_⟩⟩
       ·
        replace c8 := Bool.eq_false_iff.mpr c8
        subst c8
        have H1 := H; rw [if_neg (show ¬ (false = true) by decide)] at H1
        clear H
        have H := H1
        clear H1
        obtain rfl := Option.some.inj H
        try go_wp2
        have _ := A_ (below_drew1 HB.out)
        clear HB
        rename_i HB
        have p108 : 0 ≤ (x5_1 : Int) := of_decide_eq_true (by assumption)
        have q108 : x5_1 < (l0.length : Int) := of_decide_eq_true (by assumption)
        obtain ⟨ad108, e108, hx108_0, hx108_1, hx108_2, hx108_3, hx108_4⟩ := at_T89 HR0.out x5_1 p108 q108
        have hw108_4 := hx108_4
        have hw108_3 := hx108_3
        have hw108_2 := hx108_2
        have hw108_1 := hx108_1
        have hw108_0 := hx108_0
        cases e108
        replace hx108_0 := cel HB.out hx108_0
        replace hx108_1 := cel HB.out hx108_1
        replace hx108_2 := cel HB.out hx108_2
        replace hx108_3 := cel HB.out hx108_3
        replace hx108_4 := cel HB.out hx108_4
        replace p108 := eq_true p108
        replace q108 := eq_true q108
        have p109 : 0 ≤ (x5_1 : Int) := of_decide_eq_true (by assumption)
        have q109 : x5_1 < (l1.length : Int) := of_decide_eq_true (by assumption)
        obtain ⟨ad109, e109, hx109_0, hx109_1, hx109_2, hx109_3, hx109_4⟩ := at_T89 HR1.out x5_1 p109 q109
        have hw109_4 := hx109_4
        have hw109_3 := hx109_3
        have hw109_2 := hx109_2
        have hw109_1 := hx109_1
        have hw109_0 := hx109_0
        cases e109
        replace hx109_0 := cel HB.out hx109_0
        replace hx109_1 := cel HB.out hx109_1
        replace hx109_2 := cel HB.out hx109_2
        replace hx109_3 := cel HB.out hx109_3
        replace hx109_4 := cel HB.out hx109_4
        replace p109 := eq_true p109
        replace q109 := eq_true q109
        refine start_ (n := 10) (S := fun w' => w'.cell? (ad108.add ((x5_1).toNat * 5)) = some (.int .i8 ((rd_T89 l0 x5_1).f0)) ∧ w'.cell? ⟨(ad108.add ((x5_1).toNat * 5)).block, (ad108.add ((x5_1).toNat * 5)).off + 1, none⟩ = some (.int .i8 ((rd_T89 l0 x5_1).f1)) ∧ w'.cell? ⟨(ad108.add ((x5_1).toNat * 5)).block, (ad108.add ((x5_1).toNat * 5)).off + 2, none⟩ = some (.int .i16 ((rd_T89 l0 x5_1).f2.f0)) ∧ w'.cell? ⟨(ad108.add ((x5_1).toNat * 5)).block, (ad108.add ((x5_1).toNat * 5)).off + 3, none⟩ = some (.int .i16 ((rd_T89 l0 x5_1).f2.f1)) ∧ w'.cell? ⟨(ad108.add ((x5_1).toNat * 5)).block, (ad108.add ((x5_1).toNat * 5)).off + 4, none⟩ = some (.int .i16 ((rd_T89 l0 x5_1).f2.f2)) ∧ w'.cell? (ad109.add ((x5_1).toNat * 5)) = some (.int .i8 ((rd_T89 l1 x5_1).f0)) ∧ w'.cell? ⟨(ad109.add ((x5_1).toNat * 5)).block, (ad109.add ((x5_1).toNat * 5)).off + 1, none⟩ = some (.int .i8 ((rd_T89 l1 x5_1).f1)) ∧ w'.cell? ⟨(ad109.add ((x5_1).toNat * 5)).block, (ad109.add ((x5_1).toNat * 5)).off + 2, none⟩ = some (.int .i16 ((rd_T89 l1 x5_1).f2.f0)) ∧ w'.cell? ⟨(ad109.add ((x5_1).toNat * 5)).block, (ad109.add ((x5_1).toNat * 5)).off + 3, none⟩ = some (.int .i16 ((rd_T89 l1 x5_1).f2.f1)) ∧ w'.cell? ⟨(ad109.add ((x5_1).toNat * 5)).block, (ad109.add ((x5_1).toNat * 5)).off + 4, none⟩ = some (.int .i16 ((rd_T89 l1 x5_1).f2.f2))) (ds := []) #[false, false, false, false, false, false, false, false, false, false] (by kernel_rfl) rfl rfl ⟨(cel HB.out hw108_0 :), (cel HB.out hw108_1 :), (cel HB.out hw108_2 :), (cel HB.out hw108_3 :), (cel HB.out hw108_4 :), (cel HB.out hw109_0 :), (cel HB.out hw109_1 :), (cel HB.out hw109_2 :), (cel HB.out hw109_3 :), (cel HB.out hw109_4 :)⟩ (fun hHeld => ?_); refine with_tabW laws_eqForkS.tab6 laws_eqForkS.bits6 (fun HT_ HW_ => ?_)
        generalize wr.drew = w11 at HB hx108_0 hx108_1 hx108_2 hx108_3 hx108_4 hx109_0 hx109_1 hx109_2 hx109_3 hx109_4 hHeld ⊢
        refine pure_ (i := 0) (N := some 17) (v := ?_) (a' := ?_) #[true, false, false, false, false, false, false, false, false, false] rfl rfl (any_of HT_.out (by kernel_rfl)) (fun _ _ _ h => h) (Or.inl ⟨by rfl, ?_⟩) ?_ ?_
        rotate_left
        ·
         intro w'
         go_simp
         with_reducible rfl
        rotate_left
        ·
         simp only [Act.put, sA_, sB_, sC_, i64_w, i32_w]
         rfl
        refine pure_ (i := 1) (N := some 18) (v := ?_) (a' := ?_) #[true, true, false, false, false, false, false, false, false, false] rfl rfl (any_of HT_.out (by kernel_rfl)) (fun _ _ _ h => h) (Or.inl ⟨by rfl, ?_⟩) ?_ ?_
        rotate_left
        ·
         intro w'
         go_simp
         with_reducible rfl
        rotate_left
        ·
         simp only [Act.put, sA_, sB_, sC_, i64_w, i32_w]
         rfl
        refine pure_ (i := 2) (N := some 19) (v := ?_) (a' := ?_) #[true, true, true, false, false, false, false, false, false, false] rfl rfl (any_of HT_.out (by kernel_rfl)) (fun _ _ _ h => h) (Or.inl ⟨by rfl, ?_⟩) ?_ ?_
        rotate_left
        ·
         intro w'
         go_simp
         with_reducible rfl
        rotate_left
        ·
         simp only [Act.put, sA_, sB_, sC_, i64_w, i32_w]
         rfl
        refine pure_ (i := 4) (N := some 21) (v := ?_) (a' := ?_) #[true, true, true, false, true, false, false, false, false, false] rfl rfl (any_of HT_.out (by kernel_rfl)) (fun _ _ _ h => h) (Or.inl ⟨by rfl, ?_⟩) ?_ ?_
        rotate_left
        ·
         intro w'
         go_simp
         with_reducible rfl
        rotate_left
        ·
         simp only [Act.put, sA_, sB_, sC_, i64_w, i32_w]
         rfl
        refine pure_ (i := 5) (N := some 22) (v := ?_) (a' := ?_) #[true, true, true, false, true, true, false, false, false, false] rfl rfl (any_of HT_.out (by kernel_rfl)) (fun _ _ _ h => h) (Or.inl ⟨by rfl, ?_⟩) ?_ ?_
        rotate_left
        ·
         intro w'
         go_simp
         with_reducible rfl
        rotate_left
        ·
         simp only [Act.put, sA_, sB_, sC_, i64_w, i32_w]
         rfl
        refine pure_ (i := 6) (N := some 23) (v := ?_) (a' := ?_) #[true, true, true, false, true, true, true, false, false, false] rfl rfl (any_of HT_.out (by kernel_rfl)) (fun _ _ _ h => h) (Or.inl ⟨by rfl, ?_⟩) ?_ ?_
        rotate_left
        ·
         intro w'
         go_simp
         with_reducible rfl
        rotate_left
        ·
         simp only [Act.put, sA_, sB_, sC_, i64_w, i32_w]
         rfl
        refine take_ (i := 3) (N := some 20) (v := ?_) (a' := ?_) #[true, true, true, true, true, true, true, false, false, false] rfl rfl (take_ofW HT_.out HW_.out (by kernel_rfl)) (fun _ _ _ h => h) (Or.inl ⟨by rfl, ?_⟩) hHeld ?_ ?_
        rotate_left
        ·
         rintro w' ⟨s0, s1, s2, s3, s4, s5, s6, s7, s8, s9⟩
         go_simp
         with_reducible rfl
        rotate_left
        ·
         simp only [Act.put, sA_, sB_, sC_, i64_w, i32_w]
         rfl
        refine take_ (i := 7) (N := some 24) (v := ?_) (a' := ?_) #[true, true, true, true, true, true, true, true, false, false] rfl rfl (take_ofW HT_.out HW_.out (by kernel_rfl)) (fun _ _ _ h => h) (Or.inl ⟨by rfl, ?_⟩) hHeld ?_ ?_
        rotate_left
        ·
         rintro w' ⟨s0, s1, s2, s3, s4, s5, s6, s7, s8, s9⟩
         go_simp
         with_reducible rfl
        rotate_left
        ·
         simp only [Act.put, sA_, sB_, sC_, i64_w, i32_w]
         rfl
        refine one_ (i := 8) (N := some 25) #[true, true, true, true, true, true, true, true, true, false] rfl rfl (one_of HT_.out (by kernel_rfl)) (by decide) (fun K hK => ?_)
        refine goes_ Try.func116 (by kernel_rfl) rfl #[.agg #[.int .i8 ((rd_T89 l0 x5_1).f0), .int .i8 ((rd_T89 l0 x5_1).f1), .int .i16 ((rd_T89 l0 x5_1).f2.f0), .int .i16 ((rd_T89 l0 x5_1).f2.f1), .int .i16 ((rd_T89 l0 x5_1).f2.f2)], .agg #[.int .i8 ((rd_T89 l1 x5_1).f0), .int .i8 ((rd_T89 l1 x5_1).f1), .int .i16 ((rd_T89 l1 x5_1).f2.f0), .int .i16 ((rd_T89 l1 x5_1).f2.f1), .int .i16 ((rd_T89 l1 x5_1).f2.f2)]] (by rfl) rfl rfl z1_8_ ?_
        with_reducible refine (laws_eqFork.calls k1 ((rd_T89 l0 x5_1).f0) ((rd_T89 l0 x5_1).f1) ((rd_T89 l0 x5_1).f2.f0) ((rd_T89 l0 x5_1).f2.f1) ((rd_T89 l0 x5_1).f2.f2) ((rd_T89 l1 x5_1).f0) ((rd_T89 l1 x5_1).f1) ((rd_T89 l1 x5_1).f2.f0) ((rd_T89 l1 x5_1).f2.f1) ((rd_T89 l1 x5_1).f2.f2) false _ A7.out).mono ?_
        rintro e w12 ⟨rfl, hb⟩
        refine ⟨_, rfl, ?_⟩
        have _ := A_ (below_step z1_1_ hb)
        clear HB
        rename_i HB
        (try clear hb)
        (try clear hb2)
        (try clear hk)
        (try clear hi)
        refine hK.out _ _ ⟨(cel HB.out hw108_0 :), (cel HB.out hw108_1 :), (cel HB.out hw108_2 :), (cel HB.out hw108_3 :), (cel HB.out hw108_4 :), (cel HB.out hw109_0 :), (cel HB.out hw109_1 :), (cel HB.out hw109_2 :), (cel HB.out hw109_3 :), (cel HB.out hw109_4 :)⟩ (fun hHeld => ?_)
        clear hK K
        refine norm_ (a' := ?_) ?_ ?_
        rotate_left
        ·
         show Act.put _ (some 25) _ = _
         simp only [Act.put, sA_, sB_, sC_, i64_w, i32_w]
         rfl
        refine pure_ (i := 9) (N := some 26) (v := ?_) (a' := ?_) #[true, true, true, true, true, true, true, true, true, true] rfl rfl (any_of HT_.out (by kernel_rfl)) (fun _ _ _ h => h) (Or.inl ⟨by rfl, ?_⟩) ?_ ?_
        rotate_left
        ·
         intro w'
         go_simp
         with_reducible rfl
        rotate_left
        ·
         simp only [Act.put, sA_, sB_, sC_, i64_w, i32_w]
         rfl
        refine done_ (done_of HT_.out (by kernel_rfl)) ?_
        try go_wp2
        go_ret
        exact ⟨z1_6_, z1_1_⟩
      ·
       rw [if_neg c6] at H
       exact absurd H (by simp)
     ·
      rw [if_neg c5] at H
      exact absurd H (by simp)
    ·
     rw [if_neg c4] at H
     have c4b0 := decide_eq_false c4
     clear c4
     obtain rfl := Option.some.inj H
     go_wp2
     go_ret
     exact ⟨z1_6_, z1_1_⟩
 ·
  rw [if_neg c3] at H
  have c3b0 : ((l0.length : Int) == (l1.length : Int)) = false := beq_eq_false_iff_ne.mpr c3
  have c3b1 : ((l0.length : Int) != (l1.length : Int)) = true := bne_iff_ne.mpr c3
  have c3b2 : (l0.length == l1.length) = false := by first | simpa using c3 | (simp at c3 ⊢; omega)
  obtain rfl := Option.some.inj H
  go_enter Try.func64, Try.ntmps64
  go_wp2
  go_ret
  exact ⟨z1_6_, z1_1_⟩
/-! ### laws_eqTree: function 21 -/
def laws_eqTree.f (k : Nat) (l0_0 : List (S89)) (l1_0 : List (S89)) : Option (Bool) := (laws_eqForkS.f k l0_0 l1_0).bind fun t113 => (if t113 = true then (some true) else (some false))
theorem laws_eqTree.mono : ∀ a0 a1 k, LeO (laws_eqTree.f k a0 a1) (laws_eqTree.f (k + 1) a0 a1) := by
 intro a0 a1 k
 unfold laws_eqTree.f
 repeat' first
   | (with_reducible exact laws_eqForkS.mono _ _ _)
   | (with_reducible exact LeO.refl _)
   | (with_reducible exact LeO.none _)
   | (with_reducible refine LeO.ite ?_ ?_)
   | (with_reducible refine LeO.bind ?_ (fun _ => ?_))
   | exact LeO.none _
   | refine LeO.ite ?_ ?_
   | refine LeO.bind ?_ (fun _ => ?_)
set_option maxHeartbeats 8000000 in
set_option maxRecDepth 100000 in
theorem laws_eqTree.calls (k : Nat) (A0_0 : Option Addr) (c0_0 : Nat) (l0_0 : List (S89)) (A1_0 : Option Addr) (c1_0 : Nat) (l1_0 : List (S89)) (r : Bool) (w : World) (hr0_0 : Kd.C k89 w A0_0 l0_0.length l0_0) (hc0_0 : l0_0.length ≤ c0_0) (hr1_0 : Kd.C k89 w A1_0 l1_0.length l1_0) (hc1_0 : l1_0.length ≤ c1_0) (h : laws_eqTree.f k l0_0 l1_0 = some r) :
  Calls Try.prog 21 #[.agg #[.slice A0_0 l0_0.length c0_0], .agg #[.slice A1_0 l1_0.length c1_0]] w fun e w' => e = .returned (.bool r) ∧ Below w.heap.size w w' := by
 have hu34 := Try.underlying34
 have HR0_0 := A_ hr0_0
 have HC0_0 := A_ hc0_0
 clear hr0_0 hc0_0
 have HR1_0 := A_ hr1_0
 have HC1_0 := A_ hc1_0
 clear hr1_0 hc1_0
 have HB := A_ (Below.refl w.heap.size w)
 have H : ((laws_eqForkS.f k l0_0 l1_0).bind fun t113 => (if t113 = true then (some true) else (some false))) = some r := h
 clear h
 replace H := Option.bind_eq_some_iff.mp H
 obtain ⟨t113, A30, H⟩ := H
 try dsimp only at H
 have A3 := A_ A30
 clear A30
 by_cases c4 : t113 = true
 ·
  subst c4
  have H1 := H; rw [if_pos rfl] at H1
  clear H
  have H := H1
  clear H1
  obtain rfl := Option.some.inj H
  go_enter Try.func21, Try.ntmps21
  go_wp2_with (first | ((with_reducible refine gate_dst (N := 2) rfl ?_); refine box_event ?hg (N := 2) ?hd (cs := #[.slice A0_0 l0_0.length c0_0]) (t := 34) ?hr ?_; (case hd => rfl); (case hg => rfl); (case hr => first | (go_simp; done) | (go_simp; rfl)); intro gb111 hg w5 hbox hb; have _ := A_ (below_step z1_1_ hb); have _ := A_ (hbox); have _ := A_ ((by rw [hg]; exact (below_size z1_1_) : w.heap.size ≤ gb111)); have _ := A_ ((by rw [hg]; exact (below_size z1_1_) : w.heap.size ≤ gb111)); clear HB; rename_i HB BK111 GW111 GE111; clear hb hbox hg) | ((with_reducible refine gate_dst (N := 3) rfl ?_); refine box_event ?hg (N := 3) ?hd (cs := #[.slice A1_0 l1_0.length c1_0]) (t := 34) ?hr ?_; (case hd => rfl); (case hg => rfl); (case hr => first | (go_simp; done) | (go_simp; rfl)); intro gb112 hg w6 hbox hb; have _ := A_ (blk_below (g := gb111) (o := .cells #[.slice A0_0 l0_0.length c0_0] 34 (0, 0)) z1_12_ hb); have _ := A_ (below_step z1_11_ hb); have _ := A_ (hbox); have _ := A_ ((by rw [hg]; exact (below_size z1_11_) : w.heap.size ≤ gb112)); have _ := A_ ((by rw [hg]; exact (below_size z1_11_) : w.heap.size ≤ gb112)); have _ := A_ ((by rw [hg]; exact Nat.ne_of_lt (blk_lt (g := gb111) (o := .cells #[.slice A0_0 l0_0.length c0_0] 34 (0, 0)) z1_12_) : gb111 ≠ gb112)); have _ := A_ ((by rw [hg]; exact Nat.ne_of_gt (blk_lt (g := gb111) (o := .cells #[.slice A0_0 l0_0.length c0_0] 34 (0, 0)) z1_12_) : gb112 ≠ gb111)); clear BK111 HB; rename_i BK111 HB BK112 GW112 GE112 NB111_112 NB112_111; clear hb hbox hg; have hnb7 := NB111_112.out; have hnc7 := NB112_111.out; have hcz8_0 : w6.cell? ⟨gb111, 0, none⟩ = some (.slice A0_0 l0_0.length c0_0) := (blk_cell BK111.out 0).trans rfl; have hfz8_0 := blk_frozen BK111.out 0; have hcz9_0 : w6.cell? ⟨gb112, 0, none⟩ = some (.slice A1_0 l1_0.length c1_0) := (blk_cell BK112.out 0).trans rfl; have hfz9_0 := blk_frozen BK112.out 0) | ((with_reducible refine gate_callee (f := 64) rfl ?_); refine goesL_ (some 9) rfl rfl Try.func64 (by kernel_rfl) rfl #[.slice A0_0 l0_0.length c0_0, .slice A1_0 l1_0.length c1_0] rfl z1_8_ ?_; (with_reducible refine (laws_eqForkS.calls k _ _ l0_0 _ _ l1_0 true _ ?side1 ?side2 ?side3 ?side4 A3.out).mono ?_); (case side1 => have hx_ := (Kd.C_below HR0_0.out HB.out); exact kc_); (case side2 => exact HC0_0.out); (case side3 => have hx_ := (Kd.C_below HR1_0.out HB.out); exact kc_); (case side4 => exact HC1_0.out); rintro e w10 ⟨rfl, hb⟩; refine ⟨_, rfl, ?_⟩; have _ := A_ (blk_below (g := gb111) (o := .cells #[.slice A0_0 l0_0.length c0_0] 34 (0, 0)) z1_12_ hb); have _ := A_ (blk_below (g := gb112) (o := .cells #[.slice A1_0 l1_0.length c1_0] 34 (0, 0)) z1_20_ hb); have _ := A_ (below_step z1_14_ hb); clear BK111 BK112 HB; rename_i BK111 BK112 HB; (try clear hb)))
  go_ret
  exact ⟨z1_6_, z1_14_⟩
 ·
  replace c4 := Bool.eq_false_iff.mpr c4
  subst c4
  have H1 := H; rw [if_neg (show ¬ (false = true) by decide)] at H1
  clear H
  have H := H1
  clear H1
  obtain rfl := Option.some.inj H
  go_enter Try.func21, Try.ntmps21
  go_wp2_with (first | ((with_reducible refine gate_dst (N := 2) rfl ?_); refine box_event ?hg (N := 2) ?hd (cs := #[.slice A0_0 l0_0.length c0_0]) (t := 34) ?hr ?_; (case hd => rfl); (case hg => rfl); (case hr => first | (go_simp; done) | (go_simp; rfl)); intro gb111 hg w11 hbox hb; have _ := A_ (below_step z1_1_ hb); have _ := A_ (hbox); have _ := A_ ((by rw [hg]; exact (below_size z1_1_) : w.heap.size ≤ gb111)); have _ := A_ ((by rw [hg]; exact (below_size z1_1_) : w.heap.size ≤ gb111)); clear HB; rename_i HB BK111 GW111 GE111; clear hb hbox hg) | ((with_reducible refine gate_dst (N := 3) rfl ?_); refine box_event ?hg (N := 3) ?hd (cs := #[.slice A1_0 l1_0.length c1_0]) (t := 34) ?hr ?_; (case hd => rfl); (case hg => rfl); (case hr => first | (go_simp; done) | (go_simp; rfl)); intro gb112 hg w12 hbox hb; have _ := A_ (blk_below (g := gb111) (o := .cells #[.slice A0_0 l0_0.length c0_0] 34 (0, 0)) z1_12_ hb); have _ := A_ (below_step z1_11_ hb); have _ := A_ (hbox); have _ := A_ ((by rw [hg]; exact (below_size z1_11_) : w.heap.size ≤ gb112)); have _ := A_ ((by rw [hg]; exact (below_size z1_11_) : w.heap.size ≤ gb112)); have _ := A_ ((by rw [hg]; exact Nat.ne_of_lt (blk_lt (g := gb111) (o := .cells #[.slice A0_0 l0_0.length c0_0] 34 (0, 0)) z1_12_) : gb111 ≠ gb112)); have _ := A_ ((by rw [hg]; exact Nat.ne_of_gt (blk_lt (g := gb111) (o := .cells #[.slice A0_0 l0_0.length c0_0] 34 (0, 0)) z1_12_) : gb112 ≠ gb111)); clear BK111 HB; rename_i BK111 HB BK112 GW112 GE112 NB111_112 NB112_111; clear hb hbox hg; have hnb13 := NB111_112.out; have hnc13 := NB112_111.out; have hcz14_0 : w12.cell? ⟨gb111, 0, none⟩ = some (.slice A0_0 l0_0.length c0_0) := (blk_cell BK111.out 0).trans rfl; have hfz14_0 := blk_frozen BK111.out 0; have hcz15_0 : w12.cell? ⟨gb112, 0, none⟩ = some (.slice A1_0 l1_0.length c1_0) := (blk_cell BK112.out 0).trans rfl; have hfz15_0 := blk_frozen BK112.out 0) | ((with_reducible refine gate_callee (f := 64) rfl ?_); refine goesL_ (some 9) rfl rfl Try.func64 (by kernel_rfl) rfl #[.slice A0_0 l0_0.length c0_0, .slice A1_0 l1_0.length c1_0] rfl z1_8_ ?_; (with_reducible refine (laws_eqForkS.calls k _ _ l0_0 _ _ l1_0 false _ ?side1 ?side2 ?side3 ?side4 A3.out).mono ?_); (case side1 => have hx_ := (Kd.C_below HR0_0.out HB.out); exact kc_); (case side2 => exact HC0_0.out); (case side3 => have hx_ := (Kd.C_below HR1_0.out HB.out); exact kc_); (case side4 => exact HC1_0.out); rintro e w16 ⟨rfl, hb⟩; refine ⟨_, rfl, ?_⟩; have _ := A_ (blk_below (g := gb111) (o := .cells #[.slice A0_0 l0_0.length c0_0] 34 (0, 0)) z1_12_ hb); have _ := A_ (blk_below (g := gb112) (o := .cells #[.slice A1_0 l1_0.length c1_0] 34 (0, 0)) z1_20_ hb); have _ := A_ (below_step z1_14_ hb); clear BK111 BK112 HB; rename_i BK111 BK112 HB; (try clear hb)))
  go_ret
  exact ⟨z1_6_, z1_14_⟩
/-! ### laws_markForkS: function 65 -/
mutual
def laws_markForkS.l0 : Nat → List (S89) → Int → Int → Option (Int × (List (S89)))
 | 0, _, _, _ => none
 | k + 1, x0, x1, x5 => if x5 < (x0.length : Int) then (if 0 ≤ x5 then ((some (x0.set (x5 : Int).toNat (⟨IntKind.i8.wrap (x1), (rd_T89 x0 x5).f1, (⟨(rd_T89 x0 x5).f2.f0, (rd_T89 x0 x5).f2.f1, (rd_T89 x0 x5).f2.f2⟩ : S87)⟩ : S89) : List (S89))).bind fun y114 => (laws_markForkS.l1 k (y114.set (x5 : Int).toNat (⟨(rd_T89 y114 x5).f0, IntKind.i8.wrap (wrap64 (x1 + 1)), (⟨(rd_T89 y114 x5).f2.f0, (rd_T89 y114 x5).f2.f1, (rd_T89 y114 x5).f2.f2⟩ : S87)⟩ : S89)) (wrap64 ((wrap64 (x1 + 1)) + 1)) x5 0)) else (none)) else (some (x1, x0))
def laws_markForkS.l1 : Nat → List (S89) → Int → Int → Int → Option (Int × (List (S89)))
 | 0, _, _, _, _ => none
 | k + 1, x0, x1, x5, x6 => if x6 < 3 then (if 0 ≤ x5 then (if x5 < (x0.length : Int) then (if 0 ≤ x6 then (laws_markForkS.l1 k (x0.set (x5 : Int).toNat (⟨(rd_T89 x0 x5).f0, (rd_T89 x0 x5).f1, (⟨(up 0 x6 (IntKind.i16.wrap (x1)) ((rd_T89 x0 x5).f2.f0)), (up 1 x6 (IntKind.i16.wrap (x1)) ((rd_T89 x0 x5).f2.f1)), (up 2 x6 (IntKind.i16.wrap (x1)) ((rd_T89 x0 x5).f2.f2))⟩ : S87)⟩ : S89)) (wrap64 (x1 + 1)) x5 (wrap64 (x6 + 1))) else (none)) else (none)) else (none)) else (laws_markForkS.l0 k x0 x1 (wrap64 (x5 + 1)))
end
def laws_markForkS.f (k : Nat) (l0 : List (S89)) (a1 : Int) : Option (Int × (List (S89))) := laws_markForkS.l0 k l0 a1 0
theorem laws_markForkS.mono_l : ∀ k, (∀ y0 y1 y2, LeO (laws_markForkS.l0 k y0 y1 y2) (laws_markForkS.l0 (k + 1) y0 y1 y2)) ∧ (∀ y0 y1 y2 y3, LeO (laws_markForkS.l1 k y0 y1 y2 y3) (laws_markForkS.l1 (k + 1) y0 y1 y2 y3))
 | 0 => ⟨fun _ _ _ r h => by simp [laws_markForkS.l0] at h, fun _ _ _ _ r h => by simp [laws_markForkS.l1] at h⟩
 | k + 1 => by
  obtain ⟨ih0, ih1⟩ := laws_markForkS.mono_l k
  refine ⟨?_, ?_⟩
  ·
   intro y0 y1 y2
   unfold laws_markForkS.l0
   repeat' first
   | (with_reducible exact ih0 _ _ _)
   | (with_reducible exact ih1 _ _ _ _)
   | (with_reducible exact LeO.refl _)
   | (with_reducible exact LeO.none _)
   | (with_reducible refine LeO.ite ?_ ?_)
   | (with_reducible refine LeO.bind ?_ (fun _ => ?_))
   | exact ih0 _ _ _
   | exact ih1 _ _ _ _
   | exact LeO.none _
   | refine LeO.ite ?_ ?_
   | refine LeO.bind ?_ (fun _ => ?_)
  ·
   intro y0 y1 y2 y3
   unfold laws_markForkS.l1
   repeat' first
   | (with_reducible exact ih0 _ _ _)
   | (with_reducible exact ih1 _ _ _ _)
   | (with_reducible exact LeO.refl _)
   | (with_reducible exact LeO.none _)
   | (with_reducible refine LeO.ite ?_ ?_)
   | (with_reducible refine LeO.bind ?_ (fun _ => ?_))
   | exact ih0 _ _ _
   | exact ih1 _ _ _ _
   | exact LeO.none _
   | refine LeO.ite ?_ ?_
   | refine LeO.bind ?_ (fun _ => ?_)
theorem laws_markForkS.mono : ∀ a0 a1 k, LeO (laws_markForkS.f k a0 a1) (laws_markForkS.f (k + 1) a0 a1) := by
 intro a0 a1 k
 obtain ⟨ih0, ih1⟩ := laws_markForkS.mono_l k
 unfold laws_markForkS.f
 repeat' first
   | (with_reducible exact ih0 _ _ _)
   | (with_reducible exact ih1 _ _ _ _)
   | (with_reducible exact LeO.refl _)
   | (with_reducible exact LeO.none _)
   | (with_reducible refine LeO.ite ?_ ?_)
   | (with_reducible refine LeO.bind ?_ (fun _ => ?_))
   | exact ih0 _ _ _
   | exact ih1 _ _ _ _
   | exact LeO.none _
   | refine LeO.ite ?_ ?_
   | refine LeO.bind ?_ (fun _ => ?_)
set_option maxHeartbeats 8000000 in
set_option maxRecDepth 100000 in
theorem laws_markForkS.calls (k : Nat) (P0_ : Nat → Prop) (u9000_ : Value) (l0 : List (S89)) (a1 : Int) (r1 : Int) (r2 : List (S89)) (w0 w : World) (hB : Below w0.heap.size w0 w) (ho0 : Kd.R k89 89 w w0.heap.size P0_ u9000_ l0) (h : laws_markForkS.f k l0 a1 = some (r1, r2)) :
  Calls Try.prog 65 #[u9000_, .int .i64 a1] w fun e w' => e = .returned (.int .i64 r1) ∧ Kd.R k89 89 w' w0.heap.size (fun k_ => (P0_ k_ ∨ w.heap.size ≤ k_)) u9000_ r2 ∧ Below w0.heap.size w0 w' ∧ Kept w w' (fun k_ => P0_ k_) := by
 have HO0 := A_ (show Kd.R k89 89 w w0.heap.size (fun k_ => (P0_ k_ ∨ w.heap.size ≤ k_)) u9000_ l0 from Kd.R_mono ho0 (fun k_ hk => (.inl hk)))
 have HK := A_ (Kept.refl w (fun k_ => P0_ k_))
 have HW0 := A_ hB.size
 have HB := A_ hB
 clear hB
 have H : (laws_markForkS.l0 k l0 a1 0) = some (r1, r2) := h
 clear h
 have H' := A_ H
 clear H
 go_enter Try.func65, Try.ntmps65
 go_wp2
 go_loopg [1, 5] k (fun kq v1 v5 w' => ∃ (x0_1 : List (S89)) (x1_1 : Int) (x5_1 : Int), v1 = .int .i64 x1_1 ∧ v5 = .int .i64 x5_1 ∧ Aside0 (laws_markForkS.l0 kq x0_1 x1_1 x5_1 = some (r1, r2)) ∧ Aside0 (kq ≤ k) ∧ Aside0 (Kd.R k89 89 w' w0.heap.size (fun k_ => (P0_ k_ ∨ w.heap.size ≤ k_)) u9000_ x0_1) ∧ Aside0 (Kept w w' (fun k_ => P0_ k_)) ∧ Aside0 (Below w0.heap.size w0 w'))
 case atStart => exact ⟨(l0), (a1), (0), z1_2_, z1_2_, H', ⟨Nat.le_refl _⟩, ⟨(by (with_reducible repeat (first | apply Kd.R_alloc | apply Kd.R_drewN | apply Kd.R_drew)); exact HO0.out)⟩, ⟨z1_9_⟩, ⟨z1_1_⟩⟩
 case round =>
  clear H'
  try clear p2
  obtain ⟨x0_1, x1_1, x5_1, rfl, rfl, HA, HK1, HO_0, HK, HB⟩ := hrel
  cases gk with
  | zero => exact absurd HA.out (by simp [laws_markForkS.l0])
  | succ k1 =>
   have H := HA.out
   clear HA
   simp only [laws_markForkS.l0] at H
   by_cases c3 : x5_1 < (x0_1.length : Int)
   ·
    rw [if_pos c3] at H
    have c3b0 := decide_eq_true c3
    clear c3
    by_cases c4 : 0 ≤ x5_1
    ·
     rw [if_pos c4] at H
     have c4b0 := decide_eq_true c4
     clear c4
     obtain ⟨y114, hy114⟩ : ∃ y_ : List (S89), y_ = (x0_1.set (x5_1 : Int).toNat (⟨IntKind.i8.wrap (x1_1), (rd_T89 x0_1 x5_1).f1, (⟨(rd_T89 x0_1 x5_1).f2.f0, (rd_T89 x0_1 x5_1).f2.f1, (rd_T89 x0_1 x5_1).f2.f2⟩ : S87)⟩ : S89)) := ⟨_, rfl⟩
     replace H : (laws_markForkS.l1 k1 (y114.set (x5_1 : Int).toNat (⟨(rd_T89 y114 x5_1).f0, IntKind.i8.wrap (wrap64 (x1_1 + 1)), (⟨(rd_T89 y114 x5_1).f2.f0, (rd_T89 y114 x5_1).f2.f1, (rd_T89 y114 x5_1).f2.f2⟩ : S87)⟩ : S89)) (wrap64 ((wrap64 (x1_1 + 1)) + 1)) x5_1 0) = some (r1, r2) := by first | (rw [hy114]; with_reducible exact H) | (have H2_ := (Option.bind_some _ _).symm.trans H; rw [hy114]; with_reducible exact H2_) | (have H2_ := (Option.bind_some _ _).symm.trans H; with_reducible exact H2_) | with_reducible exact H | (rw [hy114]; exact H) | exact H
     have Ny114 := A_ hy114
     clear hy114
     obtain ⟨y115, hy115⟩ : ∃ y_ : List (S89), y_ = (y114.set (x5_1 : Int).toNat (⟨(rd_T89 y114 x5_1).f0, IntKind.i8.wrap (wrap64 (x1_1 + 1)), (⟨(rd_T89 y114 x5_1).f2.f0, (rd_T89 y114 x5_1).f2.f1, (rd_T89 y114 x5_1).f2.f2⟩ : S87)⟩ : S89)) := ⟨_, rfl⟩
     replace H : (laws_markForkS.l1 k1 y115 (wrap64 ((wrap64 (x1_1 + 1)) + 1)) x5_1 0) = some (r1, r2) := by first | (rw [hy115]; with_reducible exact H) | (have H2_ := (Option.bind_some _ _).symm.trans H; rw [hy115]; with_reducible exact H2_) | (have H2_ := (Option.bind_some _ _).symm.trans H; with_reducible exact H2_) | with_reducible exact H | (rw [hy115]; exact H) | exact H
     have Ny115 := A_ hy115
     clear hy115
     have H' := A_ H
     clear H
     obtain ⟨Ao7, co7, eo7⟩ := Kd.R_slice HO_0.out
     subst eo7
     have p5 : 0 ≤ (x5_1 : Int) := of_decide_eq_true (by assumption)
     have q5 : (x5_1 : Int) < ((x0_1.length : Int) : Int) := of_decide_eq_true (by assumption)
     obtain ⟨go5, co5, eo5, gb5, gl5, cl5, HG5⟩ := Kd.R_form HO_0.out (by omega)
     (first | cases eo5 | (injection eo5 with ea_ en_ ec_; (first | subst ea_ | (injection ea_ with ea_; subst ea_)); subst ec_; clear en_))
     have GB5 := A_ gb5
     have GG5 := A_ HG5
     clear gb5 gl5 HG5
     have HMgo5 := A_ (show (P0_ go5 ∨ w.heap.size ≤ go5) from (HO_0.out.1 _ rfl))
     obtain ⟨ce5, hcl5, hM5, hcc5, hfr5⟩ := Kd.R_elem HO_0.out z89 (x5_1 : Int) p5 q5
     obtain rfl := k89_openM hM5
     have hx5_0 : wr.cell? ⟨go5, (x5_1 : Int).toNat * 5, none⟩ = some (.int .i8 ((rd_T89 x0_1 x5_1).f0)) := hcc5 0 _ rfl
     have hx5_1 : wr.cell? ⟨go5, (x5_1 : Int).toNat * 5 + 1, none⟩ = some (.int .i8 ((rd_T89 x0_1 x5_1).f1)) := hcc5 1 _ rfl
     have hx5_2 : wr.cell? ⟨go5, (x5_1 : Int).toNat * 5 + 2, none⟩ = some (.int .i16 ((rd_T89 x0_1 x5_1).f2.f0)) := hcc5 2 _ rfl
     have hx5_3 : wr.cell? ⟨go5, (x5_1 : Int).toNat * 5 + 3, none⟩ = some (.int .i16 ((rd_T89 x0_1 x5_1).f2.f1)) := hcc5 3 _ rfl
     have hx5_4 : wr.cell? ⟨go5, (x5_1 : Int).toNat * 5 + 4, none⟩ = some (.int .i16 ((rd_T89 x0_1 x5_1).f2.f2)) := hcc5 4 _ rfl
     have hf5_0 : wr.frozen? ⟨go5, (x5_1 : Int).toNat * 5, none⟩ = false := hfr5 0
     have hf5_1 : wr.frozen? ⟨go5, (x5_1 : Int).toNat * 5 + 1, none⟩ = false := hfr5 1
     have hf5_2 : wr.frozen? ⟨go5, (x5_1 : Int).toNat * 5 + 2, none⟩ = false := hfr5 2
     have hf5_3 : wr.frozen? ⟨go5, (x5_1 : Int).toNat * 5 + 3, none⟩ = false := hfr5 3
     have hf5_4 : wr.frozen? ⟨go5, (x5_1 : Int).toNat * 5 + 4, none⟩ = false := hfr5 4
     clear hcl5 hcc5 hfr5 hM5
     replace p5 := eq_true p5
     replace q5 := eq_true q5
     have HX8 := A_ (show Kd.R k89 89 wr w0.heap.size (fun k_ => (P0_ k_ ∨ w.heap.size ≤ k_)) (.slice (some ⟨go5, 0, none⟩) x0_1.length co7) x0_1 from z1_16_)
     obtain ⟨ce8, hcl8, hM8, hcc8, hfr8⟩ := Kd.R_elem HX8.out z89 (x5_1 : Int) (of_decide_eq_true (by assumption)) (by have h_ : (x5_1 : Int) < ((x0_1.length : Int) : Int) := of_decide_eq_true (by assumption); first | exact h_ | (have e_ := (Kd.R_reads' HO_0.out).1; omega) | simpa using h_)
     obtain rfl := k89_openM hM8
     have HP8 := Kd.R_seg HX8.out (x5_1 : Int) (of_decide_eq_true (by assumption)) (by have h_ : (x5_1 : Int) < ((x0_1.length : Int) : Int) := of_decide_eq_true (by assumption); first | exact h_ | (have e_ := (Kd.R_reads' HO_0.out).1; omega) | simpa using h_) (seg := [.int .i8 (IntKind.i8.wrap (x1_1))]) (j := 0) hcl8 hcc8 (show 1 ≤ 5 from by decide) (x' := (⟨IntKind.i8.wrap (x1_1), (rd_T89 x0_1 x5_1).f1, (⟨(rd_T89 x0_1 x5_1).f2.f0, (rd_T89 x0_1 x5_1).f2.f1, (rd_T89 x0_1 x5_1).f2.f2⟩ : S87)⟩ : S89)) (k89_mkM _ _ _ (⟨IntKind.i8.wrap (x1_1), (rd_T89 x0_1 x5_1).f1, (⟨(rd_T89 x0_1 x5_1).f2.f0, (rd_T89 x0_1 x5_1).f2.f1, (rd_T89 x0_1 x5_1).f2.f2⟩ : S87)⟩ : S89) ) (fun _ hk => hk)
     have hx8_0 := hcc8 0 _ rfl
     (try simp only [show (k89).sz = 5 from rfl, Nat.mul_one, Nat.add_zero] at hx8_0)
     have hf8_0 := hfr8 0
     (try simp only [show (k89).sz = 5 from rfl, Nat.mul_one, Nat.add_zero] at hf8_0)
     clear hcl8 hcc8 hfr8 hM8
     go_wp2_with (first | ((with_reducible refine gate_store (t := 86) (p := 18) rfl ?_); refine store_event (t := 86) (p := 18) (v := ?vo_w9) (w1 := (wr.setCell ⟨go5, (x5_1 : Int).toNat * 5, none⟩ (.int .i8 (IntKind.i8.wrap (x1_1))))) ?hg ?ho ?hn ?hr ?_; (case ho => rfl); (case hg => rfl); (case hn => rfl); (case hr => first | (go_simp; done) | (go_simp; rfl)); intro w9 hw; have hg : wr.grownBy w9 (some go5) := (by rw [hw]; exact HP8.2); have hp_ : Kd.R k89 89 w9 w0.heap.size (fun k_ => (P0_ k_ ∨ w.heap.size ≤ k_)) (.slice (some ⟨go5, 0, none⟩) x0_1.length co7) y114 := (by rw [hw, Ny114.out]; exact HP8.1); clear HP8; have _ := A_ (hp_); have _ := A_ ((by rw [hw]; exact below_set (HB.out) GB5.out : Below w0.heap.size w0 w9)); have _ := A_ (Kept.of_grown (S := (fun k_ => P0_ k_)) hg z1_9_ (fun k_ e_ => (HO_0.out.1 k_ e_))); clear HO_0 HB HK; rename_i HO_0 HB HK; clear hg hw hp_; have p6 : 0 ≤ (x5_1 : Int) := of_decide_eq_true (by assumption); have q6 : (x5_1 : Int) < ((x0_1.length : Int) : Int) := of_decide_eq_true (by assumption); obtain ⟨ce6, hcl6, hM6, hcc6, hfr6⟩ := Kd.R_elem HO_0.out z89 (x5_1 : Int) p6 q6; obtain rfl := k89_openM hM6; have hx6_0 : w9.cell? ⟨go5, (x5_1 : Int).toNat * 5, none⟩ = some (.int .i8 ((rd_T89 y114 x5_1).f0)) := hcc6 0 _ rfl; have hx6_1 : w9.cell? ⟨go5, (x5_1 : Int).toNat * 5 + 1, none⟩ = some (.int .i8 ((rd_T89 y114 x5_1).f1)) := hcc6 1 _ rfl; have hx6_2 : w9.cell? ⟨go5, (x5_1 : Int).toNat * 5 + 2, none⟩ = some (.int .i16 ((rd_T89 y114 x5_1).f2.f0)) := hcc6 2 _ rfl; have hx6_3 : w9.cell? ⟨go5, (x5_1 : Int).toNat * 5 + 3, none⟩ = some (.int .i16 ((rd_T89 y114 x5_1).f2.f1)) := hcc6 3 _ rfl; have hx6_4 : w9.cell? ⟨go5, (x5_1 : Int).toNat * 5 + 4, none⟩ = some (.int .i16 ((rd_T89 y114 x5_1).f2.f2)) := hcc6 4 _ rfl; have hf6_0 : w9.frozen? ⟨go5, (x5_1 : Int).toNat * 5, none⟩ = false := hfr6 0; have hf6_1 : w9.frozen? ⟨go5, (x5_1 : Int).toNat * 5 + 1, none⟩ = false := hfr6 1; have hf6_2 : w9.frozen? ⟨go5, (x5_1 : Int).toNat * 5 + 2, none⟩ = false := hfr6 2; have hf6_3 : w9.frozen? ⟨go5, (x5_1 : Int).toNat * 5 + 3, none⟩ = false := hfr6 3; have hf6_4 : w9.frozen? ⟨go5, (x5_1 : Int).toNat * 5 + 4, none⟩ = false := hfr6 4; clear hcl6 hcc6 hfr6 hM6; replace p6 := eq_true p6; replace q6 := eq_true q6; have HX10 := A_ (show Kd.R k89 89 w9 w0.heap.size (fun k_ => (P0_ k_ ∨ w.heap.size ≤ k_)) (.slice (some ⟨go5, 0, none⟩) x0_1.length co7) y114 from z1_16_); obtain ⟨ce10, hcl10, hM10, hcc10, hfr10⟩ := Kd.R_elem HX10.out z89 (x5_1 : Int) (of_decide_eq_true (by assumption)) (by have h_ : (x5_1 : Int) < ((x0_1.length : Int) : Int) := of_decide_eq_true (by assumption); first | exact h_ | (have e_ := (Kd.R_reads' HO_0.out).1; omega) | simpa using h_); obtain rfl := k89_openM hM10; have HP10 := Kd.R_seg HX10.out (x5_1 : Int) (of_decide_eq_true (by assumption)) (by have h_ : (x5_1 : Int) < ((x0_1.length : Int) : Int) := of_decide_eq_true (by assumption); first | exact h_ | (have e_ := (Kd.R_reads' HO_0.out).1; omega) | simpa using h_) (seg := [.int .i8 (IntKind.i8.wrap (wrap64 (x1_1 + 1)))]) (j := 1) hcl10 hcc10 (show 2 ≤ 5 from by decide) (x' := (⟨(rd_T89 y114 x5_1).f0, IntKind.i8.wrap (wrap64 (x1_1 + 1)), (⟨(rd_T89 y114 x5_1).f2.f0, (rd_T89 y114 x5_1).f2.f1, (rd_T89 y114 x5_1).f2.f2⟩ : S87)⟩ : S89)) (k89_mkM _ _ _ (⟨(rd_T89 y114 x5_1).f0, IntKind.i8.wrap (wrap64 (x1_1 + 1)), (⟨(rd_T89 y114 x5_1).f2.f0, (rd_T89 y114 x5_1).f2.f1, (rd_T89 y114 x5_1).f2.f2⟩ : S87)⟩ : S89) ) (fun _ hk => hk); have hx10_1 := hcc10 1 _ rfl; (try simp only [show (k89).sz = 5 from rfl, Nat.mul_one, Nat.add_zero] at hx10_1); have hf10_1 := hfr10 1; (try simp only [show (k89).sz = 5 from rfl, Nat.mul_one, Nat.add_zero] at hf10_1); clear hcl10 hcc10 hfr10 hM10) | ((with_reducible refine gate_store (t := 86) (p := 26) rfl ?_); refine store_event (t := 86) (p := 26) (v := ?vo_w11) (w1 := (w9.setCell ⟨go5, (x5_1 : Int).toNat * 5 + 1, none⟩ (.int .i8 (IntKind.i8.wrap (wrap64 (x1_1 + 1)))))) ?hg ?ho ?hn ?hr ?_; (case ho => rfl); (case hg => rfl); (case hn => rfl); (case hr => first | (go_simp; done) | (go_simp; rfl)); intro w11 hw; have hg : w9.grownBy w11 (some go5) := (by rw [hw]; exact HP10.2); have hp_ : Kd.R k89 89 w11 w0.heap.size (fun k_ => (P0_ k_ ∨ w.heap.size ≤ k_)) (.slice (some ⟨go5, 0, none⟩) x0_1.length co7) y115 := (by rw [hw, Ny115.out]; exact HP10.1); clear HP10; have _ := A_ (hp_); have _ := A_ ((by rw [hw]; exact below_set (HB.out) GB5.out : Below w0.heap.size w0 w11)); have _ := A_ (Kept.of_grown (S := (fun k_ => P0_ k_)) hg z1_9_ (fun k_ e_ => (HO_0.out.1 k_ e_))); clear HO_0 HB HK; rename_i HO_0 HB HK; clear hg hw hp_))
     go_loopg [1, 6] k1 (fun kq v1 v6 w' => ∃ (x0_2 : List (S89)) (x1_2 : Int) (x6_2 : Int), v1 = .int .i64 x1_2 ∧ v6 = .int .i64 x6_2 ∧ Aside0 (laws_markForkS.l1 kq x0_2 x1_2 x5_1 x6_2 = some (r1, r2)) ∧ Aside0 (kq ≤ k1) ∧ Aside0 (Kd.R k89 89 w' w0.heap.size (fun k_ => (P0_ k_ ∨ w.heap.size ≤ k_)) (.slice (some ⟨go5, 0, none⟩) x0_1.length co7) x0_2) ∧ Aside0 (Kept w w' (fun k_ => P0_ k_)) ∧ Aside0 (Below w0.heap.size w0 w'))
     case atStart => exact ⟨(y115), (wrap64 ((wrap64 (x1_1 + 1)) + 1)), (0), z1_2_, z1_2_, H', ⟨Nat.le_refl _⟩, ⟨z1_16_⟩, ⟨z1_9_⟩, ⟨z1_1_⟩⟩
     case round =>
      clear H'
      try clear c1
      try clear hx1
      try clear p2
      try clear c3
      try clear c3b0
      try clear c4
      try clear c4b0
      try clear c5
      try clear p5
      try clear q5
      try clear hx5
      try clear hf5
      try clear c6
      try clear p6
      try clear q6
      try clear hx6
      try clear hf6
      try clear c8
      try clear hx8
      try clear hf8
      try clear c10
      try clear hx10
      try clear hf10
      try clear hx10_1
      try clear hx5_0
      try clear hx5_1
      try clear hx5_2
      try clear hx5_3
      try clear hx5_4
      try clear hx6_0
      try clear hx6_1
      try clear hx6_2
      try clear hx6_3
      try clear hx6_4
      try clear hx8_0
      try clear p2
      try clear p5
      try clear p6
      try clear q5
      try clear q6
      obtain ⟨x0_2, x1_2, x6_2, rfl, rfl, HA, HK2, HO_0, HK, HB⟩ := hrel
      have hl0_2 := (Kd.R_reads' HO_0.out).1
      rw [hl0_2] at HO_0
      (try simp only [hl0_2])
      cases gk with
      | zero => exact absurd HA.out (by simp [laws_markForkS.l1])
      | succ k2 =>
       have H := HA.out
       clear HA
       simp only [laws_markForkS.l1] at H
       by_cases c12 : x6_2 < 3
       ·
        rw [if_pos c12] at H
        have c12b0 := decide_eq_true c12
        clear c12
        by_cases c13 : 0 ≤ x5_1
        ·
         rw [if_pos c13] at H
         have c13b0 := decide_eq_true c13
         clear c13
         by_cases c14 : x5_1 < (x0_2.length : Int)
         ·
          rw [if_pos c14] at H
          have c14b0 := decide_eq_true c14
          clear c14
          by_cases c16 : 0 ≤ x6_2
          ·
           rw [if_pos c16] at H
           have c16b0 := decide_eq_true c16
           clear c16
           obtain ⟨y117, hy117⟩ : ∃ y_ : List (S89), y_ = (x0_2.set (x5_1 : Int).toNat (⟨(rd_T89 x0_2 x5_1).f0, (rd_T89 x0_2 x5_1).f1, (⟨(up 0 x6_2 (IntKind.i16.wrap (x1_2)) ((rd_T89 x0_2 x5_1).f2.f0)), (up 1 x6_2 (IntKind.i16.wrap (x1_2)) ((rd_T89 x0_2 x5_1).f2.f1)), (up 2 x6_2 (IntKind.i16.wrap (x1_2)) ((rd_T89 x0_2 x5_1).f2.f2))⟩ : S87)⟩ : S89)) := ⟨_, rfl⟩
           replace H : (laws_markForkS.l1 k2 y117 (wrap64 (x1_2 + 1)) x5_1 (wrap64 (x6_2 + 1))) = some (r1, r2) := by first | (rw [hy117]; with_reducible exact H) | (have H2_ := (Option.bind_some _ _).symm.trans H; rw [hy117]; with_reducible exact H2_) | (have H2_ := (Option.bind_some _ _).symm.trans H; with_reducible exact H2_) | with_reducible exact H | (rw [hy117]; exact H) | exact H
           have Ny117 := A_ hy117
           clear hy117
           have H' := A_ H
           clear H
           have p15 : 0 ≤ (x5_1 : Int) := of_decide_eq_true (by assumption)
           have q15 : (x5_1 : Int) < ((x0_2.length : Int) : Int) := of_decide_eq_true (by assumption)
           obtain ⟨ce15, hcl15, hM15, hcc15, hfr15⟩ := Kd.R_elem HO_0.out z89 (x5_1 : Int) p15 q15
           obtain rfl := k89_openM hM15
           have hx15_0 : wr.cell? ⟨go5, (x5_1 : Int).toNat * 5, none⟩ = some (.int .i8 ((rd_T89 x0_2 x5_1).f0)) := hcc15 0 _ rfl
           have hx15_1 : wr.cell? ⟨go5, (x5_1 : Int).toNat * 5 + 1, none⟩ = some (.int .i8 ((rd_T89 x0_2 x5_1).f1)) := hcc15 1 _ rfl
           have hx15_2 : wr.cell? ⟨go5, (x5_1 : Int).toNat * 5 + 2, none⟩ = some (.int .i16 ((rd_T89 x0_2 x5_1).f2.f0)) := hcc15 2 _ rfl
           have hx15_3 : wr.cell? ⟨go5, (x5_1 : Int).toNat * 5 + 3, none⟩ = some (.int .i16 ((rd_T89 x0_2 x5_1).f2.f1)) := hcc15 3 _ rfl
           have hx15_4 : wr.cell? ⟨go5, (x5_1 : Int).toNat * 5 + 4, none⟩ = some (.int .i16 ((rd_T89 x0_2 x5_1).f2.f2)) := hcc15 4 _ rfl
           have hf15_0 : wr.frozen? ⟨go5, (x5_1 : Int).toNat * 5, none⟩ = false := hfr15 0
           have hf15_1 : wr.frozen? ⟨go5, (x5_1 : Int).toNat * 5 + 1, none⟩ = false := hfr15 1
           have hf15_2 : wr.frozen? ⟨go5, (x5_1 : Int).toNat * 5 + 2, none⟩ = false := hfr15 2
           have hf15_3 : wr.frozen? ⟨go5, (x5_1 : Int).toNat * 5 + 3, none⟩ = false := hfr15 3
           have hf15_4 : wr.frozen? ⟨go5, (x5_1 : Int).toNat * 5 + 4, none⟩ = false := hfr15 4
           clear hcl15 hcc15 hfr15 hM15
           replace p15 := eq_true p15
           replace q15 := eq_true q15
           have p116 : 0 ≤ (x6_2 : Int) := of_decide_eq_true (by assumption)
           have q116 : (x6_2 : Int) < 3 := of_decide_eq_true (by assumption)
           have hcs116 := A_ (show (x6_2 : Int) = 0 ∨ (x6_2 : Int) = 1 ∨ (x6_2 : Int) = 2 by omega)
           replace p116 := eq_true p116
           replace q116 := eq_true q116
           have HX17 := A_ (show Kd.R k89 89 wr w0.heap.size (fun k_ => (P0_ k_ ∨ w.heap.size ≤ k_)) (.slice (some ⟨go5, 0, none⟩) x0_2.length co7) x0_2 from z1_16_)
           obtain ⟨ce17, hcl17, hM17, hcc17, hfr17⟩ := Kd.R_elem HX17.out z89 (x5_1 : Int) (of_decide_eq_true (by assumption)) (by have h_ : (x5_1 : Int) < ((x0_2.length : Int) : Int) := of_decide_eq_true (by assumption); first | exact h_ | (have e_ := (Kd.R_reads' HO_0.out).1; omega) | simpa using h_)
           obtain rfl := k89_openM hM17
           have HP17 := Kd.R_seg HX17.out (x5_1 : Int) (of_decide_eq_true (by assumption)) (by have h_ : (x5_1 : Int) < ((x0_2.length : Int) : Int) := of_decide_eq_true (by assumption); first | exact h_ | (have e_ := (Kd.R_reads' HO_0.out).1; omega) | simpa using h_) (seg := [.int .i16 (IntKind.i16.wrap (x1_2))]) (j := 2 + (x6_2 : Int).toNat) hcl17 hcc17 (show 2 + (x6_2 : Int).toNat + 1 ≤ 5 from by have h_ := of_eq_true q116; omega) (x' := (⟨(rd_T89 x0_2 x5_1).f0, (rd_T89 x0_2 x5_1).f1, (⟨(up 0 x6_2 (IntKind.i16.wrap (x1_2)) ((rd_T89 x0_2 x5_1).f2.f0)), (up 1 x6_2 (IntKind.i16.wrap (x1_2)) ((rd_T89 x0_2 x5_1).f2.f1)), (up 2 x6_2 (IntKind.i16.wrap (x1_2)) ((rd_T89 x0_2 x5_1).f2.f2))⟩ : S87)⟩ : S89)) (by rcases hcs116.out with h_ | h_ | h_ <;> rw [h_] <;> exact (k89_mkM _ _ _ _ )) (fun _ hk => hk)
           have hx17_0 : wr.cell? ⟨go5, (x5_1 : Int).toNat * 5 + 2 + (x6_2 : Int).toNat, none⟩ = some (.int .i16 (rd [(rd_T89 x0_2 x5_1).f2.f0, (rd_T89 x0_2 x5_1).f2.f1, (rd_T89 x0_2 x5_1).f2.f2] x6_2)) := cell_arr3 (hcc17 2 _ rfl) (hcc17 3 _ rfl) (hcc17 4 _ rfl) x6_2 (of_eq_true p116) (of_eq_true q116)
           have hf17_0 : wr.frozen? ⟨go5, (x5_1 : Int).toNat * 5 + 2 + (x6_2 : Int).toNat, none⟩ = false := (by have h_ := hfr17 (2 + (x6_2 : Int).toNat); rw [← Nat.add_assoc] at h_; exact h_)
           (try rw [← Nat.add_assoc] at HP17)
           clear hcl17 hcc17 hfr17 hM17
           go_wp2_with (first | ((with_reducible refine gate_store (t := 85) (p := 40) rfl ?_); refine store_event (t := 85) (p := 40) (v := ?vo_w18) (w1 := (wr.setCell ⟨go5, (x5_1 : Int).toNat * 5 + 2 + (x6_2 : Int).toNat, none⟩ (.int .i16 (IntKind.i16.wrap (x1_2))))) ?hg ?ho ?hn ?hr ?_; (case ho => rfl); (case hg => rfl); (case hn => rfl); (case hr => first | (go_simp; done) | (go_simp; rfl)); intro w18 hw; have hg : wr.grownBy w18 (some go5) := (by rw [hw]; exact HP17.2); have hp_ : Kd.R k89 89 w18 w0.heap.size (fun k_ => (P0_ k_ ∨ w.heap.size ≤ k_)) (.slice (some ⟨go5, 0, none⟩) x0_2.length co7) y117 := (by rw [hw, Ny117.out]; exact HP17.1); clear HP17; have _ := A_ (hp_); have _ := A_ ((by rw [hw]; exact below_set (HB.out) GB5.out : Below w0.heap.size w0 w18)); have _ := A_ (Kept.of_grown (S := (fun k_ => P0_ k_)) hg z1_9_ (fun k_ e_ => (HO_0.out.1 k_ e_))); clear HO_0 HB HK; rename_i HO_0 HB HK; clear hg hw hp_))
           (try simp only [← hl0_2])
           go_roundg k2
           case measure => have := HK1.out; have := HK2.out; omega
           case rel => exact ⟨(y117), (wrap64 (x1_2 + 1)), (wrap64 (x6_2 + 1)), z1_2_, z1_2_, H', ⟨z1_23_⟩, ⟨z1_19_⟩, ⟨z1_9_⟩, ⟨z1_1_⟩⟩
          ·
           rw [if_neg c16] at H
           exact absurd H (by simp)
         ·
          rw [if_neg c14] at H
          exact absurd H (by simp)
        ·
         rw [if_neg c13] at H
         exact absurd H (by simp)
       ·
        rw [if_neg c12] at H
        have c12b0 := decide_eq_false c12
        clear c12
        have H' := A_ H
        clear H
        go_wp2
        (try simp only [← hl0_2])
        go_roundg k2
        case measure => have := HK1.out; have := HK2.out; omega
        case rel => exact ⟨(x0_2), (x1_2), (wrap64 (x5_1 + 1)), z1_2_, z1_2_, H', ⟨z1_23_⟩, ⟨z1_19_⟩, ⟨z1_9_⟩, ⟨z1_1_⟩⟩
    ·
     rw [if_neg c4] at H
     exact absurd H (by simp)
   ·
    rw [if_neg c3] at H
    have c3b0 := decide_eq_false c3
    clear c3
    simp only [Option.some.injEq, Prod.mk.injEq] at H
    obtain ⟨rfl, rfl⟩ := H
    obtain ⟨Ao19, co19, eo19⟩ := Kd.R_slice HO_0.out
    subst eo19
    go_wp2
    go_ret
    exact ⟨z1_6_, z1_16_, z1_1_, z1_9_⟩
/-! ### laws_markTree: function 23 -/
def laws_markTree.f (k : Nat) (l0_0 : List (S89)) (a1 : Int) : Option (Int × (List (S89))) := (laws_markForkS.f k l0_0 a1).bind fun bt119 => (some (bt119.1, bt119.2))
theorem laws_markTree.mono : ∀ a0 a1 k, LeO (laws_markTree.f k a0 a1) (laws_markTree.f (k + 1) a0 a1) := by
 intro a0 a1 k
 unfold laws_markTree.f
 repeat' first
   | (with_reducible exact laws_markForkS.mono _ _ _)
   | (with_reducible exact LeO.refl _)
   | (with_reducible exact LeO.none _)
   | (with_reducible refine LeO.ite ?_ ?_)
   | (with_reducible refine LeO.bind ?_ (fun _ => ?_))
   | exact LeO.none _
   | refine LeO.ite ?_ ?_
   | refine LeO.bind ?_ (fun _ => ?_)
set_option maxHeartbeats 8000000 in
set_option maxRecDepth 100000 in
theorem laws_markTree.calls (k : Nat) (P0_0_ : Nat → Prop) (u9000_ : Value) (l0_0 : List (S89)) (a1 : Int) (r1 : Int) (r2 : List (S89)) (w0 w : World) (hB : Below w0.heap.size w0 w) (ho0_0 : Kd.R k89 89 w w0.heap.size P0_0_ u9000_ l0_0) (h : laws_markTree.f k l0_0 a1 = some (r1, r2)) :
  Calls Try.prog 23 #[.agg #[u9000_], .int .i64 a1] w fun e w' => e = .returned (.int .i64 r1) ∧ Kd.R k89 89 w' w0.heap.size (fun k_ => (P0_0_ k_ ∨ w.heap.size ≤ k_)) u9000_ r2 ∧ Below w0.heap.size w0 w' ∧ Kept w w' (fun k_ => P0_0_ k_) := by
 have hu34 := Try.underlying34
 have HO0_0 := A_ (show Kd.R k89 89 w w0.heap.size (fun k_ => (P0_0_ k_ ∨ w.heap.size ≤ k_)) u9000_ l0_0 from Kd.R_mono ho0_0 (fun k_ hk => (.inl hk)))
 have HK := A_ (Kept.refl w (fun k_ => P0_0_ k_))
 have HW0 := A_ hB.size
 have HB := A_ hB
 clear hB
 have H : ((laws_markForkS.f k l0_0 a1).bind fun bt119 => (some (bt119.1, bt119.2))) = some (r1, r2) := h
 clear h
 replace H := Option.bind_eq_some_iff.mp H
 obtain ⟨⟨t119, t120⟩, A30, H⟩ := H
 try dsimp only at H
 have A3 := A_ A30
 clear A30
 simp only [Option.some.injEq, Prod.mk.injEq] at H
 obtain ⟨rfl, rfl⟩ := H
 obtain ⟨Ao4, co4, eo4⟩ := Kd.R_slice HO0_0.out
 subst eo4
 go_enter Try.func23, Try.ntmps23
 go_wp2_with (first | ((with_reducible refine gate_dst (N := 2) rfl ?_); refine box_event ?hg (N := 2) ?hd (cs := #[.slice Ao4 l0_0.length co4]) (t := 34) ?hr ?_; (case hd => rfl); (case hg => rfl); (case hr => first | (go_simp; done) | (go_simp; rfl)); intro gb118 hg w5 hbox hb; have _ := A_ (Kd.R_below z1_24_ hb); have _ := A_ (Kept.below (S := (fun k_ => P0_0_ k_)) z1_9_ hb); have _ := A_ (below_step z1_1_ hb); have _ := A_ (hbox); have _ := A_ ((by rw [hg]; exact (by first | exact HK.out.1 | exact (show Kept w _ (fun k_ => P0_0_ k_) from by repeat (first | (with_reducible first | exact HK.out | apply Kept.alloc | apply Kept.drewN | apply Kept.drew) | exact HK.out)).1) : w.heap.size ≤ gb118)); have _ := A_ ((by rw [hg]; exact (below_size z1_1_) : w0.heap.size ≤ gb118)); clear HO0_0 HK HB; rename_i HO0_0 HK HB BK118 GW118 GE118; clear hb hbox hg; have hcz6_0 : w5.cell? ⟨gb118, 0, none⟩ = some (.slice Ao4 l0_0.length co4) := (blk_cell BK118.out 0).trans rfl; have hfz6_0 := blk_frozen BK118.out 0) | ((with_reducible refine gate_callee (f := 65) rfl ?_); refine goesL_ (some 8) rfl rfl Try.func65 (by kernel_rfl) rfl #[.slice Ao4 l0_0.length co4, .int .i64 a1] rfl z1_8_ ?_; (with_reducible refine (laws_markForkS.calls k (fun k_ => some k_ = (.slice Ao4 l0_0.length co4 : Value).ownBlock) (.slice Ao4 l0_0.length co4) l0_0 a1 t119 t120 w0 _ ?side1 ?side2 A3.out).mono ?_); (case side1 => repeat (first | (with_reducible first | exact HB.out | apply below_alloc | apply pw_below_drewN | apply below_drew1 | refine below_set ?_ GE118.out) | exact HB.out)); (case side2 => exact Kd.R_tight rfl HO0_0.out); rintro e w7 ⟨rfl, hy0, hb, hkp⟩; refine ⟨_, rfl, ?_⟩; have _ := A_ (Kd.R_reok rfl hy0 (fun k_ e_ => HO0_0.out.1 k_ e_)); have _ := A_ (blk_kept (by (with_reducible repeat (first | refine blk_drewN ?_ _ | refine blk_drew ?_ | refine blk_alloc ?_ _)); exact BK118.out) hkp (fun hs_ => (fun e_ => (Kd.R_ne HO0_0.out BK118.out (by decide)) e_) hs_)); have _ := A_ (Kept.then_ (S := (fun k_ => P0_0_ k_)) z1_17_ hkp (fun k_ hs_ => (fun e_ => (HO0_0.out.1 k_ e_.symm)) hs_)); have _ := A_ (hb); clear HO0_0 BK118 HK HB; rename_i HO0_0 BK118 HK HB; (try clear hb); (try clear hkp); (try clear hy0)))
 go_ret
 exact ⟨z1_6_, z1_24_, (by repeat (first | (with_reducible first | exact HB.out | apply below_alloc | apply pw_below_drewN | apply below_drew1 | refine below_set ?_ GE118.out) | exact HB.out)), z1_17_⟩
/-! ### laws_heldForkS: function 74 -/
mutual
def laws_heldForkS.l0 : Nat → List (S89) → Int → Int → Option (Int)
 | 0, _, _, _ => none
 | k + 1, x0, x1, x5 => if x5 < (x0.length : Int) then (if 0 ≤ x5 then (if ((rd_T89 x0 x5).f0) = (IntKind.i8.wrap (x1)) then (if ((rd_T89 x0 x5).f1) = (IntKind.i8.wrap (wrap64 (x1 + 1))) then (laws_heldForkS.l1 k x0 (wrap64 ((wrap64 (x1 + 1)) + 1)) x5 0) else (some (-1))) else (some (-1))) else (none)) else (some x1)
def laws_heldForkS.l1 : Nat → List (S89) → Int → Int → Int → Option (Int)
 | 0, _, _, _, _ => none
 | k + 1, x0, x1, x5, x6 => if x6 < 3 then (if 0 ≤ x5 then (if x5 < (x0.length : Int) then (if 0 ≤ x6 then (if (rd [(rd_T89 x0 x5).f2.f0, (rd_T89 x0 x5).f2.f1, (rd_T89 x0 x5).f2.f2] x6) = (IntKind.i16.wrap (x1)) then (laws_heldForkS.l1 k x0 (wrap64 (x1 + 1)) x5 (wrap64 (x6 + 1))) else (some (-1))) else (none)) else (none)) else (none)) else (laws_heldForkS.l0 k x0 x1 (wrap64 (x5 + 1)))
end
def laws_heldForkS.f (k : Nat) (l0 : List (S89)) (a1 : Int) : Option (Int) := laws_heldForkS.l0 k l0 a1 0
theorem laws_heldForkS.mono_l : ∀ k, (∀ y0 y1 y2, LeO (laws_heldForkS.l0 k y0 y1 y2) (laws_heldForkS.l0 (k + 1) y0 y1 y2)) ∧ (∀ y0 y1 y2 y3, LeO (laws_heldForkS.l1 k y0 y1 y2 y3) (laws_heldForkS.l1 (k + 1) y0 y1 y2 y3))
 | 0 => ⟨fun _ _ _ r h => by simp [laws_heldForkS.l0] at h, fun _ _ _ _ r h => by simp [laws_heldForkS.l1] at h⟩
 | k + 1 => by
  obtain ⟨ih0, ih1⟩ := laws_heldForkS.mono_l k
  refine ⟨?_, ?_⟩
  ·
   intro y0 y1 y2
   unfold laws_heldForkS.l0
   repeat' first
   | (with_reducible exact ih0 _ _ _)
   | (with_reducible exact ih1 _ _ _ _)
   | (with_reducible exact LeO.refl _)
   | (with_reducible exact LeO.none _)
   | (with_reducible refine LeO.ite ?_ ?_)
   | (with_reducible refine LeO.bind ?_ (fun _ => ?_))
   | exact ih0 _ _ _
   | exact ih1 _ _ _ _
   | exact LeO.none _
   | refine LeO.ite ?_ ?_
   | refine LeO.bind ?_ (fun _ => ?_)
  ·
   intro y0 y1 y2 y3
   unfold laws_heldForkS.l1
   repeat' first
   | (with_reducible exact ih0 _ _ _)
   | (with_reducible exact ih1 _ _ _ _)
   | (with_reducible exact LeO.refl _)
   | (with_reducible exact LeO.none _)
   | (with_reducible refine LeO.ite ?_ ?_)
   | (with_reducible refine LeO.bind ?_ (fun _ => ?_))
   | exact ih0 _ _ _
   | exact ih1 _ _ _ _
   | exact LeO.none _
   | refine LeO.ite ?_ ?_
   | refine LeO.bind ?_ (fun _ => ?_)
theorem laws_heldForkS.mono : ∀ a0 a1 k, LeO (laws_heldForkS.f k a0 a1) (laws_heldForkS.f (k + 1) a0 a1) := by
 intro a0 a1 k
 obtain ⟨ih0, ih1⟩ := laws_heldForkS.mono_l k
 unfold laws_heldForkS.f
 repeat' first
   | (with_reducible exact ih0 _ _ _)
   | (with_reducible exact ih1 _ _ _ _)
   | (with_reducible exact LeO.refl _)
   | (with_reducible exact LeO.none _)
   | (with_reducible refine LeO.ite ?_ ?_)
   | (with_reducible refine LeO.bind ?_ (fun _ => ?_))
   | exact ih0 _ _ _
   | exact ih1 _ _ _ _
   | exact LeO.none _
   | refine LeO.ite ?_ ?_
   | refine LeO.bind ?_ (fun _ => ?_)
set_option maxHeartbeats 8000000 in
set_option maxRecDepth 100000 in
theorem laws_heldForkS.calls (k : Nat) (A0 : Option Addr) (c0 : Nat) (l0 : List (S89)) (a1 : Int) (r : Int) (w : World) (hr0 : Kd.C k89 w A0 l0.length l0) (hc0 : l0.length ≤ c0) (h : laws_heldForkS.f k l0 a1 = some r) :
  Calls Try.prog 74 #[.slice A0 l0.length c0, .int .i64 a1] w fun e w' => e = .returned (.int .i64 r) ∧ Drawn0 w w' := by
 have HR0 := A_ hr0
 have HC0 := A_ hc0
 clear hr0 hc0
 have H : (laws_heldForkS.l0 k l0 a1 0) = some r := h
 clear h
 have H' := A_ H
 clear H
 go_enter Try.func74, Try.ntmps74
 go_wp2
 go_loopg [1, 5] k (fun kq v1 v5 w' => ∃ (x1_1 : Int) (x5_1 : Int), v1 = .int .i64 x1_1 ∧ v5 = .int .i64 x5_1 ∧ Aside0 (laws_heldForkS.l0 kq l0 x1_1 x5_1 = some r) ∧ Aside0 (kq ≤ k) ∧ Drawn0 w w')
 case atStart => exact ⟨(a1), (0), z1_2_, z1_2_, H', ⟨Nat.le_refl _⟩, z1_13_⟩
 case round =>
  clear H'
  try clear p2
  obtain ⟨x1_1, x5_1, rfl, rfl, HA, HK1, ⟨m1, rfl⟩⟩ := hrel
  cases gk with
  | zero => exact absurd HA.out (by simp [laws_heldForkS.l0])
  | succ k1 =>
   have H := HA.out
   clear HA
   simp only [laws_heldForkS.l0] at H
   by_cases c3 : x5_1 < (l0.length : Int)
   ·
    rw [if_pos c3] at H
    have c3b0 := decide_eq_true c3
    clear c3
    by_cases c4 : 0 ≤ x5_1
    ·
     rw [if_pos c4] at H
     have c4b0 := decide_eq_true c4
     clear c4
     by_cases c5 : ((rd_T89 l0 x5_1).f0) = (IntKind.i8.wrap (x1_1))
     ·
      rw [if_pos c5] at H
      have c5b0 := beq_iff_eq.mpr c5
      have c5b1 := bne_eq_false_iff_eq.mpr c5
      clear c5
      by_cases c6 : ((rd_T89 l0 x5_1).f1) = (IntKind.i8.wrap (wrap64 (x1_1 + 1)))
      ·
       rw [if_pos c6] at H
       have c6b0 := beq_iff_eq.mpr c6
       have c6b1 := bne_eq_false_iff_eq.mpr c6
       clear c6
       have H' := A_ H
       clear H
       have p121 : 0 ≤ (x5_1 : Int) := of_decide_eq_true (by assumption)
       have q121 : x5_1 < (l0.length : Int) := of_decide_eq_true (by assumption)
       obtain ⟨ad121, e121, hx121_0, hx121_1, hx121_2, hx121_3, hx121_4⟩ := at_T89 HR0.out x5_1 p121 q121
       cases e121
       replace p121 := eq_true p121
       replace q121 := eq_true q121
       have p122 : 0 ≤ (x5_1 : Int) := of_decide_eq_true (by assumption)
       have q122 : x5_1 < (l0.length : Int) := of_decide_eq_true (by assumption)
       obtain ⟨ad122, e122, hx122_0, hx122_1, hx122_2, hx122_3, hx122_4⟩ := at_T89 HR0.out x5_1 p122 q122
       obtain rfl : ad121 = ad122 := (by injection e122)
       replace p122 := eq_true p122
       replace q122 := eq_true q122
       go_wp2
       go_loopg [1, 6] k1 (fun kq v1 v6 w' => ∃ (x1_2 : Int) (x6_2 : Int), v1 = .int .i64 x1_2 ∧ v6 = .int .i64 x6_2 ∧ Aside0 (laws_heldForkS.l1 kq l0 x1_2 x5_1 x6_2 = some r) ∧ Aside0 (kq ≤ k1) ∧ Drawn0 w w')
       case atStart => exact ⟨(wrap64 ((wrap64 (x1_1 + 1)) + 1)), (0), z1_2_, z1_2_, H', ⟨Nat.le_refl _⟩, z1_13_⟩
       case round =>
        clear H'
        try clear p1
        try clear q1
        try clear hx1
        try clear p2
        try clear c3
        try clear c3b0
        try clear c4
        try clear c4b0
        try clear c5
        try clear c5b0
        try clear c5b1
        try clear c6
        try clear c6b0
        try clear c6b1
        try clear p6
        try clear hx121_0
        try clear hx121_1
        try clear hx121_2
        try clear hx121_3
        try clear hx121_4
        try clear hx122_0
        try clear hx122_1
        try clear hx122_2
        try clear hx122_3
        try clear hx122_4
        try clear p121
        try clear p122
        try clear p2
        try clear q121
        try clear q122
        obtain ⟨x1_2, x6_2, rfl, rfl, HA, HK2, ⟨m2, rfl⟩⟩ := hrel
        cases gk with
        | zero => exact absurd HA.out (by simp [laws_heldForkS.l1])
        | succ k2 =>
         have H := HA.out
         clear HA
         simp only [laws_heldForkS.l1] at H
         by_cases c7 : x6_2 < 3
         ·
          rw [if_pos c7] at H
          have c7b0 := decide_eq_true c7
          clear c7
          by_cases c8 : 0 ≤ x5_1
          ·
           rw [if_pos c8] at H
           have c8b0 := decide_eq_true c8
           clear c8
           by_cases c9 : x5_1 < (l0.length : Int)
           ·
            rw [if_pos c9] at H
            have c9b0 := decide_eq_true c9
            clear c9
            by_cases c10 : 0 ≤ x6_2
            ·
             rw [if_pos c10] at H
             have c10b0 := decide_eq_true c10
             clear c10
             by_cases c11 : (rd [(rd_T89 l0 x5_1).f2.f0, (rd_T89 l0 x5_1).f2.f1, (rd_T89 l0 x5_1).f2.f2] x6_2) = (IntKind.i16.wrap (x1_2))
             ·
              rw [if_pos c11] at H
              have c11b0 := beq_iff_eq.mpr c11
              have c11b1 := bne_eq_false_iff_eq.mpr c11
              clear c11
              have H' := A_ H
              clear H
              have p123 : 0 ≤ (x5_1 : Int) := of_decide_eq_true (by assumption)
              have q123 : x5_1 < (l0.length : Int) := of_decide_eq_true (by assumption)
              obtain ⟨ad123, e123, hx123_0, hx123_1, hx123_2, hx123_3, hx123_4⟩ := at_T89 HR0.out x5_1 p123 q123
              obtain rfl : ad121 = ad123 := (by injection e123)
              replace p123 := eq_true p123
              replace q123 := eq_true q123
              have p124 : 0 ≤ (x6_2 : Int) := of_decide_eq_true (by assumption)
              have q124 : (x6_2 : Int) < 3 := of_decide_eq_true (by assumption)
              have hx124_0 := cell_arr3 hx123_2 hx123_3 hx123_4 x6_2 p124 q124
              (try simp only [Nat.zero_add, Nat.add_zero] at hx124_0)
              replace p124 := eq_true p124
              replace q124 := eq_true q124
              go_wp2
              go_roundg k2
              case measure => have := HK1.out; have := HK2.out; omega
              case rel => exact ⟨(wrap64 (x1_2 + 1)), (wrap64 (x6_2 + 1)), z1_2_, z1_2_, H', ⟨z1_23_⟩, z1_13_⟩
             ·
              rw [if_neg c11] at H
              have c11b0 : ((rd [(rd_T89 l0 x5_1).f2.f0, (rd_T89 l0 x5_1).f2.f1, (rd_T89 l0 x5_1).f2.f2] x6_2) == (IntKind.i16.wrap (x1_2))) = false := beq_eq_false_iff_ne.mpr c11
              have c11b1 : ((rd [(rd_T89 l0 x5_1).f2.f0, (rd_T89 l0 x5_1).f2.f1, (rd_T89 l0 x5_1).f2.f2] x6_2) != (IntKind.i16.wrap (x1_2))) = true := bne_iff_ne.mpr c11
              obtain rfl := Option.some.inj H
              have p123 : 0 ≤ (x5_1 : Int) := of_decide_eq_true (by assumption)
              have q123 : x5_1 < (l0.length : Int) := of_decide_eq_true (by assumption)
              obtain ⟨ad123, e123, hx123_0, hx123_1, hx123_2, hx123_3, hx123_4⟩ := at_T89 HR0.out x5_1 p123 q123
              obtain rfl : ad121 = ad123 := (by injection e123)
              replace p123 := eq_true p123
              replace q123 := eq_true q123
              have p124 : 0 ≤ (x6_2 : Int) := of_decide_eq_true (by assumption)
              have q124 : (x6_2 : Int) < 3 := of_decide_eq_true (by assumption)
              have hx124_0 := cell_arr3 hx123_2 hx123_3 hx123_4 x6_2 p124 q124
              (try simp only [Nat.zero_add, Nat.add_zero] at hx124_0)
              replace p124 := eq_true p124
              replace q124 := eq_true q124
              go_wp2
              go_ret
              exact ⟨z1_2_, z1_13_⟩
            ·
             rw [if_neg c10] at H
             exact absurd H (by simp)
           ·
            rw [if_neg c9] at H
            exact absurd H (by simp)
          ·
           rw [if_neg c8] at H
           exact absurd H (by simp)
         ·
          rw [if_neg c7] at H
          have c7b0 := decide_eq_false c7
          clear c7
          have H' := A_ H
          clear H
          go_wp2
          go_roundg k2
          case measure => have := HK1.out; have := HK2.out; omega
          case rel => exact ⟨(x1_2), (wrap64 (x5_1 + 1)), z1_2_, z1_2_, H', ⟨z1_23_⟩, z1_13_⟩
      ·
       rw [if_neg c6] at H
       have c6b0 : (((rd_T89 l0 x5_1).f1) == (IntKind.i8.wrap (wrap64 (x1_1 + 1)))) = false := beq_eq_false_iff_ne.mpr c6
       have c6b1 : (((rd_T89 l0 x5_1).f1) != (IntKind.i8.wrap (wrap64 (x1_1 + 1)))) = true := bne_iff_ne.mpr c6
       obtain rfl := Option.some.inj H
       have p121 : 0 ≤ (x5_1 : Int) := of_decide_eq_true (by assumption)
       have q121 : x5_1 < (l0.length : Int) := of_decide_eq_true (by assumption)
       obtain ⟨ad121, e121, hx121_0, hx121_1, hx121_2, hx121_3, hx121_4⟩ := at_T89 HR0.out x5_1 p121 q121
       cases e121
       replace p121 := eq_true p121
       replace q121 := eq_true q121
       have p122 : 0 ≤ (x5_1 : Int) := of_decide_eq_true (by assumption)
       have q122 : x5_1 < (l0.length : Int) := of_decide_eq_true (by assumption)
       obtain ⟨ad122, e122, hx122_0, hx122_1, hx122_2, hx122_3, hx122_4⟩ := at_T89 HR0.out x5_1 p122 q122
       obtain rfl : ad121 = ad122 := (by injection e122)
       replace p122 := eq_true p122
       replace q122 := eq_true q122
       go_wp2
       go_ret
       exact ⟨z1_2_, z1_13_⟩
     ·
      rw [if_neg c5] at H
      have c5b0 : (((rd_T89 l0 x5_1).f0) == (IntKind.i8.wrap (x1_1))) = false := beq_eq_false_iff_ne.mpr c5
      have c5b1 : (((rd_T89 l0 x5_1).f0) != (IntKind.i8.wrap (x1_1))) = true := bne_iff_ne.mpr c5
      obtain rfl := Option.some.inj H
      have p121 : 0 ≤ (x5_1 : Int) := of_decide_eq_true (by assumption)
      have q121 : x5_1 < (l0.length : Int) := of_decide_eq_true (by assumption)
      obtain ⟨ad121, e121, hx121_0, hx121_1, hx121_2, hx121_3, hx121_4⟩ := at_T89 HR0.out x5_1 p121 q121
      cases e121
      replace p121 := eq_true p121
      replace q121 := eq_true q121
      go_wp2
      go_ret
      exact ⟨z1_2_, z1_13_⟩
    ·
     rw [if_neg c4] at H
     exact absurd H (by simp)
   ·
    rw [if_neg c3] at H
    have c3b0 := decide_eq_false c3
    clear c3
    obtain rfl := Option.some.inj H
    go_wp2
    go_ret
    exact ⟨z1_2_, z1_13_⟩
/-! ### laws_heldTree: function 31 -/
def laws_heldTree.f (k : Nat) (l0_0 : List (S89)) (a1 : Int) : Option (Int) := (laws_heldForkS.f k l0_0 a1).bind fun t126 => (if t126 < 0 then (some (-1)) else (some t126))
theorem laws_heldTree.mono : ∀ a0 a1 k, LeO (laws_heldTree.f k a0 a1) (laws_heldTree.f (k + 1) a0 a1) := by
 intro a0 a1 k
 unfold laws_heldTree.f
 repeat' first
   | (with_reducible exact laws_heldForkS.mono _ _ _)
   | (with_reducible exact LeO.refl _)
   | (with_reducible exact LeO.none _)
   | (with_reducible refine LeO.ite ?_ ?_)
   | (with_reducible refine LeO.bind ?_ (fun _ => ?_))
   | exact LeO.none _
   | refine LeO.ite ?_ ?_
   | refine LeO.bind ?_ (fun _ => ?_)
set_option maxHeartbeats 8000000 in
set_option maxRecDepth 100000 in
theorem laws_heldTree.calls (k : Nat) (A0_0 : Option Addr) (c0_0 : Nat) (l0_0 : List (S89)) (a1 : Int) (r : Int) (w : World) (hr0_0 : Kd.C k89 w A0_0 l0_0.length l0_0) (hc0_0 : l0_0.length ≤ c0_0) (h : laws_heldTree.f k l0_0 a1 = some r) :
  Calls Try.prog 31 #[.agg #[.slice A0_0 l0_0.length c0_0], .int .i64 a1] w fun e w' => e = .returned (.int .i64 r) ∧ Below w.heap.size w w' := by
 have hu34 := Try.underlying34
 have HR0_0 := A_ hr0_0
 have HC0_0 := A_ hc0_0
 clear hr0_0 hc0_0
 have HB := A_ (Below.refl w.heap.size w)
 have H : ((laws_heldForkS.f k l0_0 a1).bind fun t126 => (if t126 < 0 then (some (-1)) else (some t126))) = some r := h
 clear h
 replace H := Option.bind_eq_some_iff.mp H
 obtain ⟨t126, A30, H⟩ := H
 try dsimp only at H
 have A3 := A_ A30
 clear A30
 by_cases c4 : t126 < 0
 ·
  rw [if_pos c4] at H
  have c4b0 := decide_eq_true c4
  clear c4
  obtain rfl := Option.some.inj H
  go_enter Try.func31, Try.ntmps31
  go_wp2_with (first | ((with_reducible refine gate_dst (N := 2) rfl ?_); refine box_event ?hg (N := 2) ?hd (cs := #[.slice A0_0 l0_0.length c0_0]) (t := 34) ?hr ?_; (case hd => rfl); (case hg => rfl); (case hr => first | (go_simp; done) | (go_simp; rfl)); intro gb125 hg w5 hbox hb; have _ := A_ (below_step z1_1_ hb); have _ := A_ (hbox); have _ := A_ ((by rw [hg]; exact (below_size z1_1_) : w.heap.size ≤ gb125)); have _ := A_ ((by rw [hg]; exact (below_size z1_1_) : w.heap.size ≤ gb125)); clear HB; rename_i HB BK125 GW125 GE125; clear hb hbox hg; have hcz6_0 : w5.cell? ⟨gb125, 0, none⟩ = some (.slice A0_0 l0_0.length c0_0) := (blk_cell BK125.out 0).trans rfl; have hfz6_0 := blk_frozen BK125.out 0) | ((with_reducible refine gate_callee (f := 74) rfl ?_); refine goesL_ (some 8) rfl rfl Try.func74 (by kernel_rfl) rfl #[.slice A0_0 l0_0.length c0_0, .int .i64 a1] rfl z1_8_ ?_; (with_reducible refine (laws_heldForkS.calls k _ _ l0_0 a1 t126 _ ?side1 ?side2 A3.out).mono ?_); (case side1 => have hx_ := (Kd.C_below HR0_0.out HB.out); exact kc_); (case side2 => exact HC0_0.out); rintro e w' ⟨rfl, ⟨nd, rfl⟩⟩; refine ⟨_, rfl, ?_⟩))
  go_ret
  exact ⟨z1_6_, z1_18_⟩
 ·
  rw [if_neg c4] at H
  have c4b0 := decide_eq_false c4
  clear c4
  obtain rfl := Option.some.inj H
  go_enter Try.func31, Try.ntmps31
  go_wp2_with (first | ((with_reducible refine gate_dst (N := 2) rfl ?_); refine box_event ?hg (N := 2) ?hd (cs := #[.slice A0_0 l0_0.length c0_0]) (t := 34) ?hr ?_; (case hd => rfl); (case hg => rfl); (case hr => first | (go_simp; done) | (go_simp; rfl)); intro gb125 hg w7 hbox hb; have _ := A_ (below_step z1_1_ hb); have _ := A_ (hbox); have _ := A_ ((by rw [hg]; exact (below_size z1_1_) : w.heap.size ≤ gb125)); have _ := A_ ((by rw [hg]; exact (below_size z1_1_) : w.heap.size ≤ gb125)); clear HB; rename_i HB BK125 GW125 GE125; clear hb hbox hg; have hcz8_0 : w7.cell? ⟨gb125, 0, none⟩ = some (.slice A0_0 l0_0.length c0_0) := (blk_cell BK125.out 0).trans rfl; have hfz8_0 := blk_frozen BK125.out 0) | ((with_reducible refine gate_callee (f := 74) rfl ?_); refine goesL_ (some 8) rfl rfl Try.func74 (by kernel_rfl) rfl #[.slice A0_0 l0_0.length c0_0, .int .i64 a1] rfl z1_8_ ?_; (with_reducible refine (laws_heldForkS.calls k _ _ l0_0 a1 t126 _ ?side1 ?side2 A3.out).mono ?_); (case side1 => have hx_ := (Kd.C_below HR0_0.out HB.out); exact kc_); (case side2 => exact HC0_0.out); rintro e w' ⟨rfl, ⟨nd, rfl⟩⟩; refine ⟨_, rfl, ?_⟩))
  go_ret
  exact ⟨z1_6_, z1_18_⟩
/-! ### spec_l00In: function 109 -/
def spec_l00In.f (a0 : Int) (a1 : Int) (a2 : Int) : Option (Bool) := if a0 ≥ a1 then (some (decide (a0 ≤ a2))) else (some false)
set_option maxHeartbeats 8000000 in
set_option maxRecDepth 100000 in
theorem spec_l00In.calls (a0 : Int) (a1 : Int) (a2 : Int) (r : Bool) (w : World) (h : spec_l00In.f a0 a1 a2 = some r) :
  Calls Try.prog 109 #[.int .i64 a0, .int .i64 a1, .int .i64 a2] w fun e w' => e = .returned (.bool r) ∧ Drawn0 w w' := by
 have H : (if a0 ≥ a1 then (some (decide (a0 ≤ a2))) else (some false)) = some r := h
 clear h
 by_cases c4 : a0 ≥ a1
 ·
  rw [if_pos c4] at H
  have c4b0 := decide_eq_true c4
  clear c4
  obtain rfl := Option.some.inj H
  go_enter Try.func109, Try.ntmps109
  go_wp2
  go_ret
  exact ⟨z1_2_, z1_13_⟩
 ·
  rw [if_neg c4] at H
  have c4b0 := decide_eq_false c4
  clear c4
  obtain rfl := Option.some.inj H
  go_enter Try.func109, Try.ntmps109
  go_wp2
  go_ret
  exact ⟨z1_2_, z1_13_⟩
/-! ### spec_l03Digits: function 135 -/
def spec_l03Digits.l0 : Nat → List Int → Int → Option (Bool)
 | 0, _, _ => none
 | k + 1, x0, x3 => if x3 < (x0.length : Int) then (if 0 ≤ x3 then (if (rd x0 x3) < (-1) then (some false) else (if (rd x0 x3) > 1 then (some false) else (spec_l03Digits.l0 k x0 (wrap64 (x3 + 1))))) else (none)) else (some true)
def spec_l03Digits.f (k : Nat) (l0 : List Int) : Option (Bool) := spec_l03Digits.l0 k l0 0
theorem spec_l03Digits.mono_l : ∀ k, (∀ y0 y1, LeO (spec_l03Digits.l0 k y0 y1) (spec_l03Digits.l0 (k + 1) y0 y1))
 | 0 => fun _ _ r h => by simp [spec_l03Digits.l0] at h
 | k + 1 => by
  have ih0 := spec_l03Digits.mono_l k
  ·
   intro y0 y1
   unfold spec_l03Digits.l0
   repeat' first
   | (with_reducible exact ih0 _ _)
   | (with_reducible exact LeO.refl _)
   | (with_reducible exact LeO.none _)
   | (with_reducible refine LeO.ite ?_ ?_)
   | (with_reducible refine LeO.bind ?_ (fun _ => ?_))
   | exact ih0 _ _
   | exact LeO.none _
   | refine LeO.ite ?_ ?_
   | refine LeO.bind ?_ (fun _ => ?_)
theorem spec_l03Digits.mono : ∀ a0 k, LeO (spec_l03Digits.f k a0) (spec_l03Digits.f (k + 1) a0) := by
 intro a0 k
 have ih0 := spec_l03Digits.mono_l k
 unfold spec_l03Digits.f
 repeat' first
   | (with_reducible exact ih0 _ _)
   | (with_reducible exact LeO.refl _)
   | (with_reducible exact LeO.none _)
   | (with_reducible refine LeO.ite ?_ ?_)
   | (with_reducible refine LeO.bind ?_ (fun _ => ?_))
   | exact ih0 _ _
   | exact LeO.none _
   | refine LeO.ite ?_ ?_
   | refine LeO.bind ?_ (fun _ => ?_)
set_option maxHeartbeats 8000000 in
set_option maxRecDepth 100000 in
theorem spec_l03Digits.calls (k : Nat) (A0 : Option Addr) (c0 : Nat) (l0 : List Int) (r : Bool) (w : World) (hr0 : Kd.C (Kd.int .i8) w A0 l0.length l0) (hc0 : l0.length ≤ c0) (h : spec_l03Digits.f k l0 = some r) :
  Calls Try.prog 135 #[.slice A0 l0.length c0] w fun e w' => e = .returned (.bool r) ∧ Drawn0 w w' := by
 have HR0 := A_ hr0
 have HC0 := A_ hc0
 clear hr0 hc0
 have H : (spec_l03Digits.l0 k l0 0) = some r := h
 clear h
 have H' := A_ H
 clear H
 go_enter Try.func135, Try.ntmps135
 go_wp2
 go_loopg [3] k (fun kq v3 w' => ∃ (x3_1 : Int), v3 = .int .i64 x3_1 ∧ Aside0 (spec_l03Digits.l0 kq l0 x3_1 = some r) ∧ Aside0 (kq ≤ k) ∧ Drawn0 w w')
 case atStart => exact ⟨(0), z1_2_, H', ⟨Nat.le_refl _⟩, z1_13_⟩
 case round =>
  clear H'
  try clear c1
  obtain ⟨x3_1, rfl, HA, HK1, ⟨m1, rfl⟩⟩ := hrel
  cases gk with
  | zero => exact absurd HA.out (by simp [spec_l03Digits.l0])
  | succ k1 =>
   have H := HA.out
   clear HA
   simp only [spec_l03Digits.l0] at H
   by_cases c2 : x3_1 < (l0.length : Int)
   ·
    rw [if_pos c2] at H
    have c2b0 := decide_eq_true c2
    clear c2
    by_cases c3 : 0 ≤ x3_1
    ·
     rw [if_pos c3] at H
     have c3b0 := decide_eq_true c3
     clear c3
     by_cases c4 : (rd l0 x3_1) < (-1)
     ·
      rw [if_pos c4] at H
      have c4b0 := decide_eq_true c4
      clear c4
      obtain rfl := Option.some.inj H
      have p127 : 0 ≤ (x3_1 : Int) := of_decide_eq_true (by assumption)
      have q127 : x3_1 < (l0.length : Int) := of_decide_eq_true (by assumption)
      obtain ⟨ad127, e127, hx127_0⟩ := Kd.at_int HR0.out x3_1 p127 q127
      cases e127
      replace p127 := eq_true p127
      replace q127 := eq_true q127
      go_wp2
      go_ret
      exact ⟨z1_2_, z1_13_⟩
     ·
      rw [if_neg c4] at H
      have c4b0 := decide_eq_false c4
      clear c4
      by_cases c5 : (rd l0 x3_1) > 1
      ·
       rw [if_pos c5] at H
       have c5b0 := decide_eq_true c5
       clear c5
       obtain rfl := Option.some.inj H
       have p127 : 0 ≤ (x3_1 : Int) := of_decide_eq_true (by assumption)
       have q127 : x3_1 < (l0.length : Int) := of_decide_eq_true (by assumption)
       obtain ⟨ad127, e127, hx127_0⟩ := Kd.at_int HR0.out x3_1 p127 q127
       cases e127
       replace p127 := eq_true p127
       replace q127 := eq_true q127
       have p128 : 0 ≤ (x3_1 : Int) := of_decide_eq_true (by assumption)
       have q128 : x3_1 < (l0.length : Int) := of_decide_eq_true (by assumption)
       obtain ⟨ad128, e128, hx128_0⟩ := Kd.at_int HR0.out x3_1 p128 q128
       obtain rfl : ad127 = ad128 := (by injection e128)
       replace p128 := eq_true p128
       replace q128 := eq_true q128
       go_wp2
       go_ret
       exact ⟨z1_2_, z1_13_⟩
      ·
       rw [if_neg c5] at H
       have c5b0 := decide_eq_false c5
       clear c5
       have H' := A_ H
       clear H
       have p127 : 0 ≤ (x3_1 : Int) := of_decide_eq_true (by assumption)
       have q127 : x3_1 < (l0.length : Int) := of_decide_eq_true (by assumption)
       obtain ⟨ad127, e127, hx127_0⟩ := Kd.at_int HR0.out x3_1 p127 q127
       cases e127
       replace p127 := eq_true p127
       replace q127 := eq_true q127
       have p128 : 0 ≤ (x3_1 : Int) := of_decide_eq_true (by assumption)
       have q128 : x3_1 < (l0.length : Int) := of_decide_eq_true (by assumption)
       obtain ⟨ad128, e128, hx128_0⟩ := Kd.at_int HR0.out x3_1 p128 q128
       obtain rfl : ad127 = ad128 := (by injection e128)
       replace p128 := eq_true p128
       replace q128 := eq_true q128
       go_wp2
       go_roundg k1
       case measure => have := HK1.out; omega
       case rel => exact ⟨(wrap64 (x3_1 + 1)), z1_2_, H', ⟨(by have := HK1.out; omega)⟩, z1_13_⟩
    ·
     rw [if_neg c3] at H
     exact absurd H (by simp)
   ·
    rw [if_neg c2] at H
    have c2b0 := decide_eq_false c2
    clear c2
    obtain rfl := Option.some.inj H
    go_wp2
    go_ret
    exact ⟨z1_2_, z1_13_⟩
end Go.Proofs.Ytpfnohdnaocpdaa.PT

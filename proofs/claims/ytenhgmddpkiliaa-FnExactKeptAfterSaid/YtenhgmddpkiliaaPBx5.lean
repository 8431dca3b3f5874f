import Derived.Test.YtenhgmddpkiliaaPBx0
namespace Go.Proofs.Ytenhgmddpkiliaa.PB
open Go.RowKit Go.Proofs.YtenhgmddpkiliaaW.PrintWords Go.Proofs.YtenhgmddpkiliaaW.PrintLast Go.Proofs.YtenhgmddpkiliaaW.PrintMore Go.Proofs.YtenhgmddpkiliaaRP
attribute [local go_sem] max2_int min2_int max_two min_two max_three min_three max_four min_four Go.Proofs.YtenhgmddpkiliaaRP.max_eight Go.Proofs.YtenhgmddpkiliaaRP.tmod_len   -- for this text's walks alone
set_option linter.unusedVariables false
set_option linter.unusedSimpArgs false
theorem z5_1_ {P : Prop} (h : P := by repeat (first | (with_reducible first | exact HB.out | apply below_alloc | apply pw_below_drewN | apply below_drew1) | exact HB.out)) : P := h
theorem z5_2_ {P : Prop} (h : P := by first | rfl | (simp; done) | (simp [*]; done) | (simp [isE_]; done)) : P := h
theorem z5_3_ {P : Prop} (h : P := by repeat (first | exact Drawn0.refl _ | apply Drawn0.step)) : P := h
theorem z5_4_ {P : Prop} (h : P := by (try simp only [List.map_toArray, List.map_cons, List.map_nil]); first | done | rfl | (simp only [List.length_drop, List.length_take]; rfl)) : P := h
theorem z5_5_ {P : Prop} (h : P := by (with_reducible repeat (first | refine blk_drewN ?_ _ | refine blk_drew ?_ | refine blk_alloc ?_ _)); exact BK268.out) : P := h
theorem z5_6_ {P : Prop} (h : P := by repeat (first | (with_reducible first | exact HB.out | apply below_alloc | apply pw_below_drewN | apply below_drew1 | refine below_set ?_ GE268.out | refine below_set ?_ GE269.out | refine below_set ?_ GE270.out) | exact HB.out)) : P := h
theorem z5_7_ {P : Prop} (h : P := by first | rfl | (simp [errW_none, errW_some] <;> rfl) | (simp [*, errW_none, errW_some] <;> rfl)) : P := h
theorem z5_8_ {P : Prop} (h : P := by (with_reducible repeat (first | refine blk_drewN ?_ _ | refine blk_drew ?_ | refine blk_alloc ?_ _)); exact BK282.out) : P := h
theorem z5_9_ {P : Prop} (h : P := by (with_reducible repeat (first | refine blk_drewN ?_ _ | refine blk_drew ?_ | refine blk_alloc ?_ _)); exact BK273.out) : P := h
theorem z5_10_ {P : Prop} (h : P := by (with_reducible repeat (first | refine blk_drewN ?_ _ | refine blk_drew ?_ | refine blk_alloc ?_ _)); exact BK269.out) : P := h
theorem z5_11_ {P : Prop} (h : P := by repeat (first | (with_reducible first | exact HB.out | apply below_alloc | apply pw_below_drewN | apply below_drew1 | refine below_set ?_ GE282.out | refine below_set ?_ GE283.out) | exact HB.out)) : P := h
theorem z5_12_ {P : Prop} (h : P := by repeat (first | (with_reducible first | exact HB.out | apply below_alloc | apply pw_below_drewN | apply below_drew1 | refine below_set ?_ GE273.out | refine below_set ?_ GE274.out) | exact HB.out)) : P := h
theorem z5_13_ {P : Prop} (h : P := by repeat (first | (with_reducible first | exact HB.out | apply below_alloc | apply pw_below_drewN | apply below_drew1 | refine below_set ?_ GE268.out | refine below_set ?_ GE269.out) | exact HB.out)) : P := h
theorem z5_14_ {P : Prop} (h : P := by repeat (first | (with_reducible first | exact HB.out | apply below_alloc | apply pw_below_drewN | apply below_drew1 | refine below_set ?_ GE282.out) | exact HB.out)) : P := h
theorem z5_15_ {P : Prop} (h : P := by repeat (first | (with_reducible first | exact HB.out | apply below_alloc | apply pw_below_drewN | apply below_drew1 | refine below_set ?_ GE273.out) | exact HB.out)) : P := h
theorem z5_16_ {P : Prop} (h : P := by repeat (first | (with_reducible first | exact HB.out | apply below_alloc | apply pw_below_drewN | apply below_drew1 | refine below_set ?_ GE268.out) | exact HB.out)) : P := h
theorem z5_17_ {P : Prop} (h : P := by (with_reducible repeat (first | apply Kd.R_alloc | apply Kd.R_drewN | apply Kd.R_drew)); exact HO314.out) : P := h
theorem z5_18_ {P : Prop} (h : P := by (with_reducible repeat (first | apply Kd.R_alloc | apply Kd.R_drewN | apply Kd.R_drew)); exact HO_3.out) : P := h
theorem z5_19_ {P : Prop} (h : P := by first | omega | exact Nat.le_refl _) : P := h
theorem z5_20_ {P : Prop} (h : P := by (with_reducible repeat (first | refine blk_drewN ?_ _ | refine blk_drew ?_ | refine blk_alloc ?_ _)); exact BK283.out) : P := h
theorem z5_21_ {P : Prop} (h : P := by (with_reducible repeat (first | refine blk_drewN ?_ _ | refine blk_drew ?_ | refine blk_alloc ?_ _)); exact BK274.out) : P := h
theorem z5_22_ {P : Prop} (h : P := by repeat (first | (with_reducible first | exact HB.out | apply below_alloc | apply pw_below_drewN | apply below_drew1 | refine below_set ?_ GE282.out | refine below_set ?_ GE283.out | refine below_set ?_ GE284.out) | exact HB.out)) : P := h
theorem z5_23_ {P : Prop} (h : P := by repeat (first | (with_reducible first | exact HB.out | apply below_alloc | apply pw_below_drewN | apply below_drew1 | refine below_set ?_ GE273.out | refine below_set ?_ GE274.out | refine below_set ?_ GE275.out) | exact HB.out)) : P := h
theorem z5_24_ {P : Prop} (h : P := by (with_reducible repeat (first | refine blk_drewN ?_ _ | refine blk_drew ?_ | refine blk_alloc ?_ _)); exact BK270.out) : P := h
theorem z5_25_ {P : Prop} (h : P := by (with_reducible repeat (first | apply Kd.R_alloc | apply Kd.R_drewN | apply Kd.R_drew)); exact HO318.out) : P := h
/-! ### laws_toUint32A6: function 131 -/
def laws_toUint32A6.l0 : Nat → Int → Int → Int → Int → Int → Int → Int → Int → Int → Int → Int → Int → Int → Option (Int × Int × Int × Int × Int × Int)
 | 0, _, _, _, _, _, _, _, _, _, _, _, _, _ => none
 | k + 1, x4, x269000, x269001, x269002, x269003, x269004, x269005, x271000, x271001, x271002, x271003, x271004, x271005 => if x4 < 6 then (if 0 ≤ x4 then (laws_toUint32A6.l0 k (wrap64 (x4 + 1)) x269000 x269001 x269002 x269003 x269004 x269005 (up 0 x4 (rd [x269000, x269001, x269002, x269003, x269004, x269005] x4) x271000) (up 1 x4 (rd [x269000, x269001, x269002, x269003, x269004, x269005] x4) x271001) (up 2 x4 (rd [x269000, x269001, x269002, x269003, x269004, x269005] x4) x271002) (up 3 x4 (rd [x269000, x269001, x269002, x269003, x269004, x269005] x4) x271003) (up 4 x4 (rd [x269000, x269001, x269002, x269003, x269004, x269005] x4) x271004) (up 5 x4 (rd [x269000, x269001, x269002, x269003, x269004, x269005] x4) x271005)) else (none)) else (some (x271000, x271001, x271002, x271003, x271004, x271005))
def laws_toUint32A6.f (k : Nat) (a0_0 : Int) (a0_1 : Int) (a0_2 : Int) (a0_3 : Int) (a0_4 : Int) (a0_5 : Int) : Option (Int × Int × Int × Int × Int × Int) := laws_toUint32A6.l0 k 0 a0_0 a0_1 a0_2 a0_3 a0_4 a0_5 0 0 0 0 0 0
theorem laws_toUint32A6.mono_l : ∀ k, (∀ y0 y1 y2 y3 y4 y5 y6 y7 y8 y9 y10 y11 y12, LeO (laws_toUint32A6.l0 k y0 y1 y2 y3 y4 y5 y6 y7 y8 y9 y10 y11 y12) (laws_toUint32A6.l0 (k + 1) y0 y1 y2 y3 y4 y5 y6 y7 y8 y9 y10 y11 y12))
 | 0 => fun _ _ _ _ _ _ _ _ _ _ _ _ _ r h => by simp [laws_toUint32A6.l0] at h
 | k + 1 => by
  have ih0 := laws_toUint32A6.mono_l k
  ·
   intro y0 y1 y2 y3 y4 y5 y6 y7 y8 y9 y10 y11 y12
   unfold laws_toUint32A6.l0
   repeat' first
   | (with_reducible exact ih0 _ _ _ _ _ _ _ _ _ _ _ _ _)
   | (with_reducible exact LeO.refl _)
   | (with_reducible exact LeO.none _)
   | (with_reducible refine LeO.ite ?_ ?_)
   | (with_reducible refine LeO.bind ?_ (fun _ => ?_))
   | exact ih0 _ _ _ _ _ _ _ _ _ _ _ _ _
   | exact LeO.none _
   | refine LeO.ite ?_ ?_
   | refine LeO.bind ?_ (fun _ => ?_)
theorem laws_toUint32A6.mono : ∀ a0 a1 a2 a3 a4 a5 k, LeO (laws_toUint32A6.f k a0 a1 a2 a3 a4 a5) (laws_toUint32A6.f (k + 1) a0 a1 a2 a3 a4 a5) := by
 intro a0 a1 a2 a3 a4 a5 k
 have ih0 := laws_toUint32A6.mono_l k
 unfold laws_toUint32A6.f
 repeat' first
   | (with_reducible exact ih0 _ _ _ _ _ _ _ _ _ _ _ _ _)
   | (with_reducible exact LeO.refl _)
   | (with_reducible exact LeO.none _)
   | (with_reducible refine LeO.ite ?_ ?_)
   | (with_reducible refine LeO.bind ?_ (fun _ => ?_))
   | exact ih0 _ _ _ _ _ _ _ _ _ _ _ _ _
   | exact LeO.none _
   | refine LeO.ite ?_ ?_
   | refine LeO.bind ?_ (fun _ => ?_)
set_option maxHeartbeats 8000000 in
set_option maxRecDepth 100000 in
theorem laws_toUint32A6.calls (k : Nat) (a0_0 : Int) (a0_1 : Int) (a0_2 : Int) (a0_3 : Int) (a0_4 : Int) (a0_5 : Int) (r1 : Int) (r2 : Int) (r3 : Int) (r4 : Int) (r5 : Int) (r6 : Int) (w : World) (h : laws_toUint32A6.f k a0_0 a0_1 a0_2 a0_3 a0_4 a0_5 = some (r1, r2, r3, r4, r5, r6)) :
  Calls Try.prog 131 #[.agg #[.int .u32 a0_0, .int .u32 a0_1, .int .u32 a0_2, .int .u32 a0_3, .int .u32 a0_4, .int .u32 a0_5]] w fun e w' => e = .returned (.agg #[.int .u32 r1, .int .u32 r2, .int .u32 r3, .int .u32 r4, .int .u32 r5, .int .u32 r6]) ∧ Below w.heap.size w w' := by
 have hu116 := Try.underlying116
 have HB := A_ (Below.refl w.heap.size w)
 have H : (laws_toUint32A6.l0 k 0 a0_0 a0_1 a0_2 a0_3 a0_4 a0_5 0 0 0 0 0 0) = some (r1, r2, r3, r4, r5, r6) := h
 clear h
 have H' := A_ H
 clear H
 go_enter Try.func131, Try.ntmps131
 go_wp2_with (first | ((with_reducible refine gate_dst (N := 1) rfl ?_); refine box_event ?hg (N := 1) ?hd (cs := #[.int .u32 a0_0, .int .u32 a0_1, .int .u32 a0_2, .int .u32 a0_3, .int .u32 a0_4, .int .u32 a0_5]) (t := 116) ?hr ?_; (case hd => rfl); (case hg => rfl); (case hr => first | (go_simp; done) | (go_simp; rfl)); intro gb268 hg w2 hbox hb; have _ := A_ (below_step z5_1_ hb); have _ := A_ (hbox); have _ := A_ ((by rw [hg]; exact (below_size z5_1_) : w.heap.size ≤ gb268)); have _ := A_ ((by rw [hg]; exact (below_size z5_1_) : w.heap.size ≤ gb268)); clear HB; rename_i HB BK268 GW268 GE268; clear hb hbox hg) | ((with_reducible refine gate_dst (N := 2) rfl ?_); refine box_event ?hg (N := 2) ?hd (cs := #[.int .u32 0, .int .u32 0, .int .u32 0, .int .u32 0, .int .u32 0, .int .u32 0]) (t := 116) ?hr ?_; (case hd => rfl); (case hg => rfl); (case hr => first | (go_simp; done) | (go_simp; rfl)); intro gb269 hg w3 hbox hb; have _ := A_ (blk_below (g := gb268) (o := .cells #[.int .u32 a0_0, .int .u32 a0_1, .int .u32 a0_2, .int .u32 a0_3, .int .u32 a0_4, .int .u32 a0_5] 116 (0, 0)) z5_5_ hb); have _ := A_ (below_step z5_16_ hb); have _ := A_ (hbox); have _ := A_ ((by rw [hg]; exact (below_size z5_16_) : w.heap.size ≤ gb269)); have _ := A_ ((by rw [hg]; exact (below_size z5_16_) : w.heap.size ≤ gb269)); have _ := A_ ((by rw [hg]; exact Nat.ne_of_lt (blk_lt (g := gb268) (o := .cells #[.int .u32 a0_0, .int .u32 a0_1, .int .u32 a0_2, .int .u32 a0_3, .int .u32 a0_4, .int .u32 a0_5] 116 (0, 0)) z5_5_) : gb268 ≠ gb269)); have _ := A_ ((by rw [hg]; exact Nat.ne_of_gt (blk_lt (g := gb268) (o := .cells #[.int .u32 a0_0, .int .u32 a0_1, .int .u32 a0_2, .int .u32 a0_3, .int .u32 a0_4, .int .u32 a0_5] 116 (0, 0)) z5_5_) : gb269 ≠ gb268)); clear BK268 HB; rename_i BK268 HB BK269 GW269 GE269 NB268_269 NB269_268; clear hb hbox hg) | ((with_reducible refine gate_dst (N := 3) rfl ?_); refine box_event ?hg (N := 3) ?hd (cs := #[.int .u32 0, .int .u32 0, .int .u32 0, .int .u32 0, .int .u32 0, .int .u32 0]) (t := 116) ?hr ?_; (case hd => rfl); (case hg => rfl); (case hr => first | (go_simp; done) | (go_simp; rfl)); intro gb270 hg w4 hbox hb; have _ := A_ (blk_below (g := gb268) (o := .cells #[.int .u32 a0_0, .int .u32 a0_1, .int .u32 a0_2, .int .u32 a0_3, .int .u32 a0_4, .int .u32 a0_5] 116 (0, 0)) z5_5_ hb); have _ := A_ (blk_below (g := gb269) (o := .cells #[.int .u32 0, .int .u32 0, .int .u32 0, .int .u32 0, .int .u32 0, .int .u32 0] 116 (0, 0)) z5_10_ hb); have _ := A_ (below_step z5_13_ hb); have _ := A_ (hbox); have _ := A_ ((by rw [hg]; exact (below_size z5_13_) : w.heap.size ≤ gb270)); have _ := A_ ((by rw [hg]; exact (below_size z5_13_) : w.heap.size ≤ gb270)); have _ := A_ ((by rw [hg]; exact Nat.ne_of_lt (blk_lt (g := gb268) (o := .cells #[.int .u32 a0_0, .int .u32 a0_1, .int .u32 a0_2, .int .u32 a0_3, .int .u32 a0_4, .int .u32 a0_5] 116 (0, 0)) z5_5_) : gb268 ≠ gb270)); have _ := A_ ((by rw [hg]; exact Nat.ne_of_gt (blk_lt (g := gb268) (o := .cells #[.int .u32 a0_0, .int .u32 a0_1, .int .u32 a0_2, .int .u32 a0_3, .int .u32 a0_4, .int .u32 a0_5] 116 (0, 0)) z5_5_) : gb270 ≠ gb268)); have _ := A_ ((by rw [hg]; exact Nat.ne_of_lt (blk_lt (g := gb269) (o := .cells #[.int .u32 0, .int .u32 0, .int .u32 0, .int .u32 0, .int .u32 0, .int .u32 0] 116 (0, 0)) z5_10_) : gb269 ≠ gb270)); have _ := A_ ((by rw [hg]; exact Nat.ne_of_gt (blk_lt (g := gb269) (o := .cells #[.int .u32 0, .int .u32 0, .int .u32 0, .int .u32 0, .int .u32 0, .int .u32 0] 116 (0, 0)) z5_10_) : gb270 ≠ gb269)); clear BK268 BK269 HB; rename_i BK268 BK269 HB BK270 GW270 GE270 NB268_270 NB270_268 NB269_270 NB270_269; clear hb hbox hg))
 go_loopg [4] k (fun kq v4 w' => ∃ (x4_1 : Int) (x271000_1 : Int) (x271001_1 : Int) (x271002_1 : Int) (x271003_1 : Int) (x271004_1 : Int) (x271005_1 : Int), v4 = .int .i64 x4_1 ∧ Aside0 (laws_toUint32A6.l0 kq x4_1 a0_0 a0_1 a0_2 a0_3 a0_4 a0_5 x271000_1 x271001_1 x271002_1 x271003_1 x271004_1 x271005_1 = some (r1, r2, r3, r4, r5, r6)) ∧ Aside0 (kq ≤ k) ∧ Aside0 (w'.heap[gb268]? = some (.cells #[.int .u32 a0_0, .int .u32 a0_1, .int .u32 a0_2, .int .u32 a0_3, .int .u32 a0_4, .int .u32 a0_5] 116 (0, 0))) ∧ Aside0 (w'.heap[gb269]? = some (.cells #[.int .u32 0, .int .u32 0, .int .u32 0, .int .u32 0, .int .u32 0, .int .u32 0] 116 (0, 0))) ∧ Aside0 (w'.heap[gb270]? = some (.cells #[.int .u32 x271000_1, .int .u32 x271001_1, .int .u32 x271002_1, .int .u32 x271003_1, .int .u32 x271004_1, .int .u32 x271005_1] 116 (0, 0))) ∧ Aside0 (Below w.heap.size w w'))
 case atStart => exact ⟨(0), (0), (0), (0), (0), (0), (0), z5_2_, H', ⟨Nat.le_refl _⟩, ⟨z5_5_⟩, ⟨z5_10_⟩, ⟨z5_24_⟩, ⟨z5_6_⟩⟩
 case round =>
  clear H'
  try clear c1
  try clear p2
  obtain ⟨x4_1, x271000_1, x271001_1, x271002_1, x271003_1, x271004_1, x271005_1, rfl, HA, HK1, BK268, BK269, BK270, HB⟩ := hrel
  cases gk with
  | zero => exact absurd HA.out (by simp [laws_toUint32A6.l0])
  | succ k1 =>
   have H := HA.out
   clear HA
   simp only [laws_toUint32A6.l0] at H
   by_cases c5 : x4_1 < 6
   ·
    rw [if_pos c5] at H
    have c5b0 := decide_eq_true c5
    clear c5
    by_cases c6 : 0 ≤ x4_1
    ·
     rw [if_pos c6] at H
     have c6b0 := decide_eq_true c6
     clear c6
     have H' := A_ H
     clear H
     have p271 : 0 ≤ (x4_1 : Int) := of_decide_eq_true (by assumption)
     have q271 : (x4_1 : Int) < 6 := of_decide_eq_true (by assumption)
     have hx271_0 := blk_arr (xs := [a0_0, a0_1, a0_2, a0_3, a0_4, a0_5]) (k := .u32) BK268.out 0 rfl x4_1 p271 q271
     (try simp only [Nat.zero_add] at hx271_0)
     replace p271 := eq_true p271
     replace q271 := eq_true q271
     have p272 : 0 ≤ (x4_1 : Int) := of_decide_eq_true (by assumption)
     have q272 : (x4_1 : Int) < 6 := of_decide_eq_true (by assumption)
     have hx272_0 := blk_arr (xs := [x271000_1, x271001_1, x271002_1, x271003_1, x271004_1, x271005_1]) (k := .u32) BK270.out 0 rfl x4_1 p272 q272
     have hf272_0 := blk_frozen BK270.out (0 + (x4_1 : Int).toNat)
     have hcs272 := A_ (show (x4_1 : Int) = 0 ∨ (x4_1 : Int) = 1 ∨ (x4_1 : Int) = 2 ∨ (x4_1 : Int) = 3 ∨ (x4_1 : Int) = 4 ∨ (x4_1 : Int) = 5 by omega)
     (try simp only [Nat.zero_add] at hx272_0)
     (try simp only [Nat.zero_add] at hf272_0)
     replace p272 := eq_true p272
     replace q272 := eq_true q272
     go_wp2_with (first | ((with_reducible refine gate_store (t := 115) (p := 13) rfl ?_); refine store_event (t := 115) (p := 13) (v := ?vo_w7) (w1 := (wr.setCell ⟨gb270, (x4_1 : Int).toNat, none⟩ (.int .u32 (rd [a0_0, a0_1, a0_2, a0_3, a0_4, a0_5] x4_1)))) ?hg ?ho ?hn ?hr ?_; (case ho => rfl); (case hg => rfl); (case hn => rfl); (case hr => first | (go_simp; done) | (go_simp; rfl)); intro w7 hw; have n0_ : Aside0 (w7.heap[gb268]? = some (.cells #[.int .u32 a0_0, .int .u32 a0_1, .int .u32 a0_2, .int .u32 a0_3, .int .u32 a0_4, .int .u32 a0_5] 116 (0, 0))) := ⟨(by rw [hw]; exact (by (with_reducible repeat (first | refine blk_drewN ?_ _ | refine blk_drew ?_ | refine blk_alloc ?_ _)); refine blk_far ?_ NB268_270.out _; (with_reducible repeat (first | refine blk_drewN ?_ _ | refine blk_drew ?_ | refine blk_alloc ?_ _)); exact BK268.out))⟩; have n1_ : Aside0 (w7.heap[gb269]? = some (.cells #[.int .u32 0, .int .u32 0, .int .u32 0, .int .u32 0, .int .u32 0, .int .u32 0] 116 (0, 0))) := ⟨(by rw [hw]; exact (by (with_reducible repeat (first | refine blk_drewN ?_ _ | refine blk_drew ?_ | refine blk_alloc ?_ _)); refine blk_far ?_ NB269_270.out _; (with_reducible repeat (first | refine blk_drewN ?_ _ | refine blk_drew ?_ | refine blk_alloc ?_ _)); exact BK269.out))⟩; have n2_ : Aside0 (w7.heap[gb270]? = some (.cells #[.int .u32 (up 0 x4_1 (rd [a0_0, a0_1, a0_2, a0_3, a0_4, a0_5] x4_1) x271000_1), .int .u32 (up 1 x4_1 (rd [a0_0, a0_1, a0_2, a0_3, a0_4, a0_5] x4_1) x271001_1), .int .u32 (up 2 x4_1 (rd [a0_0, a0_1, a0_2, a0_3, a0_4, a0_5] x4_1) x271002_1), .int .u32 (up 3 x4_1 (rd [a0_0, a0_1, a0_2, a0_3, a0_4, a0_5] x4_1) x271003_1), .int .u32 (up 4 x4_1 (rd [a0_0, a0_1, a0_2, a0_3, a0_4, a0_5] x4_1) x271004_1), .int .u32 (up 5 x4_1 (rd [a0_0, a0_1, a0_2, a0_3, a0_4, a0_5] x4_1) x271005_1)] 116 (0, 0))) := ⟨(by rw [hw]; exact (by (with_reducible repeat (first | refine blk_drewN ?_ _ | refine blk_drew ?_ | refine blk_alloc ?_ _)); refine blk_put (cs := #[.int .u32 x271000_1, .int .u32 x271001_1, .int .u32 x271002_1, .int .u32 x271003_1, .int .u32 x271004_1, .int .u32 x271005_1]) ?_ ((x4_1 : Int).toNat) _ (by rcases hcs272.out with h_ | h_ | h_ | h_ | h_ | h_ <;> rw [h_] <;> rfl); (with_reducible repeat (first | refine blk_drewN ?_ _ | refine blk_drew ?_ | refine blk_alloc ?_ _)); exact BK270.out))⟩; have n3_ : Aside0 (Below w.heap.size w w7) := ⟨(by rw [hw]; exact z5_6_)⟩; clear hw; clear BK268; clear BK269; clear BK270; clear HB; have BK268 := n0_; have BK269 := n1_; have BK270 := n2_; have HB := n3_; clear n0_ n1_ n2_ n3_))
     go_roundg k1
     case measure => have := HK1.out; omega
     case rel => exact ⟨(wrap64 (x4_1 + 1)), (up 0 x4_1 (rd [a0_0, a0_1, a0_2, a0_3, a0_4, a0_5] x4_1) x271000_1), (up 1 x4_1 (rd [a0_0, a0_1, a0_2, a0_3, a0_4, a0_5] x4_1) x271001_1), (up 2 x4_1 (rd [a0_0, a0_1, a0_2, a0_3, a0_4, a0_5] x4_1) x271002_1), (up 3 x4_1 (rd [a0_0, a0_1, a0_2, a0_3, a0_4, a0_5] x4_1) x271003_1), (up 4 x4_1 (rd [a0_0, a0_1, a0_2, a0_3, a0_4, a0_5] x4_1) x271004_1), (up 5 x4_1 (rd [a0_0, a0_1, a0_2, a0_3, a0_4, a0_5] x4_1) x271005_1), z5_2_, H', ⟨(by have := HK1.out; omega)⟩, ⟨z5_5_⟩, ⟨z5_10_⟩, ⟨z5_24_⟩, ⟨z5_6_⟩⟩
    ·
     rw [if_neg c6] at H
     exact absurd H (by simp)
   ·
    rw [if_neg c5] at H
    have c5b0 := decide_eq_false c5
    clear c5
    simp only [Option.some.injEq, Prod.mk.injEq] at H
    obtain ⟨rfl, rfl, rfl, rfl, rfl, rfl⟩ := H
    have hnb8 := NB270_268.out
    have hnc8 := NB268_270.out
    have hnb9 := NB270_269.out
    have hnc9 := NB269_270.out
    obtain ⟨hcz10_0, hcz10_1, hcz10_2, hcz10_3, hcz10_4, hcz10_5⟩ := bc6 BK270.out
    obtain ⟨hfz10_0, hfz10_1, hfz10_2, hfz10_3, hfz10_4, hfz10_5⟩ := bf6 BK270.out
    have hnb11 := NB269_268.out
    have hnc11 := NB268_269.out
    obtain ⟨hcz12_0, hcz12_1, hcz12_2, hcz12_3, hcz12_4, hcz12_5⟩ := bc6 BK269.out
    obtain ⟨hfz12_0, hfz12_1, hfz12_2, hfz12_3, hfz12_4, hfz12_5⟩ := bf6 BK269.out
    go_wp2
    refine bodyPost_ret (results_cell_row rfl _ _ gb269 116 #[.int .u32 x271000_1, .int .u32 x271001_1, .int .u32 x271002_1, .int .u32 x271003_1, .int .u32 x271004_1, .int .u32 x271005_1] (0, 0) _ rfl (by (with_reducible repeat (first | refine blk_drewN ?_ _ | refine blk_drew ?_ | refine blk_alloc ?_ _)); refine blk_put (cs := #[.int .u32 x271000_1, .int .u32 x271001_1, .int .u32 x271002_1, .int .u32 x271003_1, .int .u32 x271004_1, .int .u32 0]) ?_ 5 _ rfl; (with_reducible repeat (first | refine blk_drewN ?_ _ | refine blk_drew ?_ | refine blk_alloc ?_ _)); refine blk_put (cs := #[.int .u32 x271000_1, .int .u32 x271001_1, .int .u32 x271002_1, .int .u32 x271003_1, .int .u32 0, .int .u32 0]) ?_ 4 _ rfl; (with_reducible repeat (first | refine blk_drewN ?_ _ | refine blk_drew ?_ | refine blk_alloc ?_ _)); refine blk_put (cs := #[.int .u32 x271000_1, .int .u32 x271001_1, .int .u32 x271002_1, .int .u32 0, .int .u32 0, .int .u32 0]) ?_ 3 _ rfl; (with_reducible repeat (first | refine blk_drewN ?_ _ | refine blk_drew ?_ | refine blk_alloc ?_ _)); refine blk_put (cs := #[.int .u32 x271000_1, .int .u32 x271001_1, .int .u32 0, .int .u32 0, .int .u32 0, .int .u32 0]) ?_ 2 _ rfl; (with_reducible repeat (first | refine blk_drewN ?_ _ | refine blk_drew ?_ | refine blk_alloc ?_ _)); refine blk_put (cs := #[.int .u32 x271000_1, .int .u32 0, .int .u32 0, .int .u32 0, .int .u32 0, .int .u32 0]) ?_ 1 _ rfl; (with_reducible repeat (first | refine blk_drewN ?_ _ | refine blk_drew ?_ | refine blk_alloc ?_ _)); refine blk_put (cs := #[.int .u32 0, .int .u32 0, .int .u32 0, .int .u32 0, .int .u32 0, .int .u32 0]) ?_ 0 _ rfl; (with_reducible repeat (first | refine blk_drewN ?_ _ | refine blk_drew ?_ | refine blk_alloc ?_ _)); exact BK269.out) Try.underlying116 rfl (by kernel_rfl)) rfl ?_
    exact ⟨z5_7_, z5_6_⟩
/-! ### laws_toWide: function 123 -/
def laws_toWide.f (k : Nat) (a0_0 : Bool) (a0_1 : Int) (a0_2 : Int) (a0_3 : Int) (a0_4 : Int) (a0_5 : Int) (a0_6 : Int) : Option (Bool × Int × Int × Int × Int × Int × Int) := (laws_toUint32A6.f k a0_1 a0_2 a0_3 a0_4 a0_5 a0_6).bind fun bt276 => (some (a0_0, bt276.1, bt276.2.1, bt276.2.2.1, bt276.2.2.2.1, bt276.2.2.2.2.1, bt276.2.2.2.2.2))
theorem laws_toWide.mono : ∀ a0 a1 a2 a3 a4 a5 a6 k, LeO (laws_toWide.f k a0 a1 a2 a3 a4 a5 a6) (laws_toWide.f (k + 1) a0 a1 a2 a3 a4 a5 a6) := by
 intro a0 a1 a2 a3 a4 a5 a6 k
 unfold laws_toWide.f
 repeat' first
   | (with_reducible exact laws_toUint32A6.mono _ _ _ _ _ _ _)
   | (with_reducible exact LeO.refl _)
   | (with_reducible exact LeO.none _)
   | (with_reducible refine LeO.ite ?_ ?_)
   | (with_reducible refine LeO.bind ?_ (fun _ => ?_))
   | exact LeO.none _
   | refine LeO.ite ?_ ?_
   | refine LeO.bind ?_ (fun _ => ?_)
set_option maxHeartbeats 8000000 in
set_option maxRecDepth 100000 in
theorem laws_toWide.calls (k : Nat) (a0_0 : Bool) (a0_1 : Int) (a0_2 : Int) (a0_3 : Int) (a0_4 : Int) (a0_5 : Int) (a0_6 : Int) (r1 : Bool) (r2 : Int) (r3 : Int) (r4 : Int) (r5 : Int) (r6 : Int) (r7 : Int) (w : World) (h : laws_toWide.f k a0_0 a0_1 a0_2 a0_3 a0_4 a0_5 a0_6 = some (r1, r2, r3, r4, r5, r6, r7)) :
  Calls Try.prog 123 #[.agg #[.bool a0_0, .int .u32 a0_1, .int .u32 a0_2, .int .u32 a0_3, .int .u32 a0_4, .int .u32 a0_5, .int .u32 a0_6]] w fun e w' => e = .returned (.agg #[.bool r1, .int .u32 r2, .int .u32 r3, .int .u32 r4, .int .u32 r5, .int .u32 r6, .int .u32 r7]) ∧ Below w.heap.size w w' := by
 have hu118 := Try.underlying118
 have hu122 := Try.underlying122
 have hu116 := Try.underlying116
 have HB := A_ (Below.refl w.heap.size w)
 have H : ((laws_toUint32A6.f k a0_1 a0_2 a0_3 a0_4 a0_5 a0_6).bind fun bt276 => (some (a0_0, bt276.1, bt276.2.1, bt276.2.2.1, bt276.2.2.2.1, bt276.2.2.2.2.1, bt276.2.2.2.2.2))) = some (r1, r2, r3, r4, r5, r6, r7) := h
 clear h
 replace H := Option.bind_eq_some_iff.mp H
 obtain ⟨⟨t276, t277, t278, t279, t280, t281⟩, A20, H⟩ := H
 try dsimp only at H
 have A2 := A_ A20
 clear A20
 simp only [Option.some.injEq, Prod.mk.injEq] at H
 obtain ⟨rfl, rfl, rfl, rfl, rfl, rfl, rfl⟩ := H
 go_enter Try.func123, Try.ntmps123
 go_wp2_with (first | ((with_reducible refine gate_dst (N := 1) rfl ?_); refine box_event ?hg (N := 1) ?hd (cs := #[.bool a0_0, .int .u32 a0_1, .int .u32 a0_2, .int .u32 a0_3, .int .u32 a0_4, .int .u32 a0_5, .int .u32 a0_6]) (t := 118) ?hr ?_; (case hd => rfl); (case hg => rfl); (case hr => first | (go_simp; done) | (go_simp; rfl)); intro gb273 hg w3 hbox hb; have _ := A_ (below_step z5_1_ hb); have _ := A_ (hbox); have _ := A_ ((by rw [hg]; exact (below_size z5_1_) : w.heap.size ≤ gb273)); have _ := A_ ((by rw [hg]; exact (below_size z5_1_) : w.heap.size ≤ gb273)); clear HB; rename_i HB BK273 GW273 GE273; clear hb hbox hg) | ((with_reducible refine gate_dst (N := 2) rfl ?_); refine box_event ?hg (N := 2) ?hd (cs := #[.bool false, .int .u32 0, .int .u32 0, .int .u32 0, .int .u32 0, .int .u32 0, .int .u32 0]) (t := 122) ?hr ?_; (case hd => rfl); (case hg => rfl); (case hr => first | (go_simp; done) | (go_simp; rfl)); intro gb274 hg w4 hbox hb; have _ := A_ (blk_below (g := gb273) (o := .cells #[.bool a0_0, .int .u32 a0_1, .int .u32 a0_2, .int .u32 a0_3, .int .u32 a0_4, .int .u32 a0_5, .int .u32 a0_6] 118 (0, 0)) z5_9_ hb); have _ := A_ (below_step z5_15_ hb); have _ := A_ (hbox); have _ := A_ ((by rw [hg]; exact (below_size z5_15_) : w.heap.size ≤ gb274)); have _ := A_ ((by rw [hg]; exact (below_size z5_15_) : w.heap.size ≤ gb274)); have _ := A_ ((by rw [hg]; exact Nat.ne_of_lt (blk_lt (g := gb273) (o := .cells #[.bool a0_0, .int .u32 a0_1, .int .u32 a0_2, .int .u32 a0_3, .int .u32 a0_4, .int .u32 a0_5, .int .u32 a0_6] 118 (0, 0)) z5_9_) : gb273 ≠ gb274)); have _ := A_ ((by rw [hg]; exact Nat.ne_of_gt (blk_lt (g := gb273) (o := .cells #[.bool a0_0, .int .u32 a0_1, .int .u32 a0_2, .int .u32 a0_3, .int .u32 a0_4, .int .u32 a0_5, .int .u32 a0_6] 118 (0, 0)) z5_9_) : gb274 ≠ gb273)); clear BK273 HB; rename_i BK273 HB BK274 GW274 GE274 NB273_274 NB274_273; clear hb hbox hg) | ((with_reducible refine gate_dst (N := 3) rfl ?_); refine box_event ?hg (N := 3) ?hd (cs := #[.bool false, .int .u32 0, .int .u32 0, .int .u32 0, .int .u32 0, .int .u32 0, .int .u32 0]) (t := 122) ?hr ?_; (case hd => rfl); (case hg => rfl); (case hr => first | (go_simp; done) | (go_simp; rfl)); intro gb275 hg w5 hbox hb; have _ := A_ (blk_below (g := gb273) (o := .cells #[.bool a0_0, .int .u32 a0_1, .int .u32 a0_2, .int .u32 a0_3, .int .u32 a0_4, .int .u32 a0_5, .int .u32 a0_6] 118 (0, 0)) z5_9_ hb); have _ := A_ (blk_below (g := gb274) (o := .cells #[.bool false, .int .u32 0, .int .u32 0, .int .u32 0, .int .u32 0, .int .u32 0, .int .u32 0] 122 (0, 0)) z5_21_ hb); have _ := A_ (below_step z5_12_ hb); have _ := A_ (hbox); have _ := A_ ((by rw [hg]; exact (below_size z5_12_) : w.heap.size ≤ gb275)); have _ := A_ ((by rw [hg]; exact (below_size z5_12_) : w.heap.size ≤ gb275)); have _ := A_ ((by rw [hg]; exact Nat.ne_of_lt (blk_lt (g := gb273) (o := .cells #[.bool a0_0, .int .u32 a0_1, .int .u32 a0_2, .int .u32 a0_3, .int .u32 a0_4, .int .u32 a0_5, .int .u32 a0_6] 118 (0, 0)) z5_9_) : gb273 ≠ gb275)); have _ := A_ ((by rw [hg]; exact Nat.ne_of_gt (blk_lt (g := gb273) (o := .cells #[.bool a0_0, .int .u32 a0_1, .int .u32 a0_2, .int .u32 a0_3, .int .u32 a0_4, .int .u32 a0_5, .int .u32 a0_6] 118 (0, 0)) z5_9_) : gb275 ≠ gb273)); have _ := A_ ((by rw [hg]; exact Nat.ne_of_lt (blk_lt (g := gb274) (o := .cells #[.bool false, .int .u32 0, .int .u32 0, .int .u32 0, .int .u32 0, .int .u32 0, .int .u32 0] 122 (0, 0)) z5_21_) : gb274 ≠ gb275)); have _ := A_ ((by rw [hg]; exact Nat.ne_of_gt (blk_lt (g := gb274) (o := .cells #[.bool false, .int .u32 0, .int .u32 0, .int .u32 0, .int .u32 0, .int .u32 0, .int .u32 0] 122 (0, 0)) z5_21_) : gb275 ≠ gb274)); clear BK273 BK274 HB; rename_i BK273 BK274 HB BK275 GW275 GE275 NB273_275 NB275_273 NB274_275 NB275_274; clear hb hbox hg; have hnb6 := NB273_274.out; have hnc6 := NB274_273.out; have hnb7 := NB273_275.out; have hnc7 := NB275_273.out; obtain ⟨hcz8_0, hcz8_1, hcz8_2, hcz8_3, hcz8_4, hcz8_5, hcz8_6⟩ := bc7 BK273.out; obtain ⟨hfz8_0, hfz8_1, hfz8_2, hfz8_3, hfz8_4, hfz8_5, hfz8_6⟩ := bf7 BK273.out; have hnb9 := NB275_274.out; have hnc9 := NB274_275.out; obtain ⟨hcz10_0, hcz10_1, hcz10_2, hcz10_3, hcz10_4, hcz10_5, hcz10_6⟩ := bc7 BK275.out; obtain ⟨hfz10_0, hfz10_1, hfz10_2, hfz10_3, hfz10_4, hfz10_5, hfz10_6⟩ := bf7 BK275.out) | ((with_reducible refine gate_callee (f := 131) rfl ?_); refine goesL_ (some 9) rfl rfl Try.func131 (by kernel_rfl) rfl #[.agg #[.int .u32 a0_1, .int .u32 a0_2, .int .u32 a0_3, .int .u32 a0_4, .int .u32 a0_5, .int .u32 a0_6]] rfl z5_4_ ?_; (with_reducible refine (laws_toUint32A6.calls k a0_1 a0_2 a0_3 a0_4 a0_5 a0_6 t276 t277 t278 t279 t280 t281 _ A2.out).mono ?_); rintro e w11 ⟨rfl, hb⟩; refine ⟨_, rfl, ?_⟩; have _ := A_ (blk_below (g := gb273) (o := .cells #[.bool a0_0, .int .u32 a0_1, .int .u32 a0_2, .int .u32 a0_3, .int .u32 a0_4, .int .u32 a0_5, .int .u32 a0_6] 118 (0, 0)) (by (with_reducible repeat (first | refine blk_drewN ?_ _ | refine blk_drew ?_ | refine blk_alloc ?_ _)); refine blk_far ?_ NB273_275.out _; (with_reducible repeat (first | refine blk_drewN ?_ _ | refine blk_drew ?_ | refine blk_alloc ?_ _)); exact BK273.out) hb); have _ := A_ (blk_below (g := gb274) (o := .cells #[.bool false, .int .u32 0, .int .u32 0, .int .u32 0, .int .u32 0, .int .u32 0, .int .u32 0] 122 (0, 0)) (by (with_reducible repeat (first | refine blk_drewN ?_ _ | refine blk_drew ?_ | refine blk_alloc ?_ _)); refine blk_far ?_ NB274_275.out _; (with_reducible repeat (first | refine blk_drewN ?_ _ | refine blk_drew ?_ | refine blk_alloc ?_ _)); exact BK274.out) hb); have _ := A_ (blk_below (g := gb275) (o := .cells #[.bool a0_0, .int .u32 0, .int .u32 0, .int .u32 0, .int .u32 0, .int .u32 0, .int .u32 0] 122 (0, 0)) (by (with_reducible repeat (first | refine blk_drewN ?_ _ | refine blk_drew ?_ | refine blk_alloc ?_ _)); refine blk_put (cs := #[.bool false, .int .u32 0, .int .u32 0, .int .u32 0, .int .u32 0, .int .u32 0, .int .u32 0]) ?_ 0 _ rfl; (with_reducible repeat (first | refine blk_drewN ?_ _ | refine blk_drew ?_ | refine blk_alloc ?_ _)); exact BK275.out) hb); have _ := A_ (below_step z5_23_ hb); clear BK273 BK274 BK275 HB; rename_i BK273 BK274 BK275 HB; (try clear hb); obtain ⟨hcz12_0, hcz12_1, hcz12_2, hcz12_3, hcz12_4, hcz12_5, hcz12_6⟩ := bc7 BK275.out; obtain ⟨hfz12_0, hfz12_1, hfz12_2, hfz12_3, hfz12_4, hfz12_5, hfz12_6⟩ := bf7 BK275.out; obtain ⟨hcz13_0, hcz13_1, hcz13_2, hcz13_3, hcz13_4, hcz13_5, hcz13_6⟩ := bc7 BK274.out; obtain ⟨hfz13_0, hfz13_1, hfz13_2, hfz13_3, hfz13_4, hfz13_5, hfz13_6⟩ := bf7 BK274.out))
 refine bodyPost_ret (results_cell_row rfl _ _ gb274 122 #[.bool a0_0, .int .u32 t276, .int .u32 t277, .int .u32 t278, .int .u32 t279, .int .u32 t280, .int .u32 t281] (0, 0) _ rfl (by (with_reducible repeat (first | refine blk_drewN ?_ _ | refine blk_drew ?_ | refine blk_alloc ?_ _)); refine blk_put (cs := #[.bool a0_0, .int .u32 t276, .int .u32 t277, .int .u32 t278, .int .u32 t279, .int .u32 t280, .int .u32 0]) ?_ 6 _ rfl; (with_reducible repeat (first | refine blk_drewN ?_ _ | refine blk_drew ?_ | refine blk_alloc ?_ _)); refine blk_put (cs := #[.bool a0_0, .int .u32 t276, .int .u32 t277, .int .u32 t278, .int .u32 t279, .int .u32 0, .int .u32 0]) ?_ 5 _ rfl; (with_reducible repeat (first | refine blk_drewN ?_ _ | refine blk_drew ?_ | refine blk_alloc ?_ _)); refine blk_put (cs := #[.bool a0_0, .int .u32 t276, .int .u32 t277, .int .u32 t278, .int .u32 0, .int .u32 0, .int .u32 0]) ?_ 4 _ rfl; (with_reducible repeat (first | refine blk_drewN ?_ _ | refine blk_drew ?_ | refine blk_alloc ?_ _)); refine blk_put (cs := #[.bool a0_0, .int .u32 t276, .int .u32 t277, .int .u32 0, .int .u32 0, .int .u32 0, .int .u32 0]) ?_ 3 _ rfl; (with_reducible repeat (first | refine blk_drewN ?_ _ | refine blk_drew ?_ | refine blk_alloc ?_ _)); refine blk_put (cs := #[.bool a0_0, .int .u32 t276, .int .u32 0, .int .u32 0, .int .u32 0, .int .u32 0, .int .u32 0]) ?_ 2 _ rfl; (with_reducible repeat (first | refine blk_drewN ?_ _ | refine blk_drew ?_ | refine blk_alloc ?_ _)); refine blk_put (cs := #[.bool a0_0, .int .u32 0, .int .u32 0, .int .u32 0, .int .u32 0, .int .u32 0, .int .u32 0]) ?_ 1 _ rfl; (with_reducible repeat (first | refine blk_drewN ?_ _ | refine blk_drew ?_ | refine blk_alloc ?_ _)); refine blk_put (cs := #[.bool false, .int .u32 0, .int .u32 0, .int .u32 0, .int .u32 0, .int .u32 0, .int .u32 0]) ?_ 0 _ rfl; (with_reducible repeat (first | refine blk_drewN ?_ _ | refine blk_drew ?_ | refine blk_alloc ?_ _)); refine blk_far ?_ NB274_275.out _; (with_reducible repeat (first | refine blk_drewN ?_ _ | refine blk_drew ?_ | refine blk_alloc ?_ _)); refine blk_far ?_ NB274_275.out _; (with_reducible repeat (first | refine blk_drewN ?_ _ | refine blk_drew ?_ | refine blk_alloc ?_ _)); refine blk_far ?_ NB274_275.out _; (with_reducible repeat (first | refine blk_drewN ?_ _ | refine blk_drew ?_ | refine blk_alloc ?_ _)); refine blk_far ?_ NB274_275.out _; (with_reducible repeat (first | refine blk_drewN ?_ _ | refine blk_drew ?_ | refine blk_alloc ?_ _)); refine blk_far ?_ NB274_275.out _; (with_reducible repeat (first | refine blk_drewN ?_ _ | refine blk_drew ?_ | refine blk_alloc ?_ _)); refine blk_far ?_ NB274_275.out _; (with_reducible repeat (first | refine blk_drewN ?_ _ | refine blk_drew ?_ | refine blk_alloc ?_ _)); exact BK274.out) Try.underlying122 rfl (by kernel_rfl)) rfl ?_
 exact ⟨z5_7_, z5_23_⟩
/-! ### laws_toKept: function 98 -/
def laws_toKept.f (k : Nat) (a0_0 : ByteArray) (a0_1 : Int) (a0_2 : Bool) (a0_3 : Int) (a0_4 : Int) (a0_5 : Int) (a0_6 : Int) (a0_7 : Int) (a0_8 : Int) : Option (ByteArray × Int × Bool × Int × Int × Int × Int × Int × Int) := (laws_toWide.f k a0_2 a0_3 a0_4 a0_5 a0_6 a0_7 a0_8).bind fun bt285 => (some (a0_0, a0_1, bt285.1, bt285.2.1, bt285.2.2.1, bt285.2.2.2.1, bt285.2.2.2.2.1, bt285.2.2.2.2.2.1, bt285.2.2.2.2.2.2))
theorem laws_toKept.mono : ∀ a0 a1 a2 a3 a4 a5 a6 a7 a8 k, LeO (laws_toKept.f k a0 a1 a2 a3 a4 a5 a6 a7 a8) (laws_toKept.f (k + 1) a0 a1 a2 a3 a4 a5 a6 a7 a8) := by
 intro a0 a1 a2 a3 a4 a5 a6 a7 a8 k
 unfold laws_toKept.f
 repeat' first
   | (with_reducible exact laws_toWide.mono _ _ _ _ _ _ _ _)
   | (with_reducible exact LeO.refl _)
   | (with_reducible exact LeO.none _)
   | (with_reducible refine LeO.ite ?_ ?_)
   | (with_reducible refine LeO.bind ?_ (fun _ => ?_))
   | exact LeO.none _
   | refine LeO.ite ?_ ?_
   | refine LeO.bind ?_ (fun _ => ?_)
set_option maxHeartbeats 8000000 in
set_option maxRecDepth 100000 in
theorem laws_toKept.calls (k : Nat) (a0_0 : ByteArray) (a0_1 : Int) (a0_2 : Bool) (a0_3 : Int) (a0_4 : Int) (a0_5 : Int) (a0_6 : Int) (a0_7 : Int) (a0_8 : Int) (r1 : ByteArray) (r2 : Int) (r3 : Bool) (r4 : Int) (r5 : Int) (r6 : Int) (r7 : Int) (r8 : Int) (r9 : Int) (w : World) (h : laws_toKept.f k a0_0 a0_1 a0_2 a0_3 a0_4 a0_5 a0_6 a0_7 a0_8 = some (r1, r2, r3, r4, r5, r6, r7, r8, r9)) :
  Calls Try.prog 98 #[.agg #[.string a0_0, .int .i64 a0_1, .bool a0_2, .int .u32 a0_3, .int .u32 a0_4, .int .u32 a0_5, .int .u32 a0_6, .int .u32 a0_7, .int .u32 a0_8]] w fun e w' => e = .returned (.agg #[.string r1, .int .i64 r2, .bool r3, .int .u32 r4, .int .u32 r5, .int .u32 r6, .int .u32 r7, .int .u32 r8, .int .u32 r9]) ∧ Below w.heap.size w w' := by
 have hu120 := Try.underlying120
 have hu124 := Try.underlying124
 have hu118 := Try.underlying118
 have hu122 := Try.underlying122
 have HB := A_ (Below.refl w.heap.size w)
 have H : ((laws_toWide.f k a0_2 a0_3 a0_4 a0_5 a0_6 a0_7 a0_8).bind fun bt285 => (some (a0_0, a0_1, bt285.1, bt285.2.1, bt285.2.2.1, bt285.2.2.2.1, bt285.2.2.2.2.1, bt285.2.2.2.2.2.1, bt285.2.2.2.2.2.2))) = some (r1, r2, r3, r4, r5, r6, r7, r8, r9) := h
 clear h
 replace H := Option.bind_eq_some_iff.mp H
 obtain ⟨⟨t285, t286, t287, t288, t289, t290, t291⟩, A20, H⟩ := H
 try dsimp only at H
 have A2 := A_ A20
 clear A20
 simp only [Option.some.injEq, Prod.mk.injEq] at H
 obtain ⟨rfl, rfl, rfl, rfl, rfl, rfl, rfl, rfl, rfl⟩ := H
 go_enter Try.func98, Try.ntmps98
 go_wp2_with (first | ((with_reducible refine gate_dst (N := 1) rfl ?_); refine box_event ?hg (N := 1) ?hd (cs := #[.string a0_0, .int .i64 a0_1, .bool a0_2, .int .u32 a0_3, .int .u32 a0_4, .int .u32 a0_5, .int .u32 a0_6, .int .u32 a0_7, .int .u32 a0_8]) (t := 120) ?hr ?_; (case hd => rfl); (case hg => rfl); (case hr => first | (go_simp; done) | (go_simp; rfl)); intro gb282 hg w3 hbox hb; have _ := A_ (below_step z5_1_ hb); have _ := A_ (hbox); have _ := A_ ((by rw [hg]; exact (below_size z5_1_) : w.heap.size ≤ gb282)); have _ := A_ ((by rw [hg]; exact (below_size z5_1_) : w.heap.size ≤ gb282)); clear HB; rename_i HB BK282 GW282 GE282; clear hb hbox hg) | ((with_reducible refine gate_dst (N := 2) rfl ?_); refine box_event ?hg (N := 2) ?hd (cs := #[.string (⟨#[]⟩ : ByteArray), .int .i64 0, .bool false, .int .u32 0, .int .u32 0, .int .u32 0, .int .u32 0, .int .u32 0, .int .u32 0]) (t := 124) ?hr ?_; (case hd => rfl); (case hg => rfl); (case hr => first | (go_simp; done) | (go_simp; rfl)); intro gb283 hg w4 hbox hb; have _ := A_ (blk_below (g := gb282) (o := .cells #[.string a0_0, .int .i64 a0_1, .bool a0_2, .int .u32 a0_3, .int .u32 a0_4, .int .u32 a0_5, .int .u32 a0_6, .int .u32 a0_7, .int .u32 a0_8] 120 (0, 0)) z5_8_ hb); have _ := A_ (below_step z5_14_ hb); have _ := A_ (hbox); have _ := A_ ((by rw [hg]; exact (below_size z5_14_) : w.heap.size ≤ gb283)); have _ := A_ ((by rw [hg]; exact (below_size z5_14_) : w.heap.size ≤ gb283)); have _ := A_ ((by rw [hg]; exact Nat.ne_of_lt (blk_lt (g := gb282) (o := .cells #[.string a0_0, .int .i64 a0_1, .bool a0_2, .int .u32 a0_3, .int .u32 a0_4, .int .u32 a0_5, .int .u32 a0_6, .int .u32 a0_7, .int .u32 a0_8] 120 (0, 0)) z5_8_) : gb282 ≠ gb283)); have _ := A_ ((by rw [hg]; exact Nat.ne_of_gt (blk_lt (g := gb282) (o := .cells #[.string a0_0, .int .i64 a0_1, .bool a0_2, .int .u32 a0_3, .int .u32 a0_4, .int .u32 a0_5, .int .u32 a0_6, .int .u32 a0_7, .int .u32 a0_8] 120 (0, 0)) z5_8_) : gb283 ≠ gb282)); clear BK282 HB; rename_i BK282 HB BK283 GW283 GE283 NB282_283 NB283_282; clear hb hbox hg) | ((with_reducible refine gate_dst (N := 3) rfl ?_); refine box_event ?hg (N := 3) ?hd (cs := #[.string (⟨#[]⟩ : ByteArray), .int .i64 0, .bool false, .int .u32 0, .int .u32 0, .int .u32 0, .int .u32 0, .int .u32 0, .int .u32 0]) (t := 124) ?hr ?_; (case hd => rfl); (case hg => rfl); (case hr => first | (go_simp; done) | (go_simp; rfl)); intro gb284 hg w5 hbox hb; have _ := A_ (blk_below (g := gb282) (o := .cells #[.string a0_0, .int .i64 a0_1, .bool a0_2, .int .u32 a0_3, .int .u32 a0_4, .int .u32 a0_5, .int .u32 a0_6, .int .u32 a0_7, .int .u32 a0_8] 120 (0, 0)) z5_8_ hb); have _ := A_ (blk_below (g := gb283) (o := .cells #[.string (⟨#[]⟩ : ByteArray), .int .i64 0, .bool false, .int .u32 0, .int .u32 0, .int .u32 0, .int .u32 0, .int .u32 0, .int .u32 0] 124 (0, 0)) z5_20_ hb); have _ := A_ (below_step z5_11_ hb); have _ := A_ (hbox); have _ := A_ ((by rw [hg]; exact (below_size z5_11_) : w.heap.size ≤ gb284)); have _ := A_ ((by rw [hg]; exact (below_size z5_11_) : w.heap.size ≤ gb284)); have _ := A_ ((by rw [hg]; exact Nat.ne_of_lt (blk_lt (g := gb282) (o := .cells #[.string a0_0, .int .i64 a0_1, .bool a0_2, .int .u32 a0_3, .int .u32 a0_4, .int .u32 a0_5, .int .u32 a0_6, .int .u32 a0_7, .int .u32 a0_8] 120 (0, 0)) z5_8_) : gb282 ≠ gb284)); have _ := A_ ((by rw [hg]; exact Nat.ne_of_gt (blk_lt (g := gb282) (o := .cells #[.string a0_0, .int .i64 a0_1, .bool a0_2, .int .u32 a0_3, .int .u32 a0_4, .int .u32 a0_5, .int .u32 a0_6, .int .u32 a0_7, .int .u32 a0_8] 120 (0, 0)) z5_8_) : gb284 ≠ gb282)); have _ := A_ ((by rw [hg]; exact Nat.ne_of_lt (blk_lt (g := gb283) (o := .cells #[.string (⟨#[]⟩ : ByteArray), .int .i64 0, .bool false, .int .u32 0, .int .u32 0, .int .u32 0, .int .u32 0, .int .u32 0, .int .u32 0] 124 (0, 0)) z5_20_) : gb283 ≠ gb284)); have _ := A_ ((by rw [hg]; exact Nat.ne_of_gt (blk_lt (g := gb283) (o := .cells #[.string (⟨#[]⟩ : ByteArray), .int .i64 0, .bool false, .int .u32 0, .int .u32 0, .int .u32 0, .int .u32 0, .int .u32 0, .int .u32 0] 124 (0, 0)) z5_20_) : gb284 ≠ gb283)); clear BK282 BK283 HB; rename_i BK282 BK283 HB BK284 GW284 GE284 NB282_284 NB284_282 NB283_284 NB284_283; clear hb hbox hg; have hnb6 := NB282_283.out; have hnc6 := NB283_282.out; have hnb7 := NB282_284.out; have hnc7 := NB284_282.out; obtain ⟨hcz8_0, hcz8_1, hcz8_2, hcz8_3, hcz8_4, hcz8_5, hcz8_6, hcz8_7, hcz8_8⟩ := bc9 BK282.out; obtain ⟨hfz8_0, hfz8_1, hfz8_2, hfz8_3, hfz8_4, hfz8_5, hfz8_6, hfz8_7, hfz8_8⟩ := bf9 BK282.out; have hnb9 := NB284_283.out; have hnc9 := NB283_284.out; obtain ⟨hcz10_0, hcz10_1, hcz10_2, hcz10_3, hcz10_4, hcz10_5, hcz10_6, hcz10_7, hcz10_8⟩ := bc9 BK284.out; obtain ⟨hfz10_0, hfz10_1, hfz10_2, hfz10_3, hfz10_4, hfz10_5, hfz10_6, hfz10_7, hfz10_8⟩ := bf9 BK284.out) | ((with_reducible refine gate_callee (f := 123) rfl ?_); refine goesL_ (some 12) rfl rfl Try.func123 (by kernel_rfl) rfl #[.agg #[.bool a0_2, .int .u32 a0_3, .int .u32 a0_4, .int .u32 a0_5, .int .u32 a0_6, .int .u32 a0_7, .int .u32 a0_8]] rfl z5_4_ ?_; (with_reducible refine (laws_toWide.calls k a0_2 a0_3 a0_4 a0_5 a0_6 a0_7 a0_8 t285 t286 t287 t288 t289 t290 t291 _ A2.out).mono ?_); rintro e w11 ⟨rfl, hb⟩; refine ⟨_, rfl, ?_⟩; have _ := A_ (blk_below (g := gb282) (o := .cells #[.string a0_0, .int .i64 a0_1, .bool a0_2, .int .u32 a0_3, .int .u32 a0_4, .int .u32 a0_5, .int .u32 a0_6, .int .u32 a0_7, .int .u32 a0_8] 120 (0, 0)) (by (with_reducible repeat (first | refine blk_drewN ?_ _ | refine blk_drew ?_ | refine blk_alloc ?_ _)); refine blk_far ?_ NB282_284.out _; (with_reducible repeat (first | refine blk_drewN ?_ _ | refine blk_drew ?_ | refine blk_alloc ?_ _)); refine blk_far ?_ NB282_284.out _; (with_reducible repeat (first | refine blk_drewN ?_ _ | refine blk_drew ?_ | refine blk_alloc ?_ _)); exact BK282.out) hb); have _ := A_ (blk_below (g := gb283) (o := .cells #[.string (⟨#[]⟩ : ByteArray), .int .i64 0, .bool false, .int .u32 0, .int .u32 0, .int .u32 0, .int .u32 0, .int .u32 0, .int .u32 0] 124 (0, 0)) (by (with_reducible repeat (first | refine blk_drewN ?_ _ | refine blk_drew ?_ | refine blk_alloc ?_ _)); refine blk_far ?_ NB283_284.out _; (with_reducible repeat (first | refine blk_drewN ?_ _ | refine blk_drew ?_ | refine blk_alloc ?_ _)); refine blk_far ?_ NB283_284.out _; (with_reducible repeat (first | refine blk_drewN ?_ _ | refine blk_drew ?_ | refine blk_alloc ?_ _)); exact BK283.out) hb); have _ := A_ (blk_below (g := gb284) (o := .cells #[.string a0_0, .int .i64 a0_1, .bool false, .int .u32 0, .int .u32 0, .int .u32 0, .int .u32 0, .int .u32 0, .int .u32 0] 124 (0, 0)) (by (with_reducible repeat (first | refine blk_drewN ?_ _ | refine blk_drew ?_ | refine blk_alloc ?_ _)); refine blk_put (cs := #[.string a0_0, .int .i64 0, .bool false, .int .u32 0, .int .u32 0, .int .u32 0, .int .u32 0, .int .u32 0, .int .u32 0]) ?_ 1 _ rfl; (with_reducible repeat (first | refine blk_drewN ?_ _ | refine blk_drew ?_ | refine blk_alloc ?_ _)); refine blk_put (cs := #[.string (⟨#[]⟩ : ByteArray), .int .i64 0, .bool false, .int .u32 0, .int .u32 0, .int .u32 0, .int .u32 0, .int .u32 0, .int .u32 0]) ?_ 0 _ rfl; (with_reducible repeat (first | refine blk_drewN ?_ _ | refine blk_drew ?_ | refine blk_alloc ?_ _)); exact BK284.out) hb); have _ := A_ (below_step z5_22_ hb); clear BK282 BK283 BK284 HB; rename_i BK282 BK283 BK284 HB; (try clear hb); obtain ⟨hcz12_0, hcz12_1, hcz12_2, hcz12_3, hcz12_4, hcz12_5, hcz12_6, hcz12_7, hcz12_8⟩ := bc9 BK284.out; obtain ⟨hfz12_0, hfz12_1, hfz12_2, hfz12_3, hfz12_4, hfz12_5, hfz12_6, hfz12_7, hfz12_8⟩ := bf9 BK284.out; obtain ⟨hcz13_0, hcz13_1, hcz13_2, hcz13_3, hcz13_4, hcz13_5, hcz13_6, hcz13_7, hcz13_8⟩ := bc9 BK283.out; obtain ⟨hfz13_0, hfz13_1, hfz13_2, hfz13_3, hfz13_4, hfz13_5, hfz13_6, hfz13_7, hfz13_8⟩ := bf9 BK283.out))
 refine bodyPost_ret (results_cell_row rfl _ _ gb283 124 #[.string a0_0, .int .i64 a0_1, .bool t285, .int .u32 t286, .int .u32 t287, .int .u32 t288, .int .u32 t289, .int .u32 t290, .int .u32 t291] (0, 0) _ rfl (by (with_reducible repeat (first | refine blk_drewN ?_ _ | refine blk_drew ?_ | refine blk_alloc ?_ _)); refine blk_put (cs := #[.string a0_0, .int .i64 a0_1, .bool t285, .int .u32 t286, .int .u32 t287, .int .u32 t288, .int .u32 t289, .int .u32 t290, .int .u32 0]) ?_ 8 _ rfl; (with_reducible repeat (first | refine blk_drewN ?_ _ | refine blk_drew ?_ | refine blk_alloc ?_ _)); refine blk_put (cs := #[.string a0_0, .int .i64 a0_1, .bool t285, .int .u32 t286, .int .u32 t287, .int .u32 t288, .int .u32 t289, .int .u32 0, .int .u32 0]) ?_ 7 _ rfl; (with_reducible repeat (first | refine blk_drewN ?_ _ | refine blk_drew ?_ | refine blk_alloc ?_ _)); refine blk_put (cs := #[.string a0_0, .int .i64 a0_1, .bool t285, .int .u32 t286, .int .u32 t287, .int .u32 t288, .int .u32 0, .int .u32 0, .int .u32 0]) ?_ 6 _ rfl; (with_reducible repeat (first | refine blk_drewN ?_ _ | refine blk_drew ?_ | refine blk_alloc ?_ _)); refine blk_put (cs := #[.string a0_0, .int .i64 a0_1, .bool t285, .int .u32 t286, .int .u32 t287, .int .u32 0, .int .u32 0, .int .u32 0, .int .u32 0]) ?_ 5 _ rfl; (with_reducible repeat (first | refine blk_drewN ?_ _ | refine blk_drew ?_ | refine blk_alloc ?_ _)); refine blk_put (cs := #[.string a0_0, .int .i64 a0_1, .bool t285, .int .u32 t286, .int .u32 0, .int .u32 0, .int .u32 0, .int .u32 0, .int .u32 0]) ?_ 4 _ rfl; (with_reducible repeat (first | refine blk_drewN ?_ _ | refine blk_drew ?_ | refine blk_alloc ?_ _)); refine blk_put (cs := #[.string a0_0, .int .i64 a0_1, .bool t285, .int .u32 0, .int .u32 0, .int .u32 0, .int .u32 0, .int .u32 0, .int .u32 0]) ?_ 3 _ rfl; (with_reducible repeat (first | refine blk_drewN ?_ _ | refine blk_drew ?_ | refine blk_alloc ?_ _)); refine blk_put (cs := #[.string a0_0, .int .i64 a0_1, .bool false, .int .u32 0, .int .u32 0, .int .u32 0, .int .u32 0, .int .u32 0, .int .u32 0]) ?_ 2 _ rfl; (with_reducible repeat (first | refine blk_drewN ?_ _ | refine blk_drew ?_ | refine blk_alloc ?_ _)); refine blk_put (cs := #[.string a0_0, .int .i64 0, .bool false, .int .u32 0, .int .u32 0, .int .u32 0, .int .u32 0, .int .u32 0, .int .u32 0]) ?_ 1 _ rfl; (with_reducible repeat (first | refine blk_drewN ?_ _ | refine blk_drew ?_ | refine blk_alloc ?_ _)); refine blk_put (cs := #[.string (⟨#[]⟩ : ByteArray), .int .i64 0, .bool false, .int .u32 0, .int .u32 0, .int .u32 0, .int .u32 0, .int .u32 0, .int .u32 0]) ?_ 0 _ rfl; (with_reducible repeat (first | refine blk_drewN ?_ _ | refine blk_drew ?_ | refine blk_alloc ?_ _)); refine blk_far ?_ NB283_284.out _; (with_reducible repeat (first | refine blk_drewN ?_ _ | refine blk_drew ?_ | refine blk_alloc ?_ _)); refine blk_far ?_ NB283_284.out _; (with_reducible repeat (first | refine blk_drewN ?_ _ | refine blk_drew ?_ | refine blk_alloc ?_ _)); refine blk_far ?_ NB283_284.out _; (with_reducible repeat (first | refine blk_drewN ?_ _ | refine blk_drew ?_ | refine blk_alloc ?_ _)); refine blk_far ?_ NB283_284.out _; (with_reducible repeat (first | refine blk_drewN ?_ _ | refine blk_drew ?_ | refine blk_alloc ?_ _)); refine blk_far ?_ NB283_284.out _; (with_reducible repeat (first | refine blk_drewN ?_ _ | refine blk_drew ?_ | refine blk_alloc ?_ _)); refine blk_far ?_ NB283_284.out _; (with_reducible repeat (first | refine blk_drewN ?_ _ | refine blk_drew ?_ | refine blk_alloc ?_ _)); refine blk_far ?_ NB283_284.out _; (with_reducible repeat (first | refine blk_drewN ?_ _ | refine blk_drew ?_ | refine blk_alloc ?_ _)); exact BK283.out) Try.underlying124 rfl (by kernel_rfl)) rfl ?_
 exact ⟨z5_7_, z5_22_⟩
/-! ### laws_toKeptS: function 57 -/
def laws_toKeptS.l0 : Nat → List (S120) → List (S124) → Int → Option ((List (S124)))
 | 0, _, _, _ => none
 | k + 1, x0, x3, x4 => if x4 < (x0.length : Int) then (if 0 ≤ x4 then ((laws_toKept.f k ((rd_T120 x0 x4).f0) ((rd_T120 x0 x4).f1) ((rd_T120 x0 x4).f2.f0) ((rd_T120 x0 x4).f2.f1.f0) ((rd_T120 x0 x4).f2.f1.f1) ((rd_T120 x0 x4).f2.f1.f2) ((rd_T120 x0 x4).f2.f1.f3) ((rd_T120 x0 x4).f2.f1.f4) ((rd_T120 x0 x4).f2.f1.f5)).bind fun bt296 => (if x4 < (x3.length : Int) then (laws_toKeptS.l0 k x0 (x3.set (x4 : Int).toNat (⟨bt296.1, bt296.2.1, (⟨bt296.2.2.1, (⟨bt296.2.2.2.1, bt296.2.2.2.2.1, bt296.2.2.2.2.2.1, bt296.2.2.2.2.2.2.1, bt296.2.2.2.2.2.2.2.1, bt296.2.2.2.2.2.2.2.2⟩ : S116)⟩ : S122)⟩ : S124)) (wrap64 (x4 + 1))) else (none))) else (none)) else (some x3)
def laws_toKeptS.f (k : Nat) (l0 : List (S120)) : Option ((List (S124))) := if 0 ≤ (l0.length : Int) then (if ((l0.length : Int) : Int).toNat ≤ 5026338869833 then (laws_toKeptS.l0 k l0 (List.replicate ((l0.length : Int) : Int).toNat z124) 0) else (none)) else (none)
theorem laws_toKeptS.mono_l : ∀ k, (∀ y0 y1 y2, LeO (laws_toKeptS.l0 k y0 y1 y2) (laws_toKeptS.l0 (k + 1) y0 y1 y2))
 | 0 => fun _ _ _ r h => by simp [laws_toKeptS.l0] at h
 | k + 1 => by
  have ih0 := laws_toKeptS.mono_l k
  ·
   intro y0 y1 y2
   unfold laws_toKeptS.l0
   repeat' first
   | (with_reducible exact ih0 _ _ _)
   | (with_reducible exact laws_toKept.mono _ _ _ _ _ _ _ _ _ _)
   | (with_reducible exact LeO.refl _)
   | (with_reducible exact LeO.none _)
   | (with_reducible refine LeO.ite ?_ ?_)
   | (with_reducible refine LeO.bind ?_ (fun _ => ?_))
   | exact ih0 _ _ _
   | exact LeO.none _
   | refine LeO.ite ?_ ?_
   | refine LeO.bind ?_ (fun _ => ?_)
theorem laws_toKeptS.mono : ∀ a0 k, LeO (laws_toKeptS.f k a0) (laws_toKeptS.f (k + 1) a0) := by
 intro a0 k
 have ih0 := laws_toKeptS.mono_l k
 unfold laws_toKeptS.f
 repeat' first
   | (with_reducible exact ih0 _ _ _)
   | (with_reducible exact laws_toKept.mono _ _ _ _ _ _ _ _ _ _)
   | (with_reducible exact LeO.refl _)
   | (with_reducible exact LeO.none _)
   | (with_reducible refine LeO.ite ?_ ?_)
   | (with_reducible refine LeO.bind ?_ (fun _ => ?_))
   | exact ih0 _ _ _
   | exact LeO.none _
   | refine LeO.ite ?_ ?_
   | refine LeO.bind ?_ (fun _ => ?_)
set_option maxHeartbeats 8000000 in
set_option maxRecDepth 100000 in
theorem laws_toKeptS.calls (k : Nat) (A0 : Option Addr) (c0 : Nat) (l0 : List (S120)) (r : List (S124)) (w : World) (hr0 : Kd.C k120 w A0 l0.length l0) (hc0 : l0.length ≤ c0) (h : laws_toKeptS.f k l0 = some r) :
  Calls Try.prog 57 #[.slice A0 l0.length c0] w fun e w' => ∃ v0_ : Value, e = .returned (v0_) ∧ Kd.R k124 124 w' w.heap.size (fun _ => True) v0_ r ∧ Below w.heap.size w w' := by
 have hu120 := Try.underlying120
 have hu124 := Try.underlying124
 have HR0 := A_ hr0
 have HC0 := A_ hc0
 clear hr0 hc0
 have HB := A_ (Below.refl w.heap.size w)
 have H : (if 0 ≤ (l0.length : Int) then (if ((l0.length : Int) : Int).toNat ≤ 5026338869833 then (laws_toKeptS.l0 k l0 (List.replicate ((l0.length : Int) : Int).toNat z124) 0) else (none)) else (none)) = some r := h
 clear h
 by_cases c2 : 0 ≤ (l0.length : Int)
 ·
  rw [if_pos c2] at H
  have c2b0 := eq_true c2
  have c2b1 := decide_eq_true c2
  clear c2
  by_cases c3 : ((l0.length : Int) : Int).toNat ≤ 5026338869833
  ·
   rw [if_pos c3] at H
   have c3b0 := eq_true c3
   have c3b1 := decide_eq_true c3
   clear c3
   obtain ⟨y292, hy292⟩ : ∃ y_ : List (S124), y_ = (List.replicate ((l0.length : Int) : Int).toNat z124) := ⟨_, rfl⟩
   replace H : (laws_toKeptS.l0 k l0 y292 0) = some r := by first | (rw [hy292]; with_reducible exact H) | (have H2_ := (Option.bind_some _ _).symm.trans H; rw [hy292]; with_reducible exact H2_) | (have H2_ := (Option.bind_some _ _).symm.trans H; with_reducible exact H2_) | with_reducible exact H | (rw [hy292]; exact H) | exact H
   have Ny292 := A_ hy292
   clear hy292
   have H' := A_ H
   clear H
   go_enter Try.func57, Try.ntmps57
   go_wp2_with (first | ((with_reducible refine gate_dst (N := 7) rfl ?_); refine Kd.R_make k124 _ 124 rfl (N := 7) rfl 69 _ _ rfl (l0.length : Int) rfl rfl Try.underlying69 (.agg #[(.string ⟨#[]⟩), (.int .i64 0), (.bool false), (.int .u32 0), (.int .u32 0), (.int .u32 0), (.int .u32 0), (.int .u32 0), (.int .u32 0)]) 56 info124 rfl (by decide) (by omega) z124 (ok := fun _ => True) (okp := fun _ => True) (k124_mkM _ _ _ z124 ) (fun _ hk => hk) trivial (of_decide_eq_true (by assumption)) (Nat.le_trans (Nat.mul_le_mul_right _ (of_decide_eq_true (by assumption) : (l0.length : Int).toNat ≤ 5026338869833)) (by omega)) (Below.refl _ _) (Nat.le_refl _) ?_; intro v293 w4 ho5 hb hg_ hnew_; clear hg_ hnew_; (first | rw [← Ny292.out] at ho5 | (simp only [Int.reduceToNat] at ho5; rw [← Ny292.out] at ho5)); have _ := A_ (Kd.R_lower ho5 (below_size z5_1_)); have _ := A_ (below_step z5_1_ hb); clear HB; rename_i HO294 HB; clear hb ho5))
   go_loopg [4] k (fun kq v4 w' => ∃ (x3_1 : List (S124)) (x4_1 : Int), v4 = .int .i64 x4_1 ∧ Aside0 (laws_toKeptS.l0 kq l0 x3_1 x4_1 = some r) ∧ Aside0 (kq ≤ k) ∧ Aside0 (Kd.R k124 124 w' w.heap.size (fun _ => True) v293 x3_1) ∧ Aside0 (Below w.heap.size w w'))
   case atStart => exact ⟨(y292), (0), z5_2_, H', ⟨Nat.le_refl _⟩, ⟨(by (with_reducible repeat (first | apply Kd.R_alloc | apply Kd.R_drewN | apply Kd.R_drew)); exact HO294.out)⟩, ⟨z5_1_⟩⟩
   case round =>
    clear H'
    try clear c2
    try clear c2b0
    try clear c2b1
    try clear p2
    try clear c3
    try clear c3b0
    try clear c3b1
    try clear c5
    obtain ⟨x3_1, x4_1, rfl, HA, HK1, HO_3, HB⟩ := hrel
    cases gk with
    | zero => exact absurd HA.out (by simp [laws_toKeptS.l0])
    | succ k1 =>
     have H := HA.out
     clear HA
     simp only [laws_toKeptS.l0] at H
     by_cases c6 : x4_1 < (l0.length : Int)
     ·
      rw [if_pos c6] at H
      have c6b0 := decide_eq_true c6
      clear c6
      by_cases c7 : 0 ≤ x4_1
      ·
       rw [if_pos c7] at H
       have c7b0 := decide_eq_true c7
       clear c7
       replace H := Option.bind_eq_some_iff.mp H
       obtain ⟨⟨t296, t297, t298, t299, t300, t301, t302, t303, t304⟩, A80, H⟩ := H
       try dsimp only at H
       have A8 := A_ A80
       clear A80
       by_cases c9 : x4_1 < (x3_1.length : Int)
       ·
        rw [if_pos c9] at H
        have c9b0 := decide_eq_true c9
        clear c9
        obtain ⟨y305, hy305⟩ : ∃ y_ : List (S124), y_ = (x3_1.set (x4_1 : Int).toNat (⟨t296, t297, (⟨t298, (⟨t299, t300, t301, t302, t303, t304⟩ : S116)⟩ : S122)⟩ : S124)) := ⟨_, rfl⟩
        replace H : (laws_toKeptS.l0 k1 l0 y305 (wrap64 (x4_1 + 1))) = some r := by first | (rw [hy305]; with_reducible exact H) | (have H2_ := (Option.bind_some _ _).symm.trans H; rw [hy305]; with_reducible exact H2_) | (have H2_ := (Option.bind_some _ _).symm.trans H; with_reducible exact H2_) | with_reducible exact H | (rw [hy305]; exact H) | exact H
        have Ny305 := A_ hy305
        clear hy305
        have H' := A_ H
        clear H
        have p295 : 0 ≤ (x4_1 : Int) := of_decide_eq_true (by assumption)
        have q295 : x4_1 < (l0.length : Int) := of_decide_eq_true (by assumption)
        obtain ⟨ad295, e295, hx295_0, hx295_1, hx295_2, hx295_3, hx295_4, hx295_5, hx295_6, hx295_7, hx295_8⟩ := at_T120 HR0.out x4_1 p295 q295
        cases e295
        replace hx295_0 := cel HB.out hx295_0
        replace hx295_1 := cel HB.out hx295_1
        replace hx295_2 := cel HB.out hx295_2
        replace hx295_3 := cel HB.out hx295_3
        replace hx295_4 := cel HB.out hx295_4
        replace hx295_5 := cel HB.out hx295_5
        replace hx295_6 := cel HB.out hx295_6
        replace hx295_7 := cel HB.out hx295_7
        replace hx295_8 := cel HB.out hx295_8
        replace p295 := eq_true p295
        replace q295 := eq_true q295
        go_wp2_with (first | ((with_reducible refine gate_callee (f := 98) rfl ?_); refine goesL_ (some 20) rfl rfl Try.func98 (by kernel_rfl) rfl #[.agg #[.string ((rd_T120 l0 x4_1).f0), .int .i64 ((rd_T120 l0 x4_1).f1), .bool ((rd_T120 l0 x4_1).f2.f0), .int .u32 ((rd_T120 l0 x4_1).f2.f1.f0), .int .u32 ((rd_T120 l0 x4_1).f2.f1.f1), .int .u32 ((rd_T120 l0 x4_1).f2.f1.f2), .int .u32 ((rd_T120 l0 x4_1).f2.f1.f3), .int .u32 ((rd_T120 l0 x4_1).f2.f1.f4), .int .u32 ((rd_T120 l0 x4_1).f2.f1.f5)]] rfl z5_4_ ?_; (with_reducible refine (laws_toKept.calls k1 ((rd_T120 l0 x4_1).f0) ((rd_T120 l0 x4_1).f1) ((rd_T120 l0 x4_1).f2.f0) ((rd_T120 l0 x4_1).f2.f1.f0) ((rd_T120 l0 x4_1).f2.f1.f1) ((rd_T120 l0 x4_1).f2.f1.f2) ((rd_T120 l0 x4_1).f2.f1.f3) ((rd_T120 l0 x4_1).f2.f1.f4) ((rd_T120 l0 x4_1).f2.f1.f5) t296 t297 t298 t299 t300 t301 t302 t303 t304 _ A8.out).mono ?_); rintro e w11 ⟨rfl, hb⟩; refine ⟨_, rfl, ?_⟩; have _ := A_ (Kd.R_below z5_18_ hb); have _ := A_ (below_step z5_1_ hb); clear HO_3 HB; rename_i HO_3 HB; (try clear hb); have p10 : 0 ≤ (x4_1 : Int) := of_decide_eq_true (by assumption); have q10 : (x4_1 : Int) < ((x3_1.length : Int) : Int) := of_decide_eq_true (by assumption); obtain ⟨go10, co10, eo10, gb10, gl10, cl10, HG10⟩ := Kd.R_form HO_3.out (by omega); (first | cases eo10 | (injection eo10 with ea_ en_ ec_; (first | subst ea_ | (injection ea_ with ea_; subst ea_)); subst ec_; clear en_)); have GB10 := A_ gb10; have GG10 := A_ HG10; clear gb10 gl10 HG10; obtain ⟨ce10, hcl10, hM10, hcc10, hfr10⟩ := Kd.R_elem HO_3.out z124 (x4_1 : Int) p10 q10; obtain rfl := k124_openM hM10; have hx10_0 : w11.cell? ⟨go10, (x4_1 : Int).toNat * 9, none⟩ = some (.string ((rd_T124 x3_1 x4_1).f0)) := hcc10 0 _ rfl; have hx10_1 : w11.cell? ⟨go10, (x4_1 : Int).toNat * 9 + 1, none⟩ = some (.int .i64 ((rd_T124 x3_1 x4_1).f1)) := hcc10 1 _ rfl; have hx10_2 : w11.cell? ⟨go10, (x4_1 : Int).toNat * 9 + 2, none⟩ = some (.bool ((rd_T124 x3_1 x4_1).f2.f0)) := hcc10 2 _ rfl; have hx10_3 : w11.cell? ⟨go10, (x4_1 : Int).toNat * 9 + 3, none⟩ = some (.int .u32 ((rd_T124 x3_1 x4_1).f2.f1.f0)) := hcc10 3 _ rfl; have hx10_4 : w11.cell? ⟨go10, (x4_1 : Int).toNat * 9 + 4, none⟩ = some (.int .u32 ((rd_T124 x3_1 x4_1).f2.f1.f1)) := hcc10 4 _ rfl; have hx10_5 : w11.cell? ⟨go10, (x4_1 : Int).toNat * 9 + 5, none⟩ = some (.int .u32 ((rd_T124 x3_1 x4_1).f2.f1.f2)) := hcc10 5 _ rfl; have hx10_6 : w11.cell? ⟨go10, (x4_1 : Int).toNat * 9 + 6, none⟩ = some (.int .u32 ((rd_T124 x3_1 x4_1).f2.f1.f3)) := hcc10 6 _ rfl; have hx10_7 : w11.cell? ⟨go10, (x4_1 : Int).toNat * 9 + 7, none⟩ = some (.int .u32 ((rd_T124 x3_1 x4_1).f2.f1.f4)) := hcc10 7 _ rfl; have hx10_8 : w11.cell? ⟨go10, (x4_1 : Int).toNat * 9 + 8, none⟩ = some (.int .u32 ((rd_T124 x3_1 x4_1).f2.f1.f5)) := hcc10 8 _ rfl; have hf10_0 : w11.frozen? ⟨go10, (x4_1 : Int).toNat * 9, none⟩ = false := hfr10 0; have hf10_1 : w11.frozen? ⟨go10, (x4_1 : Int).toNat * 9 + 1, none⟩ = false := hfr10 1; have hf10_2 : w11.frozen? ⟨go10, (x4_1 : Int).toNat * 9 + 2, none⟩ = false := hfr10 2; have hf10_3 : w11.frozen? ⟨go10, (x4_1 : Int).toNat * 9 + 3, none⟩ = false := hfr10 3; have hf10_4 : w11.frozen? ⟨go10, (x4_1 : Int).toNat * 9 + 4, none⟩ = false := hfr10 4; have hf10_5 : w11.frozen? ⟨go10, (x4_1 : Int).toNat * 9 + 5, none⟩ = false := hfr10 5; have hf10_6 : w11.frozen? ⟨go10, (x4_1 : Int).toNat * 9 + 6, none⟩ = false := hfr10 6; have hf10_7 : w11.frozen? ⟨go10, (x4_1 : Int).toNat * 9 + 7, none⟩ = false := hfr10 7; have hf10_8 : w11.frozen? ⟨go10, (x4_1 : Int).toNat * 9 + 8, none⟩ = false := hfr10 8; clear hcl10 hcc10 hfr10 hM10; replace p10 := eq_true p10; replace q10 := eq_true q10; have HX12 := A_ (show Kd.R k124 124 w11 w.heap.size (fun _ => True) (.slice (some ⟨go10, 0, none⟩) x3_1.length co10) x3_1 from z5_18_); obtain ⟨ce12, hcl12, hM12, hcc12, hfr12⟩ := Kd.R_elem HX12.out z124 (x4_1 : Int) (of_decide_eq_true (by assumption)) (by have h_ : (x4_1 : Int) < ((x3_1.length : Int) : Int) := of_decide_eq_true (by assumption); first | exact h_ | (have e_ := (Kd.R_reads' HO_3.out).1; omega) | simpa using h_); obtain rfl := k124_openM hM12; have HP12 := Kd.R_seg HX12.out (x4_1 : Int) (of_decide_eq_true (by assumption)) (by have h_ : (x4_1 : Int) < ((x3_1.length : Int) : Int) := of_decide_eq_true (by assumption); first | exact h_ | (have e_ := (Kd.R_reads' HO_3.out).1; omega) | simpa using h_) (seg := [.string t296, .int .i64 t297, .bool t298, .int .u32 t299, .int .u32 t300, .int .u32 t301, .int .u32 t302, .int .u32 t303, .int .u32 t304]) (j := 0) hcl12 hcc12 (show 9 ≤ 9 from by decide) (x' := (⟨t296, t297, (⟨t298, (⟨t299, t300, t301, t302, t303, t304⟩ : S116)⟩ : S122)⟩ : S124)) (k124_mkM _ _ _ (⟨t296, t297, (⟨t298, (⟨t299, t300, t301, t302, t303, t304⟩ : S116)⟩ : S122)⟩ : S124) ) (fun _ hk => hk); have hx12_0 := hcc12 0 _ rfl; (try simp only [show (k124).sz = 9 from rfl, Nat.mul_one, Nat.add_zero] at hx12_0); have hf12_0 := hfr12 0; (try simp only [show (k124).sz = 9 from rfl, Nat.mul_one, Nat.add_zero] at hf12_0); have hx12_1 := hcc12 1 _ rfl; (try simp only [show (k124).sz = 9 from rfl, Nat.mul_one, Nat.add_zero] at hx12_1); have hf12_1 := hfr12 1; (try simp only [show (k124).sz = 9 from rfl, Nat.mul_one, Nat.add_zero] at hf12_1); have hx12_2 := hcc12 2 _ rfl; (try simp only [show (k124).sz = 9 from rfl, Nat.mul_one, Nat.add_zero] at hx12_2); have hf12_2 := hfr12 2; (try simp only [show (k124).sz = 9 from rfl, Nat.mul_one, Nat.add_zero] at hf12_2); have hx12_3 := hcc12 3 _ rfl; (try simp only [show (k124).sz = 9 from rfl, Nat.mul_one, Nat.add_zero] at hx12_3); have hf12_3 := hfr12 3; (try simp only [show (k124).sz = 9 from rfl, Nat.mul_one, Nat.add_zero] at hf12_3); have hx12_4 := hcc12 4 _ rfl; (try simp only [show (k124).sz = 9 from rfl, Nat.mul_one, Nat.add_zero] at hx12_4); have hf12_4 := hfr12 4; (try simp only [show (k124).sz = 9 from rfl, Nat.mul_one, Nat.add_zero] at hf12_4); have hx12_5 := hcc12 5 _ rfl; (try simp only [show (k124).sz = 9 from rfl, Nat.mul_one, Nat.add_zero] at hx12_5); have hf12_5 := hfr12 5; (try simp only [show (k124).sz = 9 from rfl, Nat.mul_one, Nat.add_zero] at hf12_5); have hx12_6 := hcc12 6 _ rfl; (try simp only [show (k124).sz = 9 from rfl, Nat.mul_one, Nat.add_zero] at hx12_6); have hf12_6 := hfr12 6; (try simp only [show (k124).sz = 9 from rfl, Nat.mul_one, Nat.add_zero] at hf12_6); have hx12_7 := hcc12 7 _ rfl; (try simp only [show (k124).sz = 9 from rfl, Nat.mul_one, Nat.add_zero] at hx12_7); have hf12_7 := hfr12 7; (try simp only [show (k124).sz = 9 from rfl, Nat.mul_one, Nat.add_zero] at hf12_7); have hx12_8 := hcc12 8 _ rfl; (try simp only [show (k124).sz = 9 from rfl, Nat.mul_one, Nat.add_zero] at hx12_8); have hf12_8 := hfr12 8; (try simp only [show (k124).sz = 9 from rfl, Nat.mul_one, Nat.add_zero] at hf12_8); clear hcl12 hcc12 hfr12 hM12) | ((with_reducible refine gate_store (t := 124) (p := 21) rfl ?_); refine store_event (t := 124) (p := 21) (v := ?vo_w13) (w1 := (((((((((w11.setCell ⟨go10, (x4_1 : Int).toNat * 9, none⟩ (.string t296)).setCell ⟨go10, (x4_1 : Int).toNat * 9 + 1, none⟩ (.int .i64 t297)).setCell ⟨go10, (x4_1 : Int).toNat * 9 + 2, none⟩ (.bool t298)).setCell ⟨go10, (x4_1 : Int).toNat * 9 + 3, none⟩ (.int .u32 t299)).setCell ⟨go10, (x4_1 : Int).toNat * 9 + 4, none⟩ (.int .u32 t300)).setCell ⟨go10, (x4_1 : Int).toNat * 9 + 5, none⟩ (.int .u32 t301)).setCell ⟨go10, (x4_1 : Int).toNat * 9 + 6, none⟩ (.int .u32 t302)).setCell ⟨go10, (x4_1 : Int).toNat * 9 + 7, none⟩ (.int .u32 t303)).setCell ⟨go10, (x4_1 : Int).toNat * 9 + 8, none⟩ (.int .u32 t304))) ?hg ?ho ?hn ?hr ?_; (case ho => rfl); (case hg => rfl); (case hn => rfl); (case hr => first | (go_simp; done) | (go_simp; rfl)); intro w13 hw; have hg : w11.grownBy w13 (some go10) := (by rw [hw]; exact HP12.2); have hp_ : Kd.R k124 124 w13 w.heap.size (fun _ => True) (.slice (some ⟨go10, 0, none⟩) x3_1.length co10) y305 := (by rw [hw, Ny305.out]; exact HP12.1); clear HP12; have _ := A_ (hp_); have _ := A_ ((by rw [hw]; exact below_set (below_set (below_set (below_set (below_set (below_set (below_set (below_set (below_set (HB.out) GB10.out) GB10.out) GB10.out) GB10.out) GB10.out) GB10.out) GB10.out) GB10.out) GB10.out : Below w.heap.size w w13)); clear HO_3 HB; rename_i HO_3 HB; clear hg hw hp_))
        go_roundg k1
        case measure => have := HK1.out; omega
        case rel => exact ⟨(y305), (wrap64 (x4_1 + 1)), z5_2_, H', ⟨(by have := HK1.out; omega)⟩, ⟨z5_18_⟩, ⟨z5_1_⟩⟩
       ·
        rw [if_neg c9] at H
        exact absurd H (by simp)
      ·
       rw [if_neg c7] at H
       exact absurd H (by simp)
     ·
      rw [if_neg c6] at H
      have c6b0 := decide_eq_false c6
      clear c6
      obtain rfl := Option.some.inj H
      go_wp2
      go_ret
      exact ⟨_, z5_7_, z5_18_, z5_1_⟩
  ·
   rw [if_neg c3] at H
   exact absurd H (by simp)
 ·
  rw [if_neg c2] at H
  exact absurd H (by simp)
/-! ### impl_uses: function 74 -/
def impl_uses.j0 : Nat → Int → Bool → Option (Bool × Bool × Bool)
 | 0, _, _ => none
 | k + 1, x5, x8 => if x8 = true then (some (true, true, false)) else (if x5 = 6 then (some (true, false, false)) else (if x5 = 7 then (some (true, false, false)) else (if x5 = 10 then (some (true, false, false)) else (some (false, false, false)))))
def impl_uses.f (k : Nat) (a0 : Int) : Option (Bool × Bool × Bool) := if a0 = 1 then (some (false, false, true)) else (if a0 = 2 then (impl_uses.j0 k a0 (a0 == 2)) else (if a0 = 3 then (impl_uses.j0 k a0 (a0 == 3)) else (if a0 = 4 then (impl_uses.j0 k a0 (a0 == 4)) else (if a0 = 5 then (impl_uses.j0 k a0 (a0 == 5)) else (if a0 = 8 then (impl_uses.j0 k a0 (a0 == 8)) else (impl_uses.j0 k a0 (a0 == 9)))))))
theorem impl_uses.mono_l : ∀ k, (∀ y0 y1, LeO (impl_uses.j0 k y0 y1) (impl_uses.j0 (k + 1) y0 y1))
 | 0 => fun _ _ r h => by simp [impl_uses.j0] at h
 | k + 1 => by
  have ih0 := impl_uses.mono_l k
  ·
   intro y0 y1
   unfold impl_uses.j0
   repeat' first
   | (with_reducible exact ih0 _ _)
   | (with_reducible exact LeO.refl _)
   | (with_reducible exact LeO.none _)
   | (with_reducible refine LeO.ite ?_ ?_)
   | (with_reducible refine LeO.bind ?_ (fun _ => ?_))
   | exact ih0 _ _
   | exact LeO.none _
   | refine LeO.ite ?_ ?_
   | refine LeO.bind ?_ (fun _ => ?_)
theorem impl_uses.mono : ∀ a0 k, LeO (impl_uses.f k a0) (impl_uses.f (k + 1) a0) := by
 intro a0 k
 have ih0 := impl_uses.mono_l k
 unfold impl_uses.f
 repeat' first
   | (with_reducible exact ih0 _ _)
   | (with_reducible exact LeO.refl _)
   | (with_reducible exact LeO.none _)
   | (with_reducible refine LeO.ite ?_ ?_)
   | (with_reducible refine LeO.bind ?_ (fun _ => ?_))
   | exact ih0 _ _
   | exact LeO.none _
   | refine LeO.ite ?_ ?_
   | refine LeO.bind ?_ (fun _ => ?_)
set_option maxHeartbeats 8000000 in
set_option maxRecDepth 100000 in
theorem impl_uses.calls (k : Nat) (a0 : Int) (r1 : Bool) (r2 : Bool) (r3 : Bool) (w : World) (h : impl_uses.f k a0 = some (r1, r2, r3)) :
  Calls Try.prog 74 #[.int .i8 a0] w fun e w' => e = .returned (.tuple #[.bool r1, .bool r2, .bool r3]) ∧ Drawn0 w w' := by
 have H : (if a0 = 1 then (some (false, false, true)) else (if a0 = 2 then (impl_uses.j0 k a0 (a0 == 2)) else (if a0 = 3 then (impl_uses.j0 k a0 (a0 == 3)) else (if a0 = 4 then (impl_uses.j0 k a0 (a0 == 4)) else (if a0 = 5 then (impl_uses.j0 k a0 (a0 == 5)) else (if a0 = 8 then (impl_uses.j0 k a0 (a0 == 8)) else (impl_uses.j0 k a0 (a0 == 9)))))))) = some (r1, r2, r3) := h
 clear h
 by_cases c2 : a0 = 1
 ·
  rw [if_pos c2] at H
  have c2b0 := beq_iff_eq.mpr c2
  have c2b1 := bne_eq_false_iff_eq.mpr c2
  clear c2
  simp only [Option.some.injEq, Prod.mk.injEq] at H
  obtain ⟨rfl, rfl, rfl⟩ := H
  go_enter Try.func74, Try.ntmps74
  go_wp2
  go_ret3
  exact ⟨z5_2_, z5_3_⟩
 ·
  rw [if_neg c2] at H
  have c2b0 : (a0 == 1) = false := beq_eq_false_iff_ne.mpr c2
  have c2b1 : (a0 != 1) = true := bne_iff_ne.mpr c2
  have HC3 := A_ H
  clear H
  go_enter Try.func74, Try.ntmps74
  go_upto_if 8 with (fail)
  go_cut [8] (fun v8 wc => ∃ (kq : Nat) (x8_2 : Bool), v8 = .bool x8_2 ∧ Aside0 (impl_uses.j0 kq a0 x8_2 = some (r1, r2, r3)) ∧ Aside0 (kq ≤ k) ∧ Drawn0 w wc)
  case first =>
   have H := HC3.out
   clear HC3
   by_cases c4 : a0 = 2
   ·
    rw [if_pos c4] at H
    have c4b0 := beq_iff_eq.mpr c4
    have c4b1 := bne_eq_false_iff_eq.mpr c4
    clear c4
    (first | rw [c4b0] | (simp only [i64_w, i32_w]; rw [c4b0]) | skip)
    have H' := A_ H
    clear H
    go_wp2
    go_meet
    case rel => exact ⟨_, ((a0 == 2)), z5_2_, H', ⟨z5_19_⟩, z5_3_⟩
   ·
    rw [if_neg c4] at H
    have c4b0 : (a0 == 2) = false := beq_eq_false_iff_ne.mpr c4
    have c4b1 : (a0 != 2) = true := bne_iff_ne.mpr c4
    (first | rw [c4b0] | (simp only [i64_w, i32_w]; rw [c4b0]) | skip)
    by_cases c5 : a0 = 3
    ·
     rw [if_pos c5] at H
     have c5b0 := beq_iff_eq.mpr c5
     have c5b1 := bne_eq_false_iff_eq.mpr c5
     clear c5
     have H' := A_ H
     clear H
     go_wp2
     go_meet
     case rel => exact ⟨_, ((a0 == 3)), z5_2_, H', ⟨z5_19_⟩, z5_3_⟩
    ·
     rw [if_neg c5] at H
     have c5b0 : (a0 == 3) = false := beq_eq_false_iff_ne.mpr c5
     have c5b1 : (a0 != 3) = true := bne_iff_ne.mpr c5
     by_cases c6 : a0 = 4
     ·
      rw [if_pos c6] at H
      have c6b0 := beq_iff_eq.mpr c6
      have c6b1 := bne_eq_false_iff_eq.mpr c6
      clear c6
      have H' := A_ H
      clear H
      go_wp2
      go_meet
      case rel => exact ⟨_, ((a0 == 4)), z5_2_, H', ⟨z5_19_⟩, z5_3_⟩
     ·
      rw [if_neg c6] at H
      have c6b0 : (a0 == 4) = false := beq_eq_false_iff_ne.mpr c6
      have c6b1 : (a0 != 4) = true := bne_iff_ne.mpr c6
      by_cases c7 : a0 = 5
      ·
       rw [if_pos c7] at H
       have c7b0 := beq_iff_eq.mpr c7
       have c7b1 := bne_eq_false_iff_eq.mpr c7
       clear c7
       have H' := A_ H
       clear H
       go_wp2
       go_meet
       case rel => exact ⟨_, ((a0 == 5)), z5_2_, H', ⟨z5_19_⟩, z5_3_⟩
      ·
       rw [if_neg c7] at H
       have c7b0 : (a0 == 5) = false := beq_eq_false_iff_ne.mpr c7
       have c7b1 : (a0 != 5) = true := bne_iff_ne.mpr c7
       by_cases c8 : a0 = 8
       ·
        rw [if_pos c8] at H
        have c8b0 := beq_iff_eq.mpr c8
        have c8b1 := bne_eq_false_iff_eq.mpr c8
        clear c8
        have H' := A_ H
        clear H
        go_wp2
        go_meet
        case rel => exact ⟨_, ((a0 == 8)), z5_2_, H', ⟨z5_19_⟩, z5_3_⟩
       ·
        rw [if_neg c8] at H
        have c8b0 : (a0 == 8) = false := beq_eq_false_iff_ne.mpr c8
        have c8b1 : (a0 != 8) = true := bne_iff_ne.mpr c8
        have H' := A_ H
        clear H
        go_wp2
        go_meet
        case rel => exact ⟨_, ((a0 == 9)), z5_2_, H', ⟨z5_19_⟩, z5_3_⟩
  case rest =>
   clear HC3
   try clear c2
   try clear c2b0
   try clear c2b1
   try clear p2
   try clear c4
   try clear c4b0
   try clear c4b1
   try clear c5
   try clear c5b0
   try clear c5b1
   try clear c6
   try clear c6b0
   try clear c6b1
   try clear c7
   try clear c7b0
   try clear c7b1
   try clear c8
   try clear c8b0
   try clear c8b1
   obtain ⟨kq, x8_2, rfl, HA, HJ2, ⟨mc2, rfl⟩⟩ := hcut
   cases kq with
   | zero => exact absurd HA.out (by simp [impl_uses.j0])
   | succ kj2 =>
    have H := HA.out
    clear HA
    simp only [impl_uses.j0] at H
    by_cases c9 : x8_2 = true
    ·
     subst c9
     have H1 := H; rw [if_pos rfl] at H1
     clear H
     have H := H1
     clear H1
     simp only [Option.some.injEq, Prod.mk.injEq] at H
     obtain ⟨rfl, rfl, rfl⟩ := H
     go_wp2
     go_ret3
     exact ⟨z5_2_, z5_3_⟩
    ·
     replace c9 := Bool.eq_false_iff.mpr c9
     subst c9
     have H1 := H; rw [if_neg (show ¬ (false = true) by decide)] at H1
     clear H
     have H := H1
     clear H1
     by_cases c10 : a0 = 6
     ·
      rw [if_pos c10] at H
      have c10b0 := beq_iff_eq.mpr c10
      have c10b1 := bne_eq_false_iff_eq.mpr c10
      clear c10
      simp only [Option.some.injEq, Prod.mk.injEq] at H
      obtain ⟨rfl, rfl, rfl⟩ := H
      go_wp2
      go_ret3
      exact ⟨z5_2_, z5_3_⟩
     ·
      rw [if_neg c10] at H
      have c10b0 : (a0 == 6) = false := beq_eq_false_iff_ne.mpr c10
      have c10b1 : (a0 != 6) = true := bne_iff_ne.mpr c10
      by_cases c11 : a0 = 7
      ·
       rw [if_pos c11] at H
       have c11b0 := beq_iff_eq.mpr c11
       have c11b1 := bne_eq_false_iff_eq.mpr c11
       clear c11
       simp only [Option.some.injEq, Prod.mk.injEq] at H
       obtain ⟨rfl, rfl, rfl⟩ := H
       go_wp2
       go_ret3
       exact ⟨z5_2_, z5_3_⟩
      ·
       rw [if_neg c11] at H
       have c11b0 : (a0 == 7) = false := beq_eq_false_iff_ne.mpr c11
       have c11b1 : (a0 != 7) = true := bne_iff_ne.mpr c11
       by_cases c12 : a0 = 10
       ·
        rw [if_pos c12] at H
        have c12b0 := beq_iff_eq.mpr c12
        have c12b1 := bne_eq_false_iff_eq.mpr c12
        clear c12
        simp only [Option.some.injEq, Prod.mk.injEq] at H
        obtain ⟨rfl, rfl, rfl⟩ := H
        go_wp2
        go_ret3
        exact ⟨z5_2_, z5_3_⟩
       ·
        rw [if_neg c12] at H
        have c12b0 : (a0 == 10) = false := beq_eq_false_iff_ne.mpr c12
        have c12b1 : (a0 != 10) = true := bne_iff_ne.mpr c12
        simp only [Option.some.injEq, Prod.mk.injEq] at H
        obtain ⟨rfl, rfl, rfl⟩ := H
        go_wp2
        go_ret3
        exact ⟨z5_2_, z5_3_⟩
/-! ### impl_lineName: function 90 -/
mutual
def impl_lineName.j0 : Nat → ByteArray → Bool → Option (Bool)
 | 0, _, _ => none
 | k + 1, x0, x11 => if x11 = true then (some false) else (impl_lineName.l0 k x0 0)
def impl_lineName.l0 : Nat → ByteArray → Int → Option (Bool)
 | 0, _, _ => none
 | k + 1, x0, x3 => if x3 < (x0.size : Int) then (if 0 ≤ x3 then (if (bt x0 x3) < 97 then (some false) else (if (bt x0 x3) > 122 then (some false) else (impl_lineName.l0 k x0 (wrap64 (x3 + 1))))) else (none)) else (some true)
end
def impl_lineName.f (k : Nat) (a0 : ByteArray) : Option (Bool) := if (a0.size : Int) < 1 then (impl_lineName.j0 k a0 true) else (impl_lineName.j0 k a0 (decide ((a0.size : Int) > 8)))
theorem impl_lineName.mono_l : ∀ k, (∀ y0 y1, LeO (impl_lineName.j0 k y0 y1) (impl_lineName.j0 (k + 1) y0 y1)) ∧ (∀ y0 y1, LeO (impl_lineName.l0 k y0 y1) (impl_lineName.l0 (k + 1) y0 y1))
 | 0 => ⟨fun _ _ r h => by simp [impl_lineName.j0] at h, fun _ _ r h => by simp [impl_lineName.l0] at h⟩
 | k + 1 => by
  obtain ⟨ih0, ih1⟩ := impl_lineName.mono_l k
  refine ⟨?_, ?_⟩
  ·
   intro y0 y1
   unfold impl_lineName.j0
   repeat' first
   | (with_reducible exact ih0 _ _)
   | (with_reducible exact ih1 _ _)
   | (with_reducible exact LeO.refl _)
   | (with_reducible exact LeO.none _)
   | (with_reducible refine LeO.ite ?_ ?_)
   | (with_reducible refine LeO.bind ?_ (fun _ => ?_))
   | exact ih0 _ _
   | exact ih1 _ _
   | exact LeO.none _
   | refine LeO.ite ?_ ?_
   | refine LeO.bind ?_ (fun _ => ?_)
  ·
   intro y0 y1
   unfold impl_lineName.l0
   repeat' first
   | (with_reducible exact ih0 _ _)
   | (with_reducible exact ih1 _ _)
   | (with_reducible exact LeO.refl _)
   | (with_reducible exact LeO.none _)
   | (with_reducible refine LeO.ite ?_ ?_)
   | (with_reducible refine LeO.bind ?_ (fun _ => ?_))
   | exact ih0 _ _
   | exact ih1 _ _
   | exact LeO.none _
   | refine LeO.ite ?_ ?_
   | refine LeO.bind ?_ (fun _ => ?_)
theorem impl_lineName.mono : ∀ a0 k, LeO (impl_lineName.f k a0) (impl_lineName.f (k + 1) a0) := by
 intro a0 k
 obtain ⟨ih0, ih1⟩ := impl_lineName.mono_l k
 unfold impl_lineName.f
 repeat' first
   | (with_reducible exact ih0 _ _)
   | (with_reducible exact ih1 _ _)
   | (with_reducible exact LeO.refl _)
   | (with_reducible exact LeO.none _)
   | (with_reducible refine LeO.ite ?_ ?_)
   | (with_reducible refine LeO.bind ?_ (fun _ => ?_))
   | exact ih0 _ _
   | exact ih1 _ _
   | exact LeO.none _
   | refine LeO.ite ?_ ?_
   | refine LeO.bind ?_ (fun _ => ?_)
set_option maxHeartbeats 8000000 in
set_option maxRecDepth 100000 in
theorem impl_lineName.calls (k : Nat) (a0 : ByteArray) (r : Bool) (w : World) (h : impl_lineName.f k a0 = some r) :
  Calls Try.prog 90 #[.string a0] w fun e w' => e = .returned (.bool r) ∧ Drawn0 w w' := by
 have H : (if (a0.size : Int) < 1 then (impl_lineName.j0 k a0 true) else (impl_lineName.j0 k a0 (decide ((a0.size : Int) > 8)))) = some r := h
 clear h
 have HC2 := A_ H
 clear H
 go_enter Try.func90, Try.ntmps90
 go_upto_region 1 with (fail)
 go_cut [11] (fun v11 wc => ∃ (kq : Nat) (x11_1 : Bool), v11 = .bool x11_1 ∧ Aside0 (impl_lineName.j0 kq a0 x11_1 = some r) ∧ Aside0 (kq ≤ k) ∧ Drawn0 w wc)
 case first =>
  have H := HC2.out
  clear HC2
  by_cases c3 : (a0.size : Int) < 1
  ·
   rw [if_pos c3] at H
   have c3b0 := decide_eq_true c3
   have c3b1 : decide (a0.size < 1) = true := decide_eq_true (by omega)
   clear c3
   (first | rw [c3b0] | (simp only [i64_w, i32_w]; rw [c3b0]) | skip)
   have H' := A_ H
   clear H
   go_wp2
   go_meet
   case rel => exact ⟨_, (true), z5_2_, H', ⟨z5_19_⟩, z5_3_⟩
  ·
   rw [if_neg c3] at H
   have c3b0 := decide_eq_false c3
   have c3b1 : decide (a0.size < 1) = false := decide_eq_false (by omega)
   clear c3
   (first | rw [c3b0] | (simp only [i64_w, i32_w]; rw [c3b0]) | skip)
   have H' := A_ H
   clear H
   go_wp2
   go_meet
   case rel => exact ⟨_, (decide ((a0.size : Int) > 8)), z5_2_, H', ⟨z5_19_⟩, z5_3_⟩
 case rest =>
  clear HC2
  try clear p2
  try clear c3
  try clear c3b0
  try clear c3b1
  obtain ⟨kq, x11_1, rfl, HA, HJ1, ⟨mc1, rfl⟩⟩ := hcut
  cases kq with
  | zero => exact absurd HA.out (by simp [impl_lineName.j0])
  | succ kj1 =>
   have H := HA.out
   clear HA
   simp only [impl_lineName.j0] at H
   by_cases c4 : x11_1 = true
   ·
    subst c4
    have H1 := H; rw [if_pos rfl] at H1
    clear H
    have H := H1
    clear H1
    obtain rfl := Option.some.inj H
    go_wp2
    go_ret
    exact ⟨z5_2_, z5_3_⟩
   ·
    replace c4 := Bool.eq_false_iff.mpr c4
    subst c4
    have H1 := H; rw [if_neg (show ¬ (false = true) by decide)] at H1
    clear H
    have H := H1
    clear H1
    have H' := A_ H
    clear H
    go_wp2
    go_loopg [3] kj1 (fun kq v3 w' => ∃ (x3_2 : Int), v3 = .int .i64 x3_2 ∧ Aside0 (impl_lineName.l0 kq a0 x3_2 = some r) ∧ Aside0 (kq ≤ kj1) ∧ Drawn0 w w')
    case atStart => exact ⟨(0), z5_2_, H', ⟨Nat.le_refl _⟩, z5_3_⟩
    case round =>
     clear H'
     try clear c1
     try clear p2
     try clear c3
     try clear c3b0
     try clear c3b1
     try clear c4
     try clear p2
     obtain ⟨x3_2, rfl, HA, HK2, ⟨m2, rfl⟩⟩ := hrel
     cases gk with
     | zero => exact absurd HA.out (by simp [impl_lineName.l0])
     | succ k2 =>
      have H := HA.out
      clear HA
      simp only [impl_lineName.l0] at H
      by_cases c5 : x3_2 < (a0.size : Int)
      ·
       rw [if_pos c5] at H
       have c5b0 := decide_eq_true c5
       clear c5
       by_cases c6 : 0 ≤ x3_2
       ·
        rw [if_pos c6] at H
        have c6b0 := decide_eq_true c6
        clear c6
        by_cases c8 : (bt a0 x3_2) < 97
        ·
         rw [if_pos c8] at H
         have c8b0 := decide_eq_true c8
         clear c8
         obtain rfl := Option.some.inj H
         have p7 : 0 ≤ (x3_2 : Int) := of_decide_eq_true (by assumption)
         have q7 : x3_2 < (a0.size : Int) := of_decide_eq_true (by assumption)
         have hx7 := bt_at a0 x3_2
         replace p7 := eq_true p7
         replace q7 := eq_true q7
         go_wp2
         go_ret
         exact ⟨z5_2_, z5_3_⟩
        ·
         rw [if_neg c8] at H
         have c8b0 := decide_eq_false c8
         clear c8
         by_cases c10 : (bt a0 x3_2) > 122
         ·
          rw [if_pos c10] at H
          have c10b0 := decide_eq_true c10
          clear c10
          obtain rfl := Option.some.inj H
          have p7 : 0 ≤ (x3_2 : Int) := of_decide_eq_true (by assumption)
          have q7 : x3_2 < (a0.size : Int) := of_decide_eq_true (by assumption)
          have hx7 := bt_at a0 x3_2
          replace p7 := eq_true p7
          replace q7 := eq_true q7
          have p9 : 0 ≤ (x3_2 : Int) := of_decide_eq_true (by assumption)
          have q9 : x3_2 < (a0.size : Int) := of_decide_eq_true (by assumption)
          have hx9 := bt_at a0 x3_2
          replace p9 := eq_true p9
          replace q9 := eq_true q9
          go_wp2
          go_ret
          exact ⟨z5_2_, z5_3_⟩
         ·
          rw [if_neg c10] at H
          have c10b0 := decide_eq_false c10
          clear c10
          have H' := A_ H
          clear H
          have p7 : 0 ≤ (x3_2 : Int) := of_decide_eq_true (by assumption)
          have q7 : x3_2 < (a0.size : Int) := of_decide_eq_true (by assumption)
          have hx7 := bt_at a0 x3_2
          replace p7 := eq_true p7
          replace q7 := eq_true q7
          have p9 : 0 ≤ (x3_2 : Int) := of_decide_eq_true (by assumption)
          have q9 : x3_2 < (a0.size : Int) := of_decide_eq_true (by assumption)
          have hx9 := bt_at a0 x3_2
          replace p9 := eq_true p9
          replace q9 := eq_true q9
          go_wp2
          go_roundg k2
          case measure => have := HJ1.out; have := HK2.out; omega
          case rel => exact ⟨(wrap64 (x3_2 + 1)), z5_2_, H', ⟨(by have := HJ1.out; have := HK2.out; omega)⟩, z5_3_⟩
       ·
        rw [if_neg c6] at H
        exact absurd H (by simp)
      ·
       rw [if_neg c5] at H
       have c5b0 := decide_eq_false c5
       clear c5
       obtain rfl := Option.some.inj H
       go_wp2
       go_ret
       exact ⟨z5_2_, z5_3_⟩
/-! ### impl_within: function 113 -/
def impl_within.f (a0 : Int) (a1 : Int) (a2 : Int) : Option (Bool) := if a0 ≥ a1 then (some (decide (a0 ≤ a2))) else (some false)
set_option maxHeartbeats 8000000 in
set_option maxRecDepth 100000 in
theorem impl_within.calls (a0 : Int) (a1 : Int) (a2 : Int) (r : Bool) (w : World) (h : impl_within.f a0 a1 a2 = some r) :
  Calls Try.prog 113 #[.int .i64 a0, .int .i64 a1, .int .i64 a2] w fun e w' => e = .returned (.bool r) ∧ Drawn0 w w' := by
 have H : (if a0 ≥ a1 then (some (decide (a0 ≤ a2))) else (some false)) = some r := h
 clear h
 by_cases c4 : a0 ≥ a1
 ·
  rw [if_pos c4] at H
  have c4b0 := decide_eq_true c4
  clear c4
  obtain rfl := Option.some.inj H
  go_enter Try.func113, Try.ntmps113
  go_wp2
  go_ret
  exact ⟨z5_2_, z5_3_⟩
 ·
  rw [if_neg c4] at H
  have c4b0 := decide_eq_false c4
  clear c4
  obtain rfl := Option.some.inj H
  go_enter Try.func113, Try.ntmps113
  go_wp2
  go_ret
  exact ⟨z5_2_, z5_3_⟩
/-! ### impl_ratioOk: function 105 -/
def impl_ratioOk.f (a0 : Int) (a1 : Int) (a2 : Int) : Option (Bool) := if a0 = 1 then ((impl_within.f a1 (-1000000000) 1000000000).bind fun t306 => (if t306 = true then ((impl_within.f a2 1 1000000000).bind fun t307 => (some t307)) else (some false))) else (if a1 = 0 then (some (a2 == 0)) else (some false))
set_option maxHeartbeats 8000000 in
set_option maxRecDepth 100000 in
theorem impl_ratioOk.calls (a0 : Int) (a1 : Int) (a2 : Int) (r : Bool) (w : World) (h : impl_ratioOk.f a0 a1 a2 = some r) :
  Calls Try.prog 105 #[.int .i8 a0, .int .i64 a1, .int .i64 a2] w fun e w' => e = .returned (.bool r) ∧ Drawn0 w w' := by
 have H : (if a0 = 1 then ((impl_within.f a1 (-1000000000) 1000000000).bind fun t306 => (if t306 = true then ((impl_within.f a2 1 1000000000).bind fun t307 => (some t307)) else (some false))) else (if a1 = 0 then (some (a2 == 0)) else (some false))) = some r := h
 clear h
 by_cases c4 : a0 = 1
 ·
  rw [if_pos c4] at H
  have c4b0 := beq_iff_eq.mpr c4
  have c4b1 := bne_eq_false_iff_eq.mpr c4
  clear c4
  replace H := Option.bind_eq_some_iff.mp H
  obtain ⟨t306, A50, H⟩ := H
  try dsimp only at H
  have A5 := A_ A50
  clear A50
  by_cases c6 : t306 = true
  ·
   subst c6
   have H1 := H; rw [if_pos rfl] at H1
   clear H
   have H := H1
   clear H1
   replace H := Option.bind_eq_some_iff.mp H
   obtain ⟨t307, A70, H⟩ := H
   try dsimp only at H
   have A7 := A_ A70
   clear A70
   obtain rfl := Option.some.inj H
   go_enter Try.func105, Try.ntmps105
   go_wp2_with (first | ((with_reducible refine gate_callee (f := 113) rfl ?_); refine goesL_ (some 10) rfl rfl Try.func113 (by kernel_rfl) rfl #[.int .i64 a1, .int .i64 (-1000000000), .int .i64 1000000000] rfl z5_4_ ?_; (with_reducible refine (impl_within.calls a1 (-1000000000) 1000000000 true _ A5.out).mono ?_); rintro e w' ⟨rfl, ⟨nd, rfl⟩⟩; refine ⟨_, rfl, ?_⟩) | (go_at_call 113; (with_reducible refine (impl_within.calls a2 1 1000000000 t307 _ A7.out).mono ?_); rintro e w' ⟨rfl, ⟨nd, rfl⟩⟩))
   go_ret
   exact ⟨z5_2_, z5_3_⟩
  ·
   replace c6 := Bool.eq_false_iff.mpr c6
   subst c6
   have H1 := H; rw [if_neg (show ¬ (false = true) by decide)] at H1
   clear H
   have H := H1
   clear H1
   obtain rfl := Option.some.inj H
   go_enter Try.func105, Try.ntmps105
   go_wp2_with (first | ((with_reducible refine gate_callee (f := 113) rfl ?_); refine goesL_ (some 10) rfl rfl Try.func113 (by kernel_rfl) rfl #[.int .i64 a1, .int .i64 (-1000000000), .int .i64 1000000000] rfl z5_4_ ?_; (with_reducible refine (impl_within.calls a1 (-1000000000) 1000000000 false _ A5.out).mono ?_); rintro e w' ⟨rfl, ⟨nd, rfl⟩⟩; refine ⟨_, rfl, ?_⟩))
   go_ret
   exact ⟨z5_2_, z5_3_⟩
 ·
  rw [if_neg c4] at H
  have c4b0 : (a0 == 1) = false := beq_eq_false_iff_ne.mpr c4
  have c4b1 : (a0 != 1) = true := bne_iff_ne.mpr c4
  by_cases c8 : a1 = 0
  ·
   rw [if_pos c8] at H
   have c8b0 := beq_iff_eq.mpr c8
   have c8b1 := bne_eq_false_iff_eq.mpr c8
   clear c8
   obtain rfl := Option.some.inj H
   go_enter Try.func105, Try.ntmps105
   go_wp2
   go_ret
   exact ⟨z5_2_, z5_3_⟩
  ·
   rw [if_neg c8] at H
   have c8b0 : (a1 == 0) = false := beq_eq_false_iff_ne.mpr c8
   have c8b1 : (a1 != 0) = true := bne_iff_ne.mpr c8
   obtain rfl := Option.some.inj H
   go_enter Try.func105, Try.ntmps105
   go_wp2
   go_ret
   exact ⟨z5_2_, z5_3_⟩
/-! ### impl_Line_used: function 106 -/
def impl_Line_used.f (k : Nat) (l0 : List (S45)) : Option (List ByteArray) := if 0 < (l0.length : Int) then ((impl_uses.f k ((rd_T45 l0 0).f1)).bind fun bt309 => ((some (([] : List ByteArray) : List ByteArray)).bind fun y312 => (if bt309.1 = true then (if y312.length < 8796093022208 then ((some (y312 ++ [(rd_T45 l0 0).f2] : List ByteArray)).bind fun y316 => (if bt309.2.1 = true then (if y316.length < 8796093022208 then (some (y316 ++ [(rd_T45 l0 0).f3])) else (none)) else (some y316))) else (none)) else (if bt309.2.1 = true then (if y312.length < 8796093022208 then (some (y312 ++ [(rd_T45 l0 0).f3])) else (none)) else (some y312))))) else (none)
theorem impl_Line_used.mono : ∀ a0 k, LeO (impl_Line_used.f k a0) (impl_Line_used.f (k + 1) a0) := by
 intro a0 k
 unfold impl_Line_used.f
 repeat' first
   | (with_reducible exact impl_uses.mono _ _)
   | (with_reducible exact LeO.refl _)
   | (with_reducible exact LeO.none _)
   | (with_reducible refine LeO.ite ?_ ?_)
   | (with_reducible refine LeO.bind ?_ (fun _ => ?_))
   | exact LeO.none _
   | refine LeO.ite ?_ ?_
   | refine LeO.bind ?_ (fun _ => ?_)
set_option maxHeartbeats 8000000 in
set_option maxRecDepth 100000 in
theorem impl_Line_used.calls (k : Nat) (A0 : Option Addr) (c0 : Nat) (l0 : List (S45)) (r : List ByteArray) (w : World) (hr0 : Kd.C k45 w A0 l0.length l0) (hc0 : l0.length ≤ c0) (h : impl_Line_used.f k l0 = some r) :
  Calls Try.prog 106 #[.pointer A0] w fun e w' => ∃ v0_ : Value, e = .returned (v0_) ∧ Kd.R Kd.string 9 w' w.heap.size (fun _ => True) v0_ r ∧ Below w.heap.size w w' := by
 have HR0 := A_ hr0
 have HC0 := A_ hc0
 clear hr0 hc0
 have HB := A_ (Below.refl w.heap.size w)
 have H : (if 0 < (l0.length : Int) then ((impl_uses.f k ((rd_T45 l0 0).f1)).bind fun bt309 => ((some (([] : List ByteArray) : List ByteArray)).bind fun y312 => (if bt309.1 = true then (if y312.length < 8796093022208 then ((some (y312 ++ [(rd_T45 l0 0).f2] : List ByteArray)).bind fun y316 => (if bt309.2.1 = true then (if y316.length < 8796093022208 then (some (y316 ++ [(rd_T45 l0 0).f3])) else (none)) else (some y316))) else (none)) else (if bt309.2.1 = true then (if y312.length < 8796093022208 then (some (y312 ++ [(rd_T45 l0 0).f3])) else (none)) else (some y312))))) else (none)) = some r := h
 clear h
 by_cases c2 : 0 < (l0.length : Int)
 ·
  rw [if_pos c2] at H
  have c2b0 := decide_eq_true c2
  have c2b1 : decide (0 < l0.length) = true := decide_eq_true (by omega)
  clear c2
  replace H := Option.bind_eq_some_iff.mp H
  obtain ⟨⟨t309, t310, t311⟩, A30, H⟩ := H
  try dsimp only at H
  have A3 := A_ A30
  clear A30
  obtain ⟨y312, hy312⟩ : ∃ y_ : List ByteArray, y_ = (([] : List ByteArray)) := ⟨_, rfl⟩
  replace H : (if t309 = true then (if y312.length < 8796093022208 then ((some (y312 ++ [(rd_T45 l0 0).f2] : List ByteArray)).bind fun y316 => (if t310 = true then (if y316.length < 8796093022208 then (some (y316 ++ [(rd_T45 l0 0).f3])) else (none)) else (some y316))) else (none)) else (if t310 = true then (if y312.length < 8796093022208 then (some (y312 ++ [(rd_T45 l0 0).f3])) else (none)) else (some y312))) = some r := by first | (rw [hy312]; with_reducible exact H) | (have H2_ := (Option.bind_some _ _).symm.trans H; rw [hy312]; with_reducible exact H2_) | (have H2_ := (Option.bind_some _ _).symm.trans H; with_reducible exact H2_) | with_reducible exact H | (rw [hy312]; exact H) | exact H
  have Ny312 := A_ hy312
  clear hy312
  by_cases c4 : t309 = true
  ·
   subst c4
   have H1 := H; rw [if_pos rfl] at H1
   clear H
   have H := H1
   clear H1
   by_cases c5 : y312.length < 8796093022208
   ·
    rw [if_pos c5] at H
    have LMc5 := A_ c5
    clear c5
    obtain ⟨y316, hy316⟩ : ∃ y_ : List ByteArray, y_ = (y312 ++ [(rd_T45 l0 0).f2]) := ⟨_, rfl⟩
    replace H : (if t310 = true then (if y316.length < 8796093022208 then (some (y316 ++ [(rd_T45 l0 0).f3])) else (none)) else (some y316)) = some r := by first | (rw [hy316]; with_reducible exact H) | (have H2_ := (Option.bind_some _ _).symm.trans H; rw [hy316]; with_reducible exact H2_) | (have H2_ := (Option.bind_some _ _).symm.trans H; with_reducible exact H2_) | with_reducible exact H | (rw [hy316]; exact H) | exact H
    have Ny316 := A_ hy316
    clear hy316
    by_cases c6 : t310 = true
    ·
     subst c6
     have H1 := H; rw [if_pos rfl] at H1
     clear H
     have H := H1
     clear H1
     by_cases c7 : y316.length < 8796093022208
     ·
      rw [if_pos c7] at H
      have LMc7 := A_ c7
      clear c7
      obtain ⟨y320, hy320⟩ : ∃ y_ : List ByteArray, y_ = (y316 ++ [(rd_T45 l0 0).f3]) := ⟨_, rfl⟩
      replace H : (some y320) = some r := by first | (rw [hy320]; with_reducible exact H) | (have H2_ := (Option.bind_some _ _).symm.trans H; rw [hy320]; with_reducible exact H2_) | (have H2_ := (Option.bind_some _ _).symm.trans H; with_reducible exact H2_) | with_reducible exact H | (rw [hy320]; exact H) | exact H
      have Ny320 := A_ hy320
      clear hy320
      obtain rfl := Option.some.inj H
      have q308 : 0 < (l0.length : Int) := of_decide_eq_true (by assumption)
      obtain ⟨ad308, e308, hx308_0, hx308_1, hx308_2, hx308_3, hx308_4, hx308_5⟩ := rp_T45 HR0.out q308
      cases e308
      go_enter Try.func106, Try.ntmps106
      go_wp2_with (first | ((with_reducible refine gate_callee (f := 74) rfl ?_); refine goesL_ (some 12) rfl rfl Try.func74 (by kernel_rfl) rfl #[.int .i8 ((rd_T45 l0 0).f1)] rfl z5_4_ ?_; (with_reducible refine (impl_uses.calls k ((rd_T45 l0 0).f1) true true t311 _ A3.out).mono ?_); rintro e w' ⟨rfl, ⟨nd, rfl⟩⟩; refine ⟨_, rfl, ?_⟩) | ((with_reducible refine gate_dst (N := 16) rfl ?_); refine Kd.R_lit Kd.string _ 9 ?hg (N := 16) ?hd (xs := ([] : List ByteArray)) (inner := []) (ok := fun _ => True) (okp := fun _ => True) ?hr ?hp (fun _ hk => hk) trivial (Below.refl _ _) (Nat.le_refl _) (by simp) ?_; (case hd => rfl); (case hg => rfl); (case hr => first | (go_simp; done) | (go_simp; rfl)); (case hp => exact (Reps.none _ _)); intro v313 w8 ho9 hb hg_ hnew_; clear hg_ hnew_; (first | rw [← Ny312.out] at ho9 | (simp only [Int.reduceToNat] at ho9; rw [← Ny312.out] at ho9)); have _ := A_ (Kd.R_lower ho9 (below_size z5_1_)); have _ := A_ (below_step z5_1_ hb); clear HB; rename_i HO314 HB; clear hb ho9; have q315 : 0 < (l0.length : Int) := of_decide_eq_true (by assumption); obtain ⟨ad315, e315, hx315_0, hx315_1, hx315_2, hx315_3, hx315_4, hx315_5⟩ := rp_T45 HR0.out q315; obtain rfl : ad308 = ad315 := (by injection e315); replace hx315_0 := cel HB.out hx315_0; replace hx315_1 := cel HB.out hx315_1; replace hx315_2 := cel HB.out hx315_2; replace hx315_3 := cel HB.out hx315_3; replace hx315_4 := cel HB.out hx315_4; replace hx315_5 := cel HB.out hx315_5) | ((with_reducible refine gate_builtin (b := .append) (xs := #[.tmp 18, .tmp 23]) rfl ?_); at_builtin; refine Kd.R_append Kd.string (w0 := w) w.heap.size rfl (.tmp 18) (.tmp 23) 48 9 (.string ⟨#[]⟩) 16 rfl Try.underlying48 info9 rfl (by decide) (by omega) v313 y312 ((rd_T45 l0 0).f2) [.string ((rd_T45 l0 0).f2)] (fun _ => True) (fun _ => False) rfl rfl ?aP (fun _ hk => hk.elim) ?aF ?aO ?aB ?aS ?aL ?_; (case aP => exact rfl); (case aB => exact z5_1_); (case aF => exact (fun _ _ => trivial)); (case aO => exact z5_17_); (case aS => exact (below_size z5_1_)); (case aL => have := LMc5.out; omega); intro v317 w10 ho hb hg hat; rw [← Ny316.out] at ho; have _ := A_ (hb); have _ := A_ (ho); clear HB HO314; rename_i HB HO318; clear ho hb hg hat; have q319 : 0 < (l0.length : Int) := of_decide_eq_true (by assumption); obtain ⟨ad319, e319, hx319_0, hx319_1, hx319_2, hx319_3, hx319_4, hx319_5⟩ := rp_T45 HR0.out q319; obtain rfl : ad308 = ad319 := (by injection e319); replace hx319_0 := cel HB.out hx319_0; replace hx319_1 := cel HB.out hx319_1; replace hx319_2 := cel HB.out hx319_2; replace hx319_3 := cel HB.out hx319_3; replace hx319_4 := cel HB.out hx319_4; replace hx319_5 := cel HB.out hx319_5) | ((with_reducible refine gate_builtin (b := .append) (xs := #[.tmp 26, .tmp 31]) rfl ?_); at_builtin; refine Kd.R_append Kd.string (w0 := w) w.heap.size rfl (.tmp 26) (.tmp 31) 48 9 (.string ⟨#[]⟩) 16 rfl Try.underlying48 info9 rfl (by decide) (by omega) v317 y316 ((rd_T45 l0 0).f3) [.string ((rd_T45 l0 0).f3)] (fun _ => True) (fun _ => False) rfl rfl ?aP (fun _ hk => hk.elim) ?aF ?aO ?aB ?aS ?aL ?_; (case aP => exact rfl); (case aB => exact z5_1_); (case aF => exact (fun _ _ => trivial)); (case aO => exact z5_25_); (case aS => exact (below_size z5_1_)); (case aL => have := LMc7.out; omega); intro v321 w11 ho hb hg hat; rw [← Ny320.out] at ho; have _ := A_ (hb); have _ := A_ (ho); clear HB HO318; rename_i HB HO322; clear ho hb hg hat))
      go_ret
      exact ⟨_, z5_7_, (by (with_reducible repeat (first | apply Kd.R_alloc | apply Kd.R_drewN | apply Kd.R_drew)); exact HO322.out), z5_1_⟩
     ·
      rw [if_neg c7] at H
      exact absurd H (by simp)
    ·
     replace c6 := Bool.eq_false_iff.mpr c6
     subst c6
     have H1 := H; rw [if_neg (show ¬ (false = true) by decide)] at H1
     clear H
     have H := H1
     clear H1
     obtain rfl := Option.some.inj H
     have q308 : 0 < (l0.length : Int) := of_decide_eq_true (by assumption)
     obtain ⟨ad308, e308, hx308_0, hx308_1, hx308_2, hx308_3, hx308_4, hx308_5⟩ := rp_T45 HR0.out q308
     cases e308
     go_enter Try.func106, Try.ntmps106
     go_wp2_with (first | ((with_reducible refine gate_callee (f := 74) rfl ?_); refine goesL_ (some 12) rfl rfl Try.func74 (by kernel_rfl) rfl #[.int .i8 ((rd_T45 l0 0).f1)] rfl z5_4_ ?_; (with_reducible refine (impl_uses.calls k ((rd_T45 l0 0).f1) true false t311 _ A3.out).mono ?_); rintro e w' ⟨rfl, ⟨nd, rfl⟩⟩; refine ⟨_, rfl, ?_⟩) | ((with_reducible refine gate_dst (N := 16) rfl ?_); refine Kd.R_lit Kd.string _ 9 ?hg (N := 16) ?hd (xs := ([] : List ByteArray)) (inner := []) (ok := fun _ => True) (okp := fun _ => True) ?hr ?hp (fun _ hk => hk) trivial (Below.refl _ _) (Nat.le_refl _) (by simp) ?_; (case hd => rfl); (case hg => rfl); (case hr => first | (go_simp; done) | (go_simp; rfl)); (case hp => exact (Reps.none _ _)); intro v313 w12 ho13 hb hg_ hnew_; clear hg_ hnew_; (first | rw [← Ny312.out] at ho13 | (simp only [Int.reduceToNat] at ho13; rw [← Ny312.out] at ho13)); have _ := A_ (Kd.R_lower ho13 (below_size z5_1_)); have _ := A_ (below_step z5_1_ hb); clear HB; rename_i HO314 HB; clear hb ho13; have q315 : 0 < (l0.length : Int) := of_decide_eq_true (by assumption); obtain ⟨ad315, e315, hx315_0, hx315_1, hx315_2, hx315_3, hx315_4, hx315_5⟩ := rp_T45 HR0.out q315; obtain rfl : ad308 = ad315 := (by injection e315); replace hx315_0 := cel HB.out hx315_0; replace hx315_1 := cel HB.out hx315_1; replace hx315_2 := cel HB.out hx315_2; replace hx315_3 := cel HB.out hx315_3; replace hx315_4 := cel HB.out hx315_4; replace hx315_5 := cel HB.out hx315_5) | ((with_reducible refine gate_builtin (b := .append) (xs := #[.tmp 18, .tmp 23]) rfl ?_); at_builtin; refine Kd.R_append Kd.string (w0 := w) w.heap.size rfl (.tmp 18) (.tmp 23) 48 9 (.string ⟨#[]⟩) 16 rfl Try.underlying48 info9 rfl (by decide) (by omega) v313 y312 ((rd_T45 l0 0).f2) [.string ((rd_T45 l0 0).f2)] (fun _ => True) (fun _ => False) rfl rfl ?aP (fun _ hk => hk.elim) ?aF ?aO ?aB ?aS ?aL ?_; (case aP => exact rfl); (case aB => exact z5_1_); (case aF => exact (fun _ _ => trivial)); (case aO => exact z5_17_); (case aS => exact (below_size z5_1_)); (case aL => have := LMc5.out; omega); intro v317 w14 ho hb hg hat; rw [← Ny316.out] at ho; have _ := A_ (hb); have _ := A_ (ho); clear HB HO314; rename_i HB HO318; clear ho hb hg hat))
     go_ret
     exact ⟨_, z5_7_, z5_25_, z5_1_⟩
   ·
    rw [if_neg c5] at H
    exact absurd H (by simp)
  ·
   replace c4 := Bool.eq_false_iff.mpr c4
   subst c4
   have H1 := H; rw [if_neg (show ¬ (false = true) by decide)] at H1
   clear H
   have H := H1
   clear H1
   by_cases c15 : t310 = true
   ·
    subst c15
    have H1 := H; rw [if_pos rfl] at H1
    clear H
    have H := H1
    clear H1
    by_cases c16 : y312.length < 8796093022208
    ·
     rw [if_pos c16] at H
     have LMc16 := A_ c16
     clear c16
     obtain ⟨y324, hy324⟩ : ∃ y_ : List ByteArray, y_ = (y312 ++ [(rd_T45 l0 0).f3]) := ⟨_, rfl⟩
     replace H : (some y324) = some r := by first | (rw [hy324]; with_reducible exact H) | (have H2_ := (Option.bind_some _ _).symm.trans H; rw [hy324]; with_reducible exact H2_) | (have H2_ := (Option.bind_some _ _).symm.trans H; with_reducible exact H2_) | with_reducible exact H | (rw [hy324]; exact H) | exact H
     have Ny324 := A_ hy324
     clear hy324
     obtain rfl := Option.some.inj H
     have q308 : 0 < (l0.length : Int) := of_decide_eq_true (by assumption)
     obtain ⟨ad308, e308, hx308_0, hx308_1, hx308_2, hx308_3, hx308_4, hx308_5⟩ := rp_T45 HR0.out q308
     cases e308
     go_enter Try.func106, Try.ntmps106
     go_wp2_with (first | ((with_reducible refine gate_callee (f := 74) rfl ?_); refine goesL_ (some 12) rfl rfl Try.func74 (by kernel_rfl) rfl #[.int .i8 ((rd_T45 l0 0).f1)] rfl z5_4_ ?_; (with_reducible refine (impl_uses.calls k ((rd_T45 l0 0).f1) false true t311 _ A3.out).mono ?_); rintro e w' ⟨rfl, ⟨nd, rfl⟩⟩; refine ⟨_, rfl, ?_⟩) | ((with_reducible refine gate_dst (N := 16) rfl ?_); refine Kd.R_lit Kd.string _ 9 ?hg (N := 16) ?hd (xs := ([] : List ByteArray)) (inner := []) (ok := fun _ => True) (okp := fun _ => True) ?hr ?hp (fun _ hk => hk) trivial (Below.refl _ _) (Nat.le_refl _) (by simp) ?_; (case hd => rfl); (case hg => rfl); (case hr => first | (go_simp; done) | (go_simp; rfl)); (case hp => exact (Reps.none _ _)); intro v313 w17 ho18 hb hg_ hnew_; clear hg_ hnew_; (first | rw [← Ny312.out] at ho18 | (simp only [Int.reduceToNat] at ho18; rw [← Ny312.out] at ho18)); have _ := A_ (Kd.R_lower ho18 (below_size z5_1_)); have _ := A_ (below_step z5_1_ hb); clear HB; rename_i HO314 HB; clear hb ho18; have q323 : 0 < (l0.length : Int) := of_decide_eq_true (by assumption); obtain ⟨ad323, e323, hx323_0, hx323_1, hx323_2, hx323_3, hx323_4, hx323_5⟩ := rp_T45 HR0.out q323; obtain rfl : ad308 = ad323 := (by injection e323); replace hx323_0 := cel HB.out hx323_0; replace hx323_1 := cel HB.out hx323_1; replace hx323_2 := cel HB.out hx323_2; replace hx323_3 := cel HB.out hx323_3; replace hx323_4 := cel HB.out hx323_4; replace hx323_5 := cel HB.out hx323_5) | ((with_reducible refine gate_builtin (b := .append) (xs := #[.tmp 26, .tmp 31]) rfl ?_); at_builtin; refine Kd.R_append Kd.string (w0 := w) w.heap.size rfl (.tmp 26) (.tmp 31) 48 9 (.string ⟨#[]⟩) 16 rfl Try.underlying48 info9 rfl (by decide) (by omega) v313 y312 ((rd_T45 l0 0).f3) [.string ((rd_T45 l0 0).f3)] (fun _ => True) (fun _ => False) rfl rfl ?aP (fun _ hk => hk.elim) ?aF ?aO ?aB ?aS ?aL ?_; (case aP => exact rfl); (case aB => exact z5_1_); (case aF => exact (fun _ _ => trivial)); (case aO => exact z5_17_); (case aS => exact (below_size z5_1_)); (case aL => have := LMc16.out; omega); intro v325 w19 ho hb hg hat; rw [← Ny324.out] at ho; have _ := A_ (hb); have _ := A_ (ho); clear HB HO314; rename_i HB HO326; clear ho hb hg hat))
     go_ret
     exact ⟨_, z5_7_, (by (with_reducible repeat (first | apply Kd.R_alloc | apply Kd.R_drewN | apply Kd.R_drew)); exact HO326.out), z5_1_⟩
    ·
     rw [if_neg c16] at H
     exact absurd H (by simp)
   ·
    replace c15 := Bool.eq_false_iff.mpr c15
    subst c15
    have H1 := H; rw [if_neg (show ¬ (false = true) by decide)] at H1
    clear H
    have H := H1
    clear H1
    obtain rfl := Option.some.inj H
    have q308 : 0 < (l0.length : Int) := of_decide_eq_true (by assumption)
    obtain ⟨ad308, e308, hx308_0, hx308_1, hx308_2, hx308_3, hx308_4, hx308_5⟩ := rp_T45 HR0.out q308
    cases e308
    go_enter Try.func106, Try.ntmps106
    go_wp2_with (first | ((with_reducible refine gate_callee (f := 74) rfl ?_); refine goesL_ (some 12) rfl rfl Try.func74 (by kernel_rfl) rfl #[.int .i8 ((rd_T45 l0 0).f1)] rfl z5_4_ ?_; (with_reducible refine (impl_uses.calls k ((rd_T45 l0 0).f1) false false t311 _ A3.out).mono ?_); rintro e w' ⟨rfl, ⟨nd, rfl⟩⟩; refine ⟨_, rfl, ?_⟩) | ((with_reducible refine gate_dst (N := 16) rfl ?_); refine Kd.R_lit Kd.string _ 9 ?hg (N := 16) ?hd (xs := ([] : List ByteArray)) (inner := []) (ok := fun _ => True) (okp := fun _ => True) ?hr ?hp (fun _ hk => hk) trivial (Below.refl _ _) (Nat.le_refl _) (by simp) ?_; (case hd => rfl); (case hg => rfl); (case hr => first | (go_simp; done) | (go_simp; rfl)); (case hp => exact (Reps.none _ _)); intro v313 w20 ho21 hb hg_ hnew_; clear hg_ hnew_; (first | rw [← Ny312.out] at ho21 | (simp only [Int.reduceToNat] at ho21; rw [← Ny312.out] at ho21)); have _ := A_ (Kd.R_lower ho21 (below_size z5_1_)); have _ := A_ (below_step z5_1_ hb); clear HB; rename_i HO314 HB; clear hb ho21))
    go_ret
    exact ⟨_, z5_7_, z5_17_, z5_1_⟩
 ·
  rw [if_neg c2] at H
  exact absurd H (by simp)
/-! ### impl_placesOk: function 124 -/
def impl_placesOk.f (a0 : Int) : Option (Bool) := (impl_within.f a0 0 64).bind fun t379 => (some t379)
set_option maxHeartbeats 8000000 in
set_option maxRecDepth 100000 in
theorem impl_placesOk.calls (a0 : Int) (r : Bool) (w : World) (h : impl_placesOk.f a0 = some r) :
  Calls Try.prog 124 #[.int .i64 a0] w fun e w' => e = .returned (.bool r) ∧ Drawn0 w w' := by
 have H : ((impl_within.f a0 0 64).bind fun t379 => (some t379)) = some r := h
 clear h
 replace H := Option.bind_eq_some_iff.mp H
 obtain ⟨t379, A20, H⟩ := H
 try dsimp only at H
 have A2 := A_ A20
 clear A20
 obtain rfl := Option.some.inj H
 go_enter Try.func124, Try.ntmps124
 go_wp2_with (first | ((with_reducible refine gate_callee (f := 113) rfl ?_); refine goesL_ (some 4) rfl rfl Try.func113 (by kernel_rfl) rfl #[.int .i64 a0, .int .i64 0, .int .i64 64] rfl z5_4_ ?_; (with_reducible refine (impl_within.calls a0 0 64 t379 _ A2.out).mono ?_); rintro e w' ⟨rfl, ⟨nd, rfl⟩⟩; refine ⟨_, rfl, ?_⟩))
 go_ret
 exact ⟨z5_2_, z5_3_⟩
/-! ### slices_Index_string_string: function 129 -/
def slices_Index_string_string.l0 : Nat → List ByteArray → ByteArray → Int → Int → Option (Int)
 | 0, _, _, _, _ => none
 | k + 1, x0, x1, x7, x8 => if x8 < x7 then (if 0 ≤ x8 then (if x8 < (x0.length : Int) then (if x1.toList = (rdOf ByteArray.empty x0 x8).toList then (some x8) else (slices_Index_string_string.l0 k x0 x1 x7 (wrap64 (x8 + 1)))) else (none)) else (none)) else (some (-1))
def slices_Index_string_string.f (k : Nat) (l0 : List ByteArray) (a1 : ByteArray) : Option (Int) := slices_Index_string_string.l0 k l0 a1 (l0.length : Int) 0
theorem slices_Index_string_string.mono_l : ∀ k, (∀ y0 y1 y2 y3, LeO (slices_Index_string_string.l0 k y0 y1 y2 y3) (slices_Index_string_string.l0 (k + 1) y0 y1 y2 y3))
 | 0 => fun _ _ _ _ r h => by simp [slices_Index_string_string.l0] at h
 | k + 1 => by
  have ih0 := slices_Index_string_string.mono_l k
  ·
   intro y0 y1 y2 y3
   unfold slices_Index_string_string.l0
   repeat' first
   | (with_reducible exact ih0 _ _ _ _)
   | (with_reducible exact LeO.refl _)
   | (with_reducible exact LeO.none _)
   | (with_reducible refine LeO.ite ?_ ?_)
   | (with_reducible refine LeO.bind ?_ (fun _ => ?_))
   | exact ih0 _ _ _ _
   | exact LeO.none _
   | refine LeO.ite ?_ ?_
   | refine LeO.bind ?_ (fun _ => ?_)
theorem slices_Index_string_string.mono : ∀ a0 a1 k, LeO (slices_Index_string_string.f k a0 a1) (slices_Index_string_string.f (k + 1) a0 a1) := by
 intro a0 a1 k
 have ih0 := slices_Index_string_string.mono_l k
 unfold slices_Index_string_string.f
 repeat' first
   | (with_reducible exact ih0 _ _ _ _)
   | (with_reducible exact LeO.refl _)
   | (with_reducible exact LeO.none _)
   | (with_reducible refine LeO.ite ?_ ?_)
   | (with_reducible refine LeO.bind ?_ (fun _ => ?_))
   | exact ih0 _ _ _ _
   | exact LeO.none _
   | refine LeO.ite ?_ ?_
   | refine LeO.bind ?_ (fun _ => ?_)
set_option maxHeartbeats 8000000 in
set_option maxRecDepth 100000 in
theorem slices_Index_string_string.calls (k : Nat) (A0 : Option Addr) (c0 : Nat) (l0 : List ByteArray) (a1 : ByteArray) (r : Int) (w : World) (hr0 : Kd.C Kd.string w A0 l0.length l0) (hc0 : l0.length ≤ c0) (h : slices_Index_string_string.f k l0 a1 = some r) :
  Calls Try.prog 129 #[.slice A0 l0.length c0, .string a1] w fun e w' => e = .returned (.int .i64 r) ∧ Drawn0 w w' := by
 have HR0 := A_ hr0
 have HC0 := A_ hc0
 clear hr0 hc0
 have H : (slices_Index_string_string.l0 k l0 a1 (l0.length : Int) 0) = some r := h
 clear h
 have H' := A_ H
 clear H
 go_enter Try.func129, Try.ntmps129
 go_wp2
 go_loopg [8] k (fun kq v8 w' => ∃ (x8_1 : Int), v8 = .int .i64 x8_1 ∧ Aside0 (slices_Index_string_string.l0 kq l0 a1 (l0.length : Int) x8_1 = some r) ∧ Aside0 (kq ≤ k) ∧ Drawn0 w w')
 case atStart => exact ⟨(0), z5_2_, H', ⟨Nat.le_refl _⟩, z5_3_⟩
 case round =>
  clear H'
  try clear c1
  try clear p2
  obtain ⟨x8_1, rfl, HA, HK1, ⟨m1, rfl⟩⟩ := hrel
  cases gk with
  | zero => exact absurd HA.out (by simp [slices_Index_string_string.l0])
  | succ k1 =>
   have H := HA.out
   clear HA
   simp only [slices_Index_string_string.l0] at H
   by_cases c3 : x8_1 < (l0.length : Int)
   ·
    rw [if_pos c3] at H
    have c3b0 := decide_eq_true c3
    clear c3
    by_cases c4 : 0 ≤ x8_1
    ·
     rw [if_pos c4] at H
     have c4b0 := decide_eq_true c4
     clear c4
     by_cases c5 : x8_1 < (l0.length : Int)
     ·
      rw [if_pos c5] at H
      have c5b0 := decide_eq_true c5
      clear c5
      by_cases c6 : a1.toList = (rdOf ByteArray.empty l0 x8_1).toList
      ·
       rw [if_pos c6] at H
       have c6b0 := beq_iff_eq.mpr c6
       have c6b1 := bne_eq_false_iff_eq.mpr c6
       clear c6
       obtain rfl := Option.some.inj H
       have p380 : 0 ≤ (x8_1 : Int) := of_decide_eq_true (by assumption)
       have q380 : x8_1 < (l0.length : Int) := of_decide_eq_true (by assumption)
       obtain ⟨ad380, e380, hx380_0⟩ := Kd.at_string HR0.out x8_1 p380 q380
       cases e380
       replace p380 := eq_true p380
       replace q380 := eq_true q380
       go_wp2
       go_ret
       exact ⟨z5_2_, z5_3_⟩
      ·
       rw [if_neg c6] at H
       have c6b0 : (a1.toList == (rdOf ByteArray.empty l0 x8_1).toList) = false := beq_eq_false_iff_ne.mpr c6
       have c6b1 : (a1.toList != (rdOf ByteArray.empty l0 x8_1).toList) = true := bne_iff_ne.mpr c6
       have H' := A_ H
       clear H
       have p380 : 0 ≤ (x8_1 : Int) := of_decide_eq_true (by assumption)
       have q380 : x8_1 < (l0.length : Int) := of_decide_eq_true (by assumption)
       obtain ⟨ad380, e380, hx380_0⟩ := Kd.at_string HR0.out x8_1 p380 q380
       cases e380
       replace p380 := eq_true p380
       replace q380 := eq_true q380
       go_wp2
       go_roundg k1
       case measure => have := HK1.out; omega
       case rel => exact ⟨(wrap64 (x8_1 + 1)), z5_2_, H', ⟨(by have := HK1.out; omega)⟩, z5_3_⟩
     ·
      rw [if_neg c5] at H
      exact absurd H (by simp)
    ·
     rw [if_neg c4] at H
     exact absurd H (by simp)
   ·
    rw [if_neg c3] at H
    have c3b0 := decide_eq_false c3
    clear c3
    obtain rfl := Option.some.inj H
    go_wp2
    go_ret
    exact ⟨z5_2_, z5_3_⟩
/-! ### slices_Contains_string_string: function 101 -/
def slices_Contains_string_string.f (k : Nat) (l0 : List ByteArray) (a1 : ByteArray) : Option (Bool) := (slices_Index_string_string.f k l0 a1).bind fun t381 => (some (decide (t381 ≥ 0)))
theorem slices_Contains_string_string.mono : ∀ a0 a1 k, LeO (slices_Contains_string_string.f k a0 a1) (slices_Contains_string_string.f (k + 1) a0 a1) := by
 intro a0 a1 k
 unfold slices_Contains_string_string.f
 repeat' first
   | (with_reducible exact slices_Index_string_string.mono _ _ _)
   | (with_reducible exact LeO.refl _)
   | (with_reducible exact LeO.none _)
   | (with_reducible refine LeO.ite ?_ ?_)
   | (with_reducible refine LeO.bind ?_ (fun _ => ?_))
   | exact LeO.none _
   | refine LeO.ite ?_ ?_
   | refine LeO.bind ?_ (fun _ => ?_)
set_option maxHeartbeats 8000000 in
set_option maxRecDepth 100000 in
theorem slices_Contains_string_string.calls (k : Nat) (A0 : Option Addr) (c0 : Nat) (l0 : List ByteArray) (a1 : ByteArray) (r : Bool) (w : World) (hr0 : Kd.C Kd.string w A0 l0.length l0) (hc0 : l0.length ≤ c0) (h : slices_Contains_string_string.f k l0 a1 = some r) :
  Calls Try.prog 101 #[.slice A0 l0.length c0, .string a1] w fun e w' => e = .returned (.bool r) ∧ Drawn0 w w' := by
 have HR0 := A_ hr0
 have HC0 := A_ hc0
 clear hr0 hc0
 have H : ((slices_Index_string_string.f k l0 a1).bind fun t381 => (some (decide (t381 ≥ 0)))) = some r := h
 clear h
 replace H := Option.bind_eq_some_iff.mp H
 obtain ⟨t381, A30, H⟩ := H
 try dsimp only at H
 have A3 := A_ A30
 clear A30
 obtain rfl := Option.some.inj H
 go_enter Try.func101, Try.ntmps101
 go_wp2_with (first | ((with_reducible refine gate_callee (f := 129) rfl ?_); refine goesL_ (some 7) rfl rfl Try.func129 (by kernel_rfl) rfl #[.slice A0 l0.length c0, .string a1] rfl z5_4_ ?_; (with_reducible refine (slices_Index_string_string.calls k _ _ l0 a1 t381 _ ?side1 ?side2 A3.out).mono ?_); (case side1 => repeat (first | exact HR0.out | (with_reducible refine Kd.C_alloc ?_ _) | (with_reducible refine Kd.C_drewN ?_ _) | (with_reducible refine Kd.C_drew ?_))); (case side2 => exact HC0.out); rintro e w' ⟨rfl, ⟨nd, rfl⟩⟩; refine ⟨_, rfl, ?_⟩))
 go_ret
 exact ⟨z5_2_, z5_3_⟩
end Go.Proofs.Ytenhgmddpkiliaa.PB

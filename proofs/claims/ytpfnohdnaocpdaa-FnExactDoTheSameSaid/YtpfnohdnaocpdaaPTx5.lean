import Derived.Test.YtpfnohdnaocpdaaPTx0
import Derived.Test.YtpfnohdnaocpdaaPTx4
namespace Go.Proofs.Ytpfnohdnaocpdaa.PT
open Go.RowKit Go.Proofs.YtpfnohdnaocpdaaW.PrintWords Go.Proofs.YtpfnohdnaocpdaaW.PrintLast Go.Proofs.YtpfnohdnaocpdaaW.PrintMore Go.Proofs.YtpfnohdnaocpdaaRP
attribute [local go_sem] max2_int min2_int max_two min_two max_three min_three max_four min_four Go.Proofs.YtpfnohdnaocpdaaRP.max_eight Go.Proofs.YtpfnohdnaocpdaaRP.tmod_len   -- for this text's walks alone
set_option linter.unusedVariables false
set_option linter.unusedSimpArgs false
theorem z5_1_ {P : Prop} (h : P := by repeat (first | (with_reducible first | exact HB.out | apply below_alloc | apply pw_below_drewN | apply below_drew1 | refine below_set ?_ GE237.out) | exact HB.out)) : P := h
theorem z5_2_ {P : Prop} (h : P := by repeat (first | (with_reducible first | exact HB.out | apply below_alloc | apply pw_below_drewN | apply below_drew1) | exact HB.out)) : P := h
theorem z5_3_ {P : Prop} (h : P := by (with_reducible repeat (first | refine blk_drewN ?_ _ | refine blk_drew ?_ | refine blk_alloc ?_ _)); exact BK237.out) : P := h
theorem z5_4_ {P : Prop} (h : P := by first | rfl | (simp; done) | (simp [*]; done) | (simp [isE_]; done)) : P := h
theorem z5_5_ {P : Prop} (h : P := by repeat (first | exact Drawn0.refl _ | apply Drawn0.step)) : P := h
/-! ### impl_SameTree: function 79 -/
def impl_SameTree.f (k : Nat) (l0_0 : List (S89)) (l1_0 : List (S89)) : Option (Bool) := (impl_Fork_122.f k l0_0 l1_0).bind fun t239 => (some t239)
theorem impl_SameTree.mono : ∀ a0 a1 k, LeO (impl_SameTree.f k a0 a1) (impl_SameTree.f (k + 1) a0 a1) := by
 intro a0 a1 k
 unfold impl_SameTree.f
 repeat' first
   | (with_reducible exact impl_Fork_122.mono _ _ _)
   | (with_reducible exact LeO.refl _)
   | (with_reducible exact LeO.none _)
   | (with_reducible refine LeO.ite ?_ ?_)
   | (with_reducible refine LeO.bind ?_ (fun _ => ?_))
   | exact LeO.none _
   | refine LeO.ite ?_ ?_
   | refine LeO.bind ?_ (fun _ => ?_)
set_option maxHeartbeats 8000000 in
set_option maxRecDepth 100000 in
theorem impl_SameTree.calls (k : Nat) (A0_0 : Option Addr) (c0_0 : Nat) (l0_0 : List (S89)) (A1_0 : Option Addr) (c1_0 : Nat) (l1_0 : List (S89)) (r : Bool) (w : World) (hr0_0 : Kd.C k89 w A0_0 l0_0.length l0_0) (hc0_0 : l0_0.length ≤ c0_0) (hr1_0 : Kd.C k89 w A1_0 l1_0.length l1_0) (hc1_0 : l1_0.length ≤ c1_0) (h : impl_SameTree.f k l0_0 l1_0 = some r) :
  Calls Try.prog 79 #[.agg #[.slice A0_0 l0_0.length c0_0], .agg #[.slice A1_0 l1_0.length c1_0]] w fun e w' => e = .returned (.bool r) ∧ Below w.heap.size w w' := by
 have hu34 := Try.underlying34
 have HR0_0 := A_ hr0_0
 have HC0_0 := A_ hc0_0
 clear hr0_0 hc0_0
 have HR1_0 := A_ hr1_0
 have HC1_0 := A_ hc1_0
 clear hr1_0 hc1_0
 have HB := A_ (Below.refl w.heap.size w)
 have H : ((impl_Fork_122.f k l0_0 l1_0).bind fun t239 => (some t239)) = some r := h
 clear h
 replace H := Option.bind_eq_some_iff.mp H
 obtain ⟨t239, A30, H⟩ := H
 try dsimp only at H
 have A3 := A_ A30
 clear A30
 obtain rfl := Option.some.inj H
 go_enter Try.func79, Try.ntmps79
 go_wp2_with (first | ((with_reducible refine gate_dst (N := 2) rfl ?_); refine box_event ?hg (N := 2) ?hd (cs := #[.slice A0_0 l0_0.length c0_0]) (t := 34) ?hr ?_; (case hd => rfl); (case hg => rfl); (case hr => first | (go_simp; done) | (go_simp; rfl)); intro gb237 hg w4 hbox hb; have _ := A_ (below_step z5_2_ hb); have _ := A_ (hbox); have _ := A_ ((by rw [hg]; exact (below_size z5_2_) : w.heap.size ≤ gb237)); have _ := A_ ((by rw [hg]; exact (below_size z5_2_) : w.heap.size ≤ gb237)); clear HB; rename_i HB BK237 GW237 GE237; clear hb hbox hg) | ((with_reducible refine gate_dst (N := 3) rfl ?_); refine box_event ?hg (N := 3) ?hd (cs := #[.slice A1_0 l1_0.length c1_0]) (t := 34) ?hr ?_; (case hd => rfl); (case hg => rfl); (case hr => first | (go_simp; done) | (go_simp; rfl)); intro gb238 hg w5 hbox hb; have _ := A_ (blk_below (g := gb237) (o := .cells #[.slice A0_0 l0_0.length c0_0] 34 (0, 0)) z5_3_ hb); have _ := A_ (below_step z5_1_ hb); have _ := A_ (hbox); have _ := A_ ((by rw [hg]; exact (below_size z5_1_) : w.heap.size ≤ gb238)); have _ := A_ ((by rw [hg]; exact (below_size z5_1_) : w.heap.size ≤ gb238)); have _ := A_ ((by rw [hg]; exact Nat.ne_of_lt (blk_lt (g := gb237) (o := .cells #[.slice A0_0 l0_0.length c0_0] 34 (0, 0)) z5_3_) : gb237 ≠ gb238)); have _ := A_ ((by rw [hg]; exact Nat.ne_of_gt (blk_lt (g := gb237) (o := .cells #[.slice A0_0 l0_0.length c0_0] 34 (0, 0)) z5_3_) : gb238 ≠ gb237)); clear BK237 HB; rename_i BK237 HB BK238 GW238 GE238 NB237_238 NB238_237; clear hb hbox hg; have hnb6 := NB237_238.out; have hnc6 := NB238_237.out; have hcz7_0 : w5.cell? ⟨gb237, 0, none⟩ = some (.slice A0_0 l0_0.length c0_0) := (blk_cell BK237.out 0).trans rfl; have hfz7_0 := blk_frozen BK237.out 0; have hcz8_0 : w5.cell? ⟨gb238, 0, none⟩ = some (.slice A1_0 l1_0.length c1_0) := (blk_cell BK238.out 0).trans rfl; have hfz8_0 := blk_frozen BK238.out 0) | ((with_reducible refine gate_callee (f := 122) rfl ?_); refine goesL_ (some 9) rfl rfl Try.func122 (by kernel_rfl) rfl #[.slice A0_0 l0_0.length c0_0, .slice A1_0 l1_0.length c1_0] rfl (by (try simp only [List.map_toArray, List.map_cons, List.map_nil]); first | done | rfl | (simp only [List.length_drop, List.length_take]; rfl)) ?_; (with_reducible refine (impl_Fork_122.calls k _ _ l0_0 _ _ l1_0 t239 _ ?side1 ?side2 ?side3 ?side4 A3.out).mono ?_); (case side1 => have hx_ := (Kd.C_below HR0_0.out HB.out); exact kc_); (case side2 => exact HC0_0.out); (case side3 => have hx_ := (Kd.C_below HR1_0.out HB.out); exact kc_); (case side4 => exact HC1_0.out); rintro e w' ⟨rfl, ⟨nd, rfl⟩⟩; refine ⟨_, rfl, ?_⟩))
 go_ret
 exact ⟨(by first | rfl | (simp [errW_none, errW_some] <;> rfl) | (simp [*, errW_none, errW_some] <;> rfl)), (by repeat (first | (with_reducible first | exact HB.out | apply below_alloc | apply pw_below_drewN | apply below_drew1 | refine below_set ?_ GE237.out | refine below_set ?_ GE238.out) | exact HB.out))⟩
/-! ### slices_Index_int16_int16: function 99 -/
def slices_Index_int16_int16.l0 : Nat → List Int → Int → Int → Int → Option (Int)
 | 0, _, _, _, _ => none
 | k + 1, x0, x1, x7, x8 => if x8 < x7 then (if 0 ≤ x8 then (if x8 < (x0.length : Int) then (if x1 = (rd x0 x8) then (some x8) else (slices_Index_int16_int16.l0 k x0 x1 x7 (wrap64 (x8 + 1)))) else (none)) else (none)) else (some (-1))
def slices_Index_int16_int16.f (k : Nat) (l0 : List Int) (a1 : Int) : Option (Int) := slices_Index_int16_int16.l0 k l0 a1 (l0.length : Int) 0
theorem slices_Index_int16_int16.mono_l : ∀ k, (∀ y0 y1 y2 y3, LeO (slices_Index_int16_int16.l0 k y0 y1 y2 y3) (slices_Index_int16_int16.l0 (k + 1) y0 y1 y2 y3))
 | 0 => fun _ _ _ _ r h => by simp [slices_Index_int16_int16.l0] at h
 | k + 1 => by
  have ih0 := slices_Index_int16_int16.mono_l k
  ·
   intro y0 y1 y2 y3
   unfold slices_Index_int16_int16.l0
   repeat' first
   | (with_reducible exact ih0 _ _ _ _)
   | (with_reducible exact LeO.refl _)
   | (with_reducible exact LeO.none _)
   | (with_reducible refine LeO.ite ?_ ?_)
   | (with_reducible refine LeO.bind ?_ (fun _ => ?_))
   | exact ih0 _ _ _ _
   | exact LeO.none _
   | refine LeO.ite ?_ ?_
   | refine LeO.bind ?_ (fun _ => ?_)
theorem slices_Index_int16_int16.mono : ∀ a0 a1 k, LeO (slices_Index_int16_int16.f k a0 a1) (slices_Index_int16_int16.f (k + 1) a0 a1) := by
 intro a0 a1 k
 have ih0 := slices_Index_int16_int16.mono_l k
 unfold slices_Index_int16_int16.f
 repeat' first
   | (with_reducible exact ih0 _ _ _ _)
   | (with_reducible exact LeO.refl _)
   | (with_reducible exact LeO.none _)
   | (with_reducible refine LeO.ite ?_ ?_)
   | (with_reducible refine LeO.bind ?_ (fun _ => ?_))
   | exact ih0 _ _ _ _
   | exact LeO.none _
   | refine LeO.ite ?_ ?_
   | refine LeO.bind ?_ (fun _ => ?_)
set_option maxHeartbeats 8000000 in
set_option maxRecDepth 100000 in
theorem slices_Index_int16_int16.calls (k : Nat) (A0 : Option Addr) (c0 : Nat) (l0 : List Int) (a1 : Int) (r : Int) (w : World) (hr0 : Kd.C (Kd.int .i16) w A0 l0.length l0) (hc0 : l0.length ≤ c0) (h : slices_Index_int16_int16.f k l0 a1 = some r) :
  Calls Try.prog 99 #[.slice A0 l0.length c0, .int .i16 a1] w fun e w' => e = .returned (.int .i64 r) ∧ Drawn0 w w' := by
 have HR0 := A_ hr0
 have HC0 := A_ hc0
 clear hr0 hc0
 have H : (slices_Index_int16_int16.l0 k l0 a1 (l0.length : Int) 0) = some r := h
 clear h
 have H' := A_ H
 clear H
 go_enter Try.func99, Try.ntmps99
 go_wp2
 go_loopg [8] k (fun kq v8 w' => ∃ (x8_1 : Int), v8 = .int .i64 x8_1 ∧ Aside0 (slices_Index_int16_int16.l0 kq l0 a1 (l0.length : Int) x8_1 = some r) ∧ Aside0 (kq ≤ k) ∧ Drawn0 w w')
 case atStart => exact ⟨(0), z5_4_, H', ⟨Nat.le_refl _⟩, z5_5_⟩
 case round =>
  clear H'
  try clear p2
  obtain ⟨x8_1, rfl, HA, HK1, ⟨m1, rfl⟩⟩ := hrel
  cases gk with
  | zero => exact absurd HA.out (by simp [slices_Index_int16_int16.l0])
  | succ k1 =>
   have H := HA.out
   clear HA
   simp only [slices_Index_int16_int16.l0] at H
   by_cases c3 : x8_1 < (l0.length : Int)
   ·
    rw [if_pos c3] at H
    have c3b0 := decide_eq_true c3
    clear c3
    by_cases c4 : 0 ≤ x8_1
    ·
     rw [if_pos c4] at H
     have c4b0 := decide_eq_true c4
     clear c4
     by_cases c5 : x8_1 < (l0.length : Int)
     ·
      rw [if_pos c5] at H
      have c5b0 := decide_eq_true c5
      clear c5
      by_cases c6 : a1 = (rd l0 x8_1)
      ·
       rw [if_pos c6] at H
       have c6b0 := beq_iff_eq.mpr c6
       have c6b1 := bne_eq_false_iff_eq.mpr c6
       clear c6
       obtain rfl := Option.some.inj H
       have p240 : 0 ≤ (x8_1 : Int) := of_decide_eq_true (by assumption)
       have q240 : x8_1 < (l0.length : Int) := of_decide_eq_true (by assumption)
       obtain ⟨ad240, e240, hx240_0⟩ := Kd.at_int HR0.out x8_1 p240 q240
       cases e240
       replace p240 := eq_true p240
       replace q240 := eq_true q240
       go_wp2
       go_ret
       exact ⟨z5_4_, z5_5_⟩
      ·
       rw [if_neg c6] at H
       have c6b0 : (a1 == (rd l0 x8_1)) = false := beq_eq_false_iff_ne.mpr c6
       have c6b1 : (a1 != (rd l0 x8_1)) = true := bne_iff_ne.mpr c6
       have H' := A_ H
       clear H
       have p240 : 0 ≤ (x8_1 : Int) := of_decide_eq_true (by assumption)
       have q240 : x8_1 < (l0.length : Int) := of_decide_eq_true (by assumption)
       obtain ⟨ad240, e240, hx240_0⟩ := Kd.at_int HR0.out x8_1 p240 q240
       cases e240
       replace p240 := eq_true p240
       replace q240 := eq_true q240
       go_wp2
       go_roundg k1
       case measure => have := HK1.out; omega
       case rel => exact ⟨(wrap64 (x8_1 + 1)), z5_4_, H', ⟨(by have := HK1.out; omega)⟩, z5_5_⟩
     ·
      rw [if_neg c5] at H
      exact absurd H (by simp)
    ·
     rw [if_neg c4] at H
     exact absurd H (by simp)
   ·
    rw [if_neg c3] at H
    have c3b0 := decide_eq_false c3
    clear c3
    obtain rfl := Option.some.inj H
    go_wp2
    go_ret
    exact ⟨z5_4_, z5_5_⟩
end Go.Proofs.Ytpfnohdnaocpdaa.PT

import Derived.Test.YtpfnohdnaocpdaaPTx0
import Derived.Test.YtpfnohdnaocpdaaPTx1
namespace Go.Proofs.Ytpfnohdnaocpdaa.PT
open Go.RowKit Go.Proofs.YtpfnohdnaocpdaaW.PrintWords Go.Proofs.YtpfnohdnaocpdaaW.PrintLast Go.Proofs.YtpfnohdnaocpdaaW.PrintMore Go.Proofs.YtpfnohdnaocpdaaRP
attribute [local go_sem] max2_int min2_int max_two min_two max_three min_three max_four min_four Go.Proofs.YtpfnohdnaocpdaaRP.max_eight Go.Proofs.YtpfnohdnaocpdaaRP.tmod_len   -- for this text's walks alone
set_option linter.unusedVariables false
set_option linter.unusedSimpArgs false
theorem z2_1_ {P : Prop} (h : P := by repeat (first | (with_reducible first | exact HB.out | apply below_alloc | apply pw_below_drewN | apply below_drew1) | exact HB.out)) : P := h
theorem z2_2_ {P : Prop} (h : P := by first | rfl | (simp; done) | (simp [*]; done) | (simp [isE_]; done)) : P := h
theorem z2_3_ {P : Prop} (h : P := by repeat (first | exact Drawn0.refl _ | apply Drawn0.step)) : P := h
theorem z2_4_ {P : Prop} (h : P := by (with_reducible repeat (first | apply Kd.R_alloc | apply Kd.R_drewN | apply Kd.R_drew)); exact HO_3.out) : P := h
theorem z2_5_ {P : Prop} (h : P := by repeat (first | (with_reducible first | exact HB.out | apply below_alloc | apply pw_below_drewN | apply below_drew1 | refine below_set ?_ GE140.out) | exact HB.out)) : P := h
theorem z2_6_ {P : Prop} (h : P := by (with_reducible repeat (first | refine blk_drewN ?_ _ | refine blk_drew ?_ | refine blk_alloc ?_ _)); exact BK140.out) : P := h
theorem z2_7_ {P : Prop} (h : P := by (try simp only [List.map_toArray, List.map_cons, List.map_nil]); first | done | rfl | (simp only [List.length_drop, List.length_take]; rfl)) : P := h
theorem z2_8_ {P : Prop} (h : P := by (with_reducible repeat (first | apply Kd.R_alloc | apply Kd.R_drewN | apply Kd.R_drew)); exact HO155.out) : P := h
theorem z2_9_ {P : Prop} (h : P := by repeat (first | (with_reducible first | exact HB.out | apply below_alloc | apply pw_below_drewN | apply below_drew1 | refine below_set ?_ GE140.out | refine below_set ?_ GE141.out) | exact HB.out)) : P := h
theorem z2_10_ {P : Prop} (h : P := by (try simp only [hl4_1]); (try simp only [hl4_2]); (with_reducible repeat (first | apply Kd.R_alloc | apply Kd.R_drewN | apply Kd.R_drew)); exact HO_4.out) : P := h
theorem z2_11_ {P : Prop} (h : P := by (with_reducible repeat (first | apply Kd.R_alloc | apply Kd.R_drewN | apply Kd.R_drew)); exact HO_4.out) : P := h
theorem z2_12_ {P : Prop} (h : P := by have := HK1.out; have := HK2.out; omega) : P := h
theorem z2_13_ {P : Prop} (h : P := by first | rfl | (simp [errW_none, errW_some] <;> rfl) | (simp [*, errW_none, errW_some] <;> rfl)) : P := h
theorem z2_14_ {P : Prop} (h : P := by (try simp only [hl4_1]); (try simp only [hl4_2]); (with_reducible repeat (first | apply Kd.R_alloc | apply Kd.R_drewN | apply Kd.R_drew)); exact HO_3.out) : P := h
theorem z2_15_ {P : Prop} (h : P := by (with_reducible repeat (first | refine blk_drewN ?_ _ | refine blk_drew ?_ | refine blk_alloc ?_ _)); exact BK141.out) : P := h
theorem z2_16_ {P : Prop} (h : P := by injection e151) : P := h
/-! ### laws_eqTree: function 21 -/
def laws_eqTree.f (k : Nat) (l0_0 : List (S89)) (l1_0 : List (S89)) : Option (Bool) := (laws_eqForkS.f k l0_0 l1_0).bind fun t142 => (if t142 = true then (some true) else (some false))
theorem laws_eqTree.mono : ∀ a0 a1 k, LeO (laws_eqTree.f k a0 a1) (laws_eqTree.f (k + 1) a0 a1) := by
 intro a0 a1 k
 unfold laws_eqTree.f
 repeat' first
   | (with_reducible exact laws_eqForkS.mono _ _ _)
   | (with_reducible exact LeO.refl _)
   | (with_reducible exact LeO.none _)
   | (with_reducible refine LeO.ite ?_ ?_)
   | (with_reducible refine LeO.bind ?_ (fun _ => ?_))
   | exact LeO.none _
   | refine LeO.ite ?_ ?_
   | refine LeO.bind ?_ (fun _ => ?_)
set_option maxHeartbeats 8000000 in
set_option maxRecDepth 100000 in
theorem laws_eqTree.calls (k : Nat) (A0_0 : Option Addr) (c0_0 : Nat) (l0_0 : List (S89)) (A1_0 : Option Addr) (c1_0 : Nat) (l1_0 : List (S89)) (r : Bool) (w : World) (hr0_0 : Kd.C k89 w A0_0 l0_0.length l0_0) (hc0_0 : l0_0.length ≤ c0_0) (hr1_0 : Kd.C k89 w A1_0 l1_0.length l1_0) (hc1_0 : l1_0.length ≤ c1_0) (h : laws_eqTree.f k l0_0 l1_0 = some r) :
  Calls Try.prog 21 #[.agg #[.slice A0_0 l0_0.length c0_0], .agg #[.slice A1_0 l1_0.length c1_0]] w fun e w' => e = .returned (.bool r) ∧ Below w.heap.size w w' := by
 have hu34 := Try.underlying34
 have HR0_0 := A_ hr0_0
 have HC0_0 := A_ hc0_0
 clear hr0_0 hc0_0
 have HR1_0 := A_ hr1_0
 have HC1_0 := A_ hc1_0
 clear hr1_0 hc1_0
 have HB := A_ (Below.refl w.heap.size w)
 have H : ((laws_eqForkS.f k l0_0 l1_0).bind fun t142 => (if t142 = true then (some true) else (some false))) = some r := h
 clear h
 replace H := Option.bind_eq_some_iff.mp H
 obtain ⟨t142, A30, H⟩ := H
 try dsimp only at H
 have A3 := A_ A30
 clear A30
 by_cases c4 : t142 = true
 ·
  subst c4
  have H1 := H; rw [if_pos rfl] at H1
  clear H
  have H := H1
  clear H1
  obtain rfl := Option.some.inj H
  go_enter Try.func21, Try.ntmps21
  go_wp2_with (first | ((with_reducible refine gate_dst (N := 2) rfl ?_); refine box_event ?hg (N := 2) ?hd (cs := #[.slice A0_0 l0_0.length c0_0]) (t := 34) ?hr ?_; (case hd => rfl); (case hg => rfl); (case hr => first | (go_simp; done) | (go_simp; rfl)); intro gb140 hg w5 hbox hb; have _ := A_ (below_step z2_1_ hb); have _ := A_ (hbox); have _ := A_ ((by rw [hg]; exact (below_size z2_1_) : w.heap.size ≤ gb140)); have _ := A_ ((by rw [hg]; exact (below_size z2_1_) : w.heap.size ≤ gb140)); clear HB; rename_i HB BK140 GW140 GE140; clear hb hbox hg) | ((with_reducible refine gate_dst (N := 3) rfl ?_); refine box_event ?hg (N := 3) ?hd (cs := #[.slice A1_0 l1_0.length c1_0]) (t := 34) ?hr ?_; (case hd => rfl); (case hg => rfl); (case hr => first | (go_simp; done) | (go_simp; rfl)); intro gb141 hg w6 hbox hb; have _ := A_ (blk_below (g := gb140) (o := .cells #[.slice A0_0 l0_0.length c0_0] 34 (0, 0)) z2_6_ hb); have _ := A_ (below_step z2_5_ hb); have _ := A_ (hbox); have _ := A_ ((by rw [hg]; exact (below_size z2_5_) : w.heap.size ≤ gb141)); have _ := A_ ((by rw [hg]; exact (below_size z2_5_) : w.heap.size ≤ gb141)); have _ := A_ ((by rw [hg]; exact Nat.ne_of_lt (blk_lt (g := gb140) (o := .cells #[.slice A0_0 l0_0.length c0_0] 34 (0, 0)) z2_6_) : gb140 ≠ gb141)); have _ := A_ ((by rw [hg]; exact Nat.ne_of_gt (blk_lt (g := gb140) (o := .cells #[.slice A0_0 l0_0.length c0_0] 34 (0, 0)) z2_6_) : gb141 ≠ gb140)); clear BK140 HB; rename_i BK140 HB BK141 GW141 GE141 NB140_141 NB141_140; clear hb hbox hg; have hnb7 := NB140_141.out; have hnc7 := NB141_140.out; have hcz8_0 : w6.cell? ⟨gb140, 0, none⟩ = some (.slice A0_0 l0_0.length c0_0) := (blk_cell BK140.out 0).trans rfl; have hfz8_0 := blk_frozen BK140.out 0; have hcz9_0 : w6.cell? ⟨gb141, 0, none⟩ = some (.slice A1_0 l1_0.length c1_0) := (blk_cell BK141.out 0).trans rfl; have hfz9_0 := blk_frozen BK141.out 0) | ((with_reducible refine gate_callee (f := 64) rfl ?_); refine goesL_ (some 9) rfl rfl Try.func64 (by kernel_rfl) rfl #[.slice A0_0 l0_0.length c0_0, .slice A1_0 l1_0.length c1_0] rfl z2_7_ ?_; (with_reducible refine (laws_eqForkS.calls k _ _ l0_0 _ _ l1_0 true _ ?side1 ?side2 ?side3 ?side4 A3.out).mono ?_); (case side1 => have hx_ := (Kd.C_below HR0_0.out HB.out); exact kc_); (case side2 => exact HC0_0.out); (case side3 => have hx_ := (Kd.C_below HR1_0.out HB.out); exact kc_); (case side4 => exact HC1_0.out); rintro e w10 ⟨rfl, hb⟩; refine ⟨_, rfl, ?_⟩; have _ := A_ (blk_below (g := gb140) (o := .cells #[.slice A0_0 l0_0.length c0_0] 34 (0, 0)) z2_6_ hb); have _ := A_ (blk_below (g := gb141) (o := .cells #[.slice A1_0 l1_0.length c1_0] 34 (0, 0)) z2_15_ hb); have _ := A_ (below_step z2_9_ hb); clear BK140 BK141 HB; rename_i BK140 BK141 HB; (try clear hb)))
  go_ret
  exact ⟨z2_13_, z2_9_⟩
 ·
  replace c4 := Bool.eq_false_iff.mpr c4
  subst c4
  have H1 := H; rw [if_neg (show ¬ (false = true) by decide)] at H1
  clear H
  have H := H1
  clear H1
  obtain rfl := Option.some.inj H
  go_enter Try.func21, Try.ntmps21
  go_wp2_with (first | ((with_reducible refine gate_dst (N := 2) rfl ?_); refine box_event ?hg (N := 2) ?hd (cs := #[.slice A0_0 l0_0.length c0_0]) (t := 34) ?hr ?_; (case hd => rfl); (case hg => rfl); (case hr => first | (go_simp; done) | (go_simp; rfl)); intro gb140 hg w11 hbox hb; have _ := A_ (below_step z2_1_ hb); have _ := A_ (hbox); have _ := A_ ((by rw [hg]; exact (below_size z2_1_) : w.heap.size ≤ gb140)); have _ := A_ ((by rw [hg]; exact (below_size z2_1_) : w.heap.size ≤ gb140)); clear HB; rename_i HB BK140 GW140 GE140; clear hb hbox hg) | ((with_reducible refine gate_dst (N := 3) rfl ?_); refine box_event ?hg (N := 3) ?hd (cs := #[.slice A1_0 l1_0.length c1_0]) (t := 34) ?hr ?_; (case hd => rfl); (case hg => rfl); (case hr => first | (go_simp; done) | (go_simp; rfl)); intro gb141 hg w12 hbox hb; have _ := A_ (blk_below (g := gb140) (o := .cells #[.slice A0_0 l0_0.length c0_0] 34 (0, 0)) z2_6_ hb); have _ := A_ (below_step z2_5_ hb); have _ := A_ (hbox); have _ := A_ ((by rw [hg]; exact (below_size z2_5_) : w.heap.size ≤ gb141)); have _ := A_ ((by rw [hg]; exact (below_size z2_5_) : w.heap.size ≤ gb141)); have _ := A_ ((by rw [hg]; exact Nat.ne_of_lt (blk_lt (g := gb140) (o := .cells #[.slice A0_0 l0_0.length c0_0] 34 (0, 0)) z2_6_) : gb140 ≠ gb141)); have _ := A_ ((by rw [hg]; exact Nat.ne_of_gt (blk_lt (g := gb140) (o := .cells #[.slice A0_0 l0_0.length c0_0] 34 (0, 0)) z2_6_) : gb141 ≠ gb140)); clear BK140 HB; rename_i BK140 HB BK141 GW141 GE141 NB140_141 NB141_140; clear hb hbox hg; have hnb13 := NB140_141.out; have hnc13 := NB141_140.out; have hcz14_0 : w12.cell? ⟨gb140, 0, none⟩ = some (.slice A0_0 l0_0.length c0_0) := (blk_cell BK140.out 0).trans rfl; have hfz14_0 := blk_frozen BK140.out 0; have hcz15_0 : w12.cell? ⟨gb141, 0, none⟩ = some (.slice A1_0 l1_0.length c1_0) := (blk_cell BK141.out 0).trans rfl; have hfz15_0 := blk_frozen BK141.out 0) | ((with_reducible refine gate_callee (f := 64) rfl ?_); refine goesL_ (some 9) rfl rfl Try.func64 (by kernel_rfl) rfl #[.slice A0_0 l0_0.length c0_0, .slice A1_0 l1_0.length c1_0] rfl z2_7_ ?_; (with_reducible refine (laws_eqForkS.calls k _ _ l0_0 _ _ l1_0 false _ ?side1 ?side2 ?side3 ?side4 A3.out).mono ?_); (case side1 => have hx_ := (Kd.C_below HR0_0.out HB.out); exact kc_); (case side2 => exact HC0_0.out); (case side3 => have hx_ := (Kd.C_below HR1_0.out HB.out); exact kc_); (case side4 => exact HC1_0.out); rintro e w16 ⟨rfl, hb⟩; refine ⟨_, rfl, ?_⟩; have _ := A_ (blk_below (g := gb140) (o := .cells #[.slice A0_0 l0_0.length c0_0] 34 (0, 0)) z2_6_ hb); have _ := A_ (blk_below (g := gb141) (o := .cells #[.slice A1_0 l1_0.length c1_0] 34 (0, 0)) z2_15_ hb); have _ := A_ (below_step z2_9_ hb); clear BK140 BK141 HB; rename_i BK140 BK141 HB; (try clear hb)))
  go_ret
  exact ⟨z2_13_, z2_9_⟩
/-! ### spec_l00In: function 109 -/
def spec_l00In.f (a0 : Int) (a1 : Int) (a2 : Int) : Option (Bool) := if a0 ≥ a1 then (some (decide (a0 ≤ a2))) else (some false)
set_option maxHeartbeats 8000000 in
set_option maxRecDepth 100000 in
theorem spec_l00In.calls (a0 : Int) (a1 : Int) (a2 : Int) (r : Bool) (w : World) (h : spec_l00In.f a0 a1 a2 = some r) :
  Calls Try.prog 109 #[.int .i64 a0, .int .i64 a1, .int .i64 a2] w fun e w' => e = .returned (.bool r) ∧ Drawn0 w w' := by
 have H : (if a0 ≥ a1 then (some (decide (a0 ≤ a2))) else (some false)) = some r := h
 clear h
 by_cases c4 : a0 ≥ a1
 ·
  rw [if_pos c4] at H
  have c4b0 := decide_eq_true c4
  clear c4
  obtain rfl := Option.some.inj H
  go_enter Try.func109, Try.ntmps109
  go_wp2
  go_ret
  exact ⟨z2_2_, z2_3_⟩
 ·
  rw [if_neg c4] at H
  have c4b0 := decide_eq_false c4
  clear c4
  obtain rfl := Option.some.inj H
  go_enter Try.func109, Try.ntmps109
  go_wp2
  go_ret
  exact ⟨z2_2_, z2_3_⟩
/-! ### spec_l06Ok: function 66 -/
mutual
def spec_l06Ok.l0 : Nat → List (S34) → Int → Int → Option (Bool)
 | 0, _, _, _ => none
 | k + 1, x0, x3, x4 => if x4 < x3 then (if 0 < (x0.length : Int) then (if 0 ≤ x4 then (if x4 < (((rd_T34 x0 0).f0).length : Int) then (spec_l06Ok.l1 k x0 x3 x4 [rd_T89 ((rd_T34 x0 0).f0) x4] 0) else (none)) else (none)) else (none)) else (some true)
def spec_l06Ok.l1 : Nat → List (S34) → Int → Int → List (S89) → Int → Option (Bool)
 | 0, _, _, _, _, _ => none
 | k + 1, x0, x3, x4, x5, x6 => if x6 < 3 then (if 0 < (x5.length : Int) then (if 0 ≤ x6 then ((spec_l00In.f (wrap64 (rd [(rd_T89 x5 0).f2.f0, (rd_T89 x5 0).f2.f1, (rd_T89 x5 0).f2.f2] x6)) 0 (wrap64 (x3 - 1))).bind fun t150 => (if t150 = true then (spec_l06Ok.l1 k x0 x3 x4 x5 (wrap64 (x6 + 1))) else (some false))) else (none)) else (none)) else (if 0 < (x5.length : Int) then (if ((rd_T89 x5 0).f0) = 1 then (if ((rd_T89 x5 0).f1) = 0 then (spec_l06Ok.l0 k x0 x3 (wrap64 (x4 + 1))) else (some false)) else (if ((rd_T89 x5 0).f0) = 2 then (if ((rd_T89 x5 0).f1) < (-1) then (some false) else (if ((rd_T89 x5 0).f1) > 1 then (some false) else (if ((rd_T89 x5 0).f2.f1) = 0 then (if ((rd_T89 x5 0).f2.f2) = 0 then (spec_l06Ok.l0 k x0 x3 (wrap64 (x4 + 1))) else (some false)) else (some false)))) else (some false))) else (none))
end
def spec_l06Ok.f (k : Nat) (l0 : List (S34)) : Option (Bool) := if 0 < (l0.length : Int) then ((spec_l00In.f (((rd_T34 l0 0).f0).length : Int) 1 60).bind fun t144 => (if t144 = true then (spec_l06Ok.l0 k l0 (((rd_T34 l0 0).f0).length : Int) 0) else (some false))) else (none)
theorem spec_l06Ok.mono_l : ∀ k, (∀ y0 y1 y2, LeO (spec_l06Ok.l0 k y0 y1 y2) (spec_l06Ok.l0 (k + 1) y0 y1 y2)) ∧ (∀ y0 y1 y2 y3 y4, LeO (spec_l06Ok.l1 k y0 y1 y2 y3 y4) (spec_l06Ok.l1 (k + 1) y0 y1 y2 y3 y4))
 | 0 => ⟨fun _ _ _ r h => by simp [spec_l06Ok.l0] at h, fun _ _ _ _ _ r h => by simp [spec_l06Ok.l1] at h⟩
 | k + 1 => by
  obtain ⟨ih0, ih1⟩ := spec_l06Ok.mono_l k
  refine ⟨?_, ?_⟩
  ·
   intro y0 y1 y2
   unfold spec_l06Ok.l0
   repeat' first
   | (with_reducible exact ih0 _ _ _)
   | (with_reducible exact ih1 _ _ _ _ _)
   | (with_reducible exact LeO.refl _)
   | (with_reducible exact LeO.none _)
   | (with_reducible refine LeO.ite ?_ ?_)
   | (with_reducible refine LeO.bind ?_ (fun _ => ?_))
   | exact ih0 _ _ _
   | exact ih1 _ _ _ _ _
   | exact LeO.none _
   | refine LeO.ite ?_ ?_
   | refine LeO.bind ?_ (fun _ => ?_)
  ·
   intro y0 y1 y2 y3 y4
   unfold spec_l06Ok.l1
   repeat' first
   | (with_reducible exact ih0 _ _ _)
   | (with_reducible exact ih1 _ _ _ _ _)
   | (with_reducible exact LeO.refl _)
   | (with_reducible exact LeO.none _)
   | (with_reducible refine LeO.ite ?_ ?_)
   | (with_reducible refine LeO.bind ?_ (fun _ => ?_))
   | exact ih0 _ _ _
   | exact ih1 _ _ _ _ _
   | exact LeO.none _
   | refine LeO.ite ?_ ?_
   | refine LeO.bind ?_ (fun _ => ?_)
theorem spec_l06Ok.mono : ∀ a0 k, LeO (spec_l06Ok.f k a0) (spec_l06Ok.f (k + 1) a0) := by
 intro a0 k
 obtain ⟨ih0, ih1⟩ := spec_l06Ok.mono_l k
 unfold spec_l06Ok.f
 repeat' first
   | (with_reducible exact ih0 _ _ _)
   | (with_reducible exact ih1 _ _ _ _ _)
   | (with_reducible exact LeO.refl _)
   | (with_reducible exact LeO.none _)
   | (with_reducible refine LeO.ite ?_ ?_)
   | (with_reducible refine LeO.bind ?_ (fun _ => ?_))
   | exact ih0 _ _ _
   | exact ih1 _ _ _ _ _
   | exact LeO.none _
   | refine LeO.ite ?_ ?_
   | refine LeO.bind ?_ (fun _ => ?_)
set_option maxHeartbeats 8000000 in
set_option maxRecDepth 100000 in
theorem spec_l06Ok.calls (k : Nat) (A0 : Option Addr) (c0 : Nat) (l0 : List (S34)) (r : Bool) (w : World) (hr0 : Kd.C k34 w A0 l0.length l0) (hc0 : l0.length ≤ c0) (h : spec_l06Ok.f k l0 = some r) :
  Calls Try.prog 66 #[.pointer A0] w fun e w' => e = .returned (.bool r) ∧ Drawn0 w w' := by
 have HR0 := A_ hr0
 have HC0 := A_ hc0
 clear hr0 hc0
 have H : (if 0 < (l0.length : Int) then ((spec_l00In.f (((rd_T34 l0 0).f0).length : Int) 1 60).bind fun t144 => (if t144 = true then (spec_l06Ok.l0 k l0 (((rd_T34 l0 0).f0).length : Int) 0) else (some false))) else (none)) = some r := h
 clear h
 by_cases c2 : 0 < (l0.length : Int)
 ·
  rw [if_pos c2] at H
  have c2b0 := decide_eq_true c2
  have c2b1 : decide (0 < l0.length) = true := decide_eq_true (by omega)
  clear c2
  replace H := Option.bind_eq_some_iff.mp H
  obtain ⟨t144, A30, H⟩ := H
  try dsimp only at H
  have A3 := A_ A30
  clear A30
  by_cases c4 : t144 = true
  ·
   subst c4
   have H1 := H; rw [if_pos rfl] at H1
   clear H
   have H := H1
   clear H1
   have H' := A_ H
   clear H
   have q143 : 0 < (l0.length : Int) := of_decide_eq_true (by assumption)
   obtain ⟨ad143, A143_0, c143_0, e143, hx143_0, hl143_0, hi143_0⟩ := rp_T34 HR0.out q143
   cases e143
   have HR143_0 := A_ hi143_0
   have HC143_0 := A_ hl143_0
   clear hi143_0 hl143_0
   go_enter Try.func66, Try.ntmps66
   go_wp2_with (first | ((with_reducible refine gate_callee (f := 109) rfl ?_); refine goesL_ (some 13) rfl rfl Try.func109 (by kernel_rfl) rfl #[.int .i64 (((rd_T34 l0 0).f0).length : Int), .int .i64 1, .int .i64 60] rfl z2_7_ ?_; (with_reducible refine (spec_l00In.calls (((rd_T34 l0 0).f0).length : Int) 1 60 true _ A3.out).mono ?_); rintro e w' ⟨rfl, ⟨nd, rfl⟩⟩; refine ⟨_, rfl, ?_⟩))
   go_loopg [4] k (fun kq v4 w' => ∃ (x4_1 : Int), v4 = .int .i64 x4_1 ∧ Aside0 (spec_l06Ok.l0 kq l0 (((rd_T34 l0 0).f0).length : Int) x4_1 = some r) ∧ Aside0 (kq ≤ k) ∧ Drawn0 w w')
   case atStart => exact ⟨(0), z2_2_, H', ⟨Nat.le_refl _⟩, z2_3_⟩
   case round =>
    clear H'
    try clear c1
    try clear q1
    try clear hx1
    try clear c2
    try clear c2b0
    try clear c2b1
    try clear p2
    try clear c4
    try clear hx143_0
    try clear q143
    obtain ⟨x4_1, rfl, HA, HK1, ⟨m1, rfl⟩⟩ := hrel
    cases gk with
    | zero => exact absurd HA.out (by simp [spec_l06Ok.l0])
    | succ k1 =>
     have H := HA.out
     clear HA
     simp only [spec_l06Ok.l0] at H
     (repeat (first | rw [rd1_T89] at H))
     by_cases c5 : x4_1 < (((rd_T34 l0 0).f0).length : Int)
     ·
      rw [if_pos c5] at H
      have c5b0 := decide_eq_true c5
      clear c5
      by_cases c6 : 0 < (l0.length : Int)
      ·
       rw [if_pos c6] at H
       have c6b0 := decide_eq_true c6
       have c6b1 : decide (0 < l0.length) = true := decide_eq_true (by omega)
       clear c6
       by_cases c7 : 0 ≤ x4_1
       ·
        rw [if_pos c7] at H
        have c7b0 := decide_eq_true c7
        clear c7
        by_cases c8 : x4_1 < (((rd_T34 l0 0).f0).length : Int)
        ·
         rw [if_pos c8] at H
         have c8b0 := decide_eq_true c8
         clear c8
         have H' := A_ H
         clear H
         have q145 : 0 < (l0.length : Int) := of_decide_eq_true (by assumption)
         obtain ⟨ad145, A145_0, c145_0, e145, hx145_0, hl145_0, hi145_0⟩ := rp_T34 HR0.out q145
         obtain rfl : ad143 = ad145 := (by injection e145)
         have HR145_0 := A_ hi145_0
         have HC145_0 := A_ hl145_0
         clear hi145_0 hl145_0
         have p146 : 0 ≤ (x4_1 : Int) := of_decide_eq_true (by assumption)
         have q146 : x4_1 < (((rd_T34 l0 0).f0).length : Int) := of_decide_eq_true (by assumption)
         obtain ⟨ad146, e146, hx146_0, hx146_1, hx146_2, hx146_3, hx146_4⟩ := at_T89 HR145_0.out x4_1 p146 q146
         cases e146
         replace p146 := eq_true p146
         replace q146 := eq_true q146
         have HR147 := A_ (show Kd.C k89 w (some (Addr.add ad146 (x4_1.toNat * 5))) [rd_T89 ((rd_T34 l0 0).f0) x4_1].length [rd_T89 ((rd_T34 l0 0).f0) x4_1] from Kd.C_el k89 z89 HR145_0.out (x4_1 : Int) (of_eq_true p146) (of_eq_true q146))
         go_wp2
         go_loopg [6] k1 (fun kq v6 w' => ∃ (x6_2 : Int), v6 = .int .i64 x6_2 ∧ Aside0 (spec_l06Ok.l1 kq l0 (((rd_T34 l0 0).f0).length : Int) x4_1 [rd_T89 ((rd_T34 l0 0).f0) x4_1] x6_2 = some r) ∧ Aside0 (kq ≤ k1) ∧ Drawn0 w w')
         case atStart => exact ⟨(0), z2_2_, H', ⟨Nat.le_refl _⟩, z2_3_⟩
         case round =>
          clear H'
          try clear c1
          try clear p1
          try clear q1
          try clear hx1
          try clear c2
          try clear c2b0
          try clear c2b1
          try clear p2
          try clear c4
          try clear c5
          try clear c5b0
          try clear c6
          try clear c6b0
          try clear c6b1
          try clear c7
          try clear c7b0
          try clear c8
          try clear c8b0
          try clear hx143_0
          try clear hx145_0
          try clear hx146_0
          try clear hx146_1
          try clear hx146_2
          try clear hx146_3
          try clear hx146_4
          try clear p146
          try clear p2
          try clear q1
          try clear q143
          try clear q145
          try clear q146
          obtain ⟨x6_2, rfl, HA, HK2, ⟨m2, rfl⟩⟩ := hrel
          cases gk with
          | zero => exact absurd HA.out (by simp [spec_l06Ok.l1])
          | succ k2 =>
           have H := HA.out
           clear HA
           simp only [spec_l06Ok.l1] at H
           (repeat (first | rw [rd1_T89] at H))
           by_cases c9 : x6_2 < 3
           ·
            rw [if_pos c9] at H
            have c9b0 := decide_eq_true c9
            clear c9
            by_cases c10 : 0 < ([rd_T89 ((rd_T34 l0 0).f0) x4_1].length : Int)
            ·
             rw [if_pos c10] at H
             have c10b0 := decide_eq_true c10
             have c10b1 : decide (0 < [rd_T89 ((rd_T34 l0 0).f0) x4_1].length) = true := decide_eq_true (by omega)
             clear c10
             by_cases c11 : 0 ≤ x6_2
             ·
              rw [if_pos c11] at H
              have c11b0 := decide_eq_true c11
              clear c11
              replace H := Option.bind_eq_some_iff.mp H
              obtain ⟨t150, A120, H⟩ := H
              try dsimp only at H
              have A12 := A_ A120
              clear A120
              by_cases c13 : t150 = true
              ·
               subst c13
               have H1 := H; rw [if_pos rfl] at H1
               clear H
               have H := H1
               clear H1
               have H' := A_ H
               clear H
               have q148 : 0 < ([rd_T89 ((rd_T34 l0 0).f0) x4_1].length : Int) := of_decide_eq_true (by assumption)
               obtain ⟨ad148, e148, hx148_0, hx148_1, hx148_2, hx148_3, hx148_4⟩ := rp_T89 HR147.out q148
               (try simp only [rd1_T89] at hx148_0 hx148_1 hx148_2 hx148_3 hx148_4)
               obtain rfl : (Addr.add ad146 (x4_1.toNat * 5)) = ad148 := (by injection e148)
               have p149 : 0 ≤ (x6_2 : Int) := of_decide_eq_true (by assumption)
               have q149 : (x6_2 : Int) < 3 := of_decide_eq_true (by assumption)
               have hx149_0 := cell_arr3 hx148_2 hx148_3 hx148_4 x6_2 p149 q149
               (try simp only [Nat.zero_add, Nat.add_zero] at hx149_0)
               replace p149 := eq_true p149
               replace q149 := eq_true q149
               go_wp2_with (first | ((with_reducible refine gate_callee (f := 109) rfl ?_); refine goesL_ (some 39) rfl rfl Try.func109 (by kernel_rfl) rfl #[.int .i64 (wrap64 (rd [(rd_T89 ((rd_T34 l0 0).f0) x4_1).f2.f0, (rd_T89 ((rd_T34 l0 0).f0) x4_1).f2.f1, (rd_T89 ((rd_T34 l0 0).f0) x4_1).f2.f2] x6_2)), .int .i64 0, .int .i64 (wrap64 ((((rd_T34 l0 0).f0).length : Int) - 1))] rfl z2_7_ ?_; (with_reducible refine (spec_l00In.calls (wrap64 (rd [(rd_T89 ((rd_T34 l0 0).f0) x4_1).f2.f0, (rd_T89 ((rd_T34 l0 0).f0) x4_1).f2.f1, (rd_T89 ((rd_T34 l0 0).f0) x4_1).f2.f2] x6_2)) 0 (wrap64 ((((rd_T34 l0 0).f0).length : Int) - 1)) true _ A12.out).mono ?_); rintro e w' ⟨rfl, ⟨nd, rfl⟩⟩; refine ⟨_, rfl, ?_⟩))
               go_roundg k2
               case measure => have := HK1.out; have := HK2.out; omega
               case rel => exact ⟨(wrap64 (x6_2 + 1)), z2_2_, H', ⟨z2_12_⟩, z2_3_⟩
              ·
               replace c13 := Bool.eq_false_iff.mpr c13
               subst c13
               have H1 := H; rw [if_neg (show ¬ (false = true) by decide)] at H1
               clear H
               have H := H1
               clear H1
               obtain rfl := Option.some.inj H
               have q148 : 0 < ([rd_T89 ((rd_T34 l0 0).f0) x4_1].length : Int) := of_decide_eq_true (by assumption)
               obtain ⟨ad148, e148, hx148_0, hx148_1, hx148_2, hx148_3, hx148_4⟩ := rp_T89 HR147.out q148
               (try simp only [rd1_T89] at hx148_0 hx148_1 hx148_2 hx148_3 hx148_4)
               obtain rfl : (Addr.add ad146 (x4_1.toNat * 5)) = ad148 := (by injection e148)
               have p149 : 0 ≤ (x6_2 : Int) := of_decide_eq_true (by assumption)
               have q149 : (x6_2 : Int) < 3 := of_decide_eq_true (by assumption)
               have hx149_0 := cell_arr3 hx148_2 hx148_3 hx148_4 x6_2 p149 q149
               (try simp only [Nat.zero_add, Nat.add_zero] at hx149_0)
               replace p149 := eq_true p149
               replace q149 := eq_true q149
               go_wp2_with (first | ((with_reducible refine gate_callee (f := 109) rfl ?_); refine goesL_ (some 39) rfl rfl Try.func109 (by kernel_rfl) rfl #[.int .i64 (wrap64 (rd [(rd_T89 ((rd_T34 l0 0).f0) x4_1).f2.f0, (rd_T89 ((rd_T34 l0 0).f0) x4_1).f2.f1, (rd_T89 ((rd_T34 l0 0).f0) x4_1).f2.f2] x6_2)), .int .i64 0, .int .i64 (wrap64 ((((rd_T34 l0 0).f0).length : Int) - 1))] rfl z2_7_ ?_; (with_reducible refine (spec_l00In.calls (wrap64 (rd [(rd_T89 ((rd_T34 l0 0).f0) x4_1).f2.f0, (rd_T89 ((rd_T34 l0 0).f0) x4_1).f2.f1, (rd_T89 ((rd_T34 l0 0).f0) x4_1).f2.f2] x6_2)) 0 (wrap64 ((((rd_T34 l0 0).f0).length : Int) - 1)) false _ A12.out).mono ?_); rintro e w' ⟨rfl, ⟨nd, rfl⟩⟩; refine ⟨_, rfl, ?_⟩))
               go_ret
               exact ⟨z2_2_, z2_3_⟩
             ·
              rw [if_neg c11] at H
              exact absurd H (by simp)
            ·
             rw [if_neg c10] at H
             exact absurd H (by simp)
           ·
            rw [if_neg c9] at H
            have c9b0 := decide_eq_false c9
            clear c9
            by_cases c14 : 0 < ([rd_T89 ((rd_T34 l0 0).f0) x4_1].length : Int)
            ·
             rw [if_pos c14] at H
             have c14b0 := decide_eq_true c14
             have c14b1 : decide (0 < [rd_T89 ((rd_T34 l0 0).f0) x4_1].length) = true := decide_eq_true (by omega)
             clear c14
             by_cases c15 : ((rd_T89 ((rd_T34 l0 0).f0) x4_1).f0) = 1
             ·
              rw [if_pos c15] at H
              have c15b0 := beq_iff_eq.mpr c15
              have c15b1 := bne_eq_false_iff_eq.mpr c15
              clear c15
              by_cases c16 : ((rd_T89 ((rd_T34 l0 0).f0) x4_1).f1) = 0
              ·
               rw [if_pos c16] at H
               have c16b0 := beq_iff_eq.mpr c16
               have c16b1 := bne_eq_false_iff_eq.mpr c16
               clear c16
               have H' := A_ H
               clear H
               have q151 : 0 < ([rd_T89 ((rd_T34 l0 0).f0) x4_1].length : Int) := of_decide_eq_true (by assumption)
               obtain ⟨ad151, e151, hx151_0, hx151_1, hx151_2, hx151_3, hx151_4⟩ := rp_T89 HR147.out q151
               (try simp only [rd1_T89] at hx151_0 hx151_1 hx151_2 hx151_3 hx151_4)
               obtain rfl : (Addr.add ad146 (x4_1.toNat * 5)) = ad151 := z2_16_
               go_wp2
               go_roundg k2
               case measure => have := HK1.out; have := HK2.out; omega
               case rel => exact ⟨(wrap64 (x4_1 + 1)), z2_2_, H', ⟨z2_12_⟩, z2_3_⟩
              ·
               rw [if_neg c16] at H
               have c16b0 : (((rd_T89 ((rd_T34 l0 0).f0) x4_1).f1) == 0) = false := beq_eq_false_iff_ne.mpr c16
               have c16b1 : (((rd_T89 ((rd_T34 l0 0).f0) x4_1).f1) != 0) = true := bne_iff_ne.mpr c16
               obtain rfl := Option.some.inj H
               have q151 : 0 < ([rd_T89 ((rd_T34 l0 0).f0) x4_1].length : Int) := of_decide_eq_true (by assumption)
               obtain ⟨ad151, e151, hx151_0, hx151_1, hx151_2, hx151_3, hx151_4⟩ := rp_T89 HR147.out q151
               (try simp only [rd1_T89] at hx151_0 hx151_1 hx151_2 hx151_3 hx151_4)
               obtain rfl : (Addr.add ad146 (x4_1.toNat * 5)) = ad151 := z2_16_
               go_wp2
               go_ret
               exact ⟨z2_2_, z2_3_⟩
             ·
              rw [if_neg c15] at H
              have c15b0 : (((rd_T89 ((rd_T34 l0 0).f0) x4_1).f0) == 1) = false := beq_eq_false_iff_ne.mpr c15
              have c15b1 : (((rd_T89 ((rd_T34 l0 0).f0) x4_1).f0) != 1) = true := bne_iff_ne.mpr c15
              by_cases c17 : ((rd_T89 ((rd_T34 l0 0).f0) x4_1).f0) = 2
              ·
               rw [if_pos c17] at H
               have c17b0 := beq_iff_eq.mpr c17
               have c17b1 := bne_eq_false_iff_eq.mpr c17
               clear c17
               by_cases c18 : ((rd_T89 ((rd_T34 l0 0).f0) x4_1).f1) < (-1)
               ·
                rw [if_pos c18] at H
                have c18b0 := decide_eq_true c18
                clear c18
                obtain rfl := Option.some.inj H
                have q151 : 0 < ([rd_T89 ((rd_T34 l0 0).f0) x4_1].length : Int) := of_decide_eq_true (by assumption)
                obtain ⟨ad151, e151, hx151_0, hx151_1, hx151_2, hx151_3, hx151_4⟩ := rp_T89 HR147.out q151
                (try simp only [rd1_T89] at hx151_0 hx151_1 hx151_2 hx151_3 hx151_4)
                obtain rfl : (Addr.add ad146 (x4_1.toNat * 5)) = ad151 := z2_16_
                go_wp2
                go_ret
                exact ⟨z2_2_, z2_3_⟩
               ·
                rw [if_neg c18] at H
                have c18b0 := decide_eq_false c18
                clear c18
                by_cases c19 : ((rd_T89 ((rd_T34 l0 0).f0) x4_1).f1) > 1
                ·
                 rw [if_pos c19] at H
                 have c19b0 := decide_eq_true c19
                 clear c19
                 obtain rfl := Option.some.inj H
                 have q151 : 0 < ([rd_T89 ((rd_T34 l0 0).f0) x4_1].length : Int) := of_decide_eq_true (by assumption)
                 obtain ⟨ad151, e151, hx151_0, hx151_1, hx151_2, hx151_3, hx151_4⟩ := rp_T89 HR147.out q151
                 (try simp only [rd1_T89] at hx151_0 hx151_1 hx151_2 hx151_3 hx151_4)
                 obtain rfl : (Addr.add ad146 (x4_1.toNat * 5)) = ad151 := z2_16_
                 go_wp2
                 go_ret
                 exact ⟨z2_2_, z2_3_⟩
                ·
                 rw [if_neg c19] at H
                 have c19b0 := decide_eq_false c19
                 clear c19
                 by_cases c20 : ((rd_T89 ((rd_T34 l0 0).f0) x4_1).f2.f1) = 0
                 ·
                  rw [if_pos c20] at H
                  have c20b0 := beq_iff_eq.mpr c20
                  have c20b1 := bne_eq_false_iff_eq.mpr c20
                  clear c20
                  by_cases c21 : ((rd_T89 ((rd_T34 l0 0).f0) x4_1).f2.f2) = 0
                  ·
                   rw [if_pos c21] at H
                   have c21b0 := beq_iff_eq.mpr c21
                   have c21b1 := bne_eq_false_iff_eq.mpr c21
                   clear c21
                   have H' := A_ H
                   clear H
                   have q151 : 0 < ([rd_T89 ((rd_T34 l0 0).f0) x4_1].length : Int) := of_decide_eq_true (by assumption)
                   obtain ⟨ad151, e151, hx151_0, hx151_1, hx151_2, hx151_3, hx151_4⟩ := rp_T89 HR147.out q151
                   (try simp only [rd1_T89] at hx151_0 hx151_1 hx151_2 hx151_3 hx151_4)
                   obtain rfl : (Addr.add ad146 (x4_1.toNat * 5)) = ad151 := z2_16_
                   go_wp2
                   go_roundg k2
                   case measure => have := HK1.out; have := HK2.out; omega
                   case rel => exact ⟨(wrap64 (x4_1 + 1)), z2_2_, H', ⟨z2_12_⟩, z2_3_⟩
                  ·
                   rw [if_neg c21] at H
                   have c21b0 : (((rd_T89 ((rd_T34 l0 0).f0) x4_1).f2.f2) == 0) = false := beq_eq_false_iff_ne.mpr c21
                   have c21b1 : (((rd_T89 ((rd_T34 l0 0).f0) x4_1).f2.f2) != 0) = true := bne_iff_ne.mpr c21
                   obtain rfl := Option.some.inj H
                   have q151 : 0 < ([rd_T89 ((rd_T34 l0 0).f0) x4_1].length : Int) := of_decide_eq_true (by assumption)
                   obtain ⟨ad151, e151, hx151_0, hx151_1, hx151_2, hx151_3, hx151_4⟩ := rp_T89 HR147.out q151
                   (try simp only [rd1_T89] at hx151_0 hx151_1 hx151_2 hx151_3 hx151_4)
                   obtain rfl : (Addr.add ad146 (x4_1.toNat * 5)) = ad151 := z2_16_
                   go_wp2
                   go_ret
                   exact ⟨z2_2_, z2_3_⟩
                 ·
                  rw [if_neg c20] at H
                  have c20b0 : (((rd_T89 ((rd_T34 l0 0).f0) x4_1).f2.f1) == 0) = false := beq_eq_false_iff_ne.mpr c20
                  have c20b1 : (((rd_T89 ((rd_T34 l0 0).f0) x4_1).f2.f1) != 0) = true := bne_iff_ne.mpr c20
                  obtain rfl := Option.some.inj H
                  have q151 : 0 < ([rd_T89 ((rd_T34 l0 0).f0) x4_1].length : Int) := of_decide_eq_true (by assumption)
                  obtain ⟨ad151, e151, hx151_0, hx151_1, hx151_2, hx151_3, hx151_4⟩ := rp_T89 HR147.out q151
                  (try simp only [rd1_T89] at hx151_0 hx151_1 hx151_2 hx151_3 hx151_4)
                  obtain rfl : (Addr.add ad146 (x4_1.toNat * 5)) = ad151 := z2_16_
                  go_wp2
                  go_ret
                  exact ⟨z2_2_, z2_3_⟩
              ·
               rw [if_neg c17] at H
               have c17b0 : (((rd_T89 ((rd_T34 l0 0).f0) x4_1).f0) == 2) = false := beq_eq_false_iff_ne.mpr c17
               have c17b1 : (((rd_T89 ((rd_T34 l0 0).f0) x4_1).f0) != 2) = true := bne_iff_ne.mpr c17
               obtain rfl := Option.some.inj H
               have q151 : 0 < ([rd_T89 ((rd_T34 l0 0).f0) x4_1].length : Int) := of_decide_eq_true (by assumption)
               obtain ⟨ad151, e151, hx151_0, hx151_1, hx151_2, hx151_3, hx151_4⟩ := rp_T89 HR147.out q151
               (try simp only [rd1_T89] at hx151_0 hx151_1 hx151_2 hx151_3 hx151_4)
               obtain rfl : (Addr.add ad146 (x4_1.toNat * 5)) = ad151 := z2_16_
               go_wp2
               go_ret
               exact ⟨z2_2_, z2_3_⟩
            ·
             rw [if_neg c14] at H
             exact absurd H (by simp)
        ·
         rw [if_neg c8] at H
         exact absurd H (by simp)
       ·
        rw [if_neg c7] at H
        exact absurd H (by simp)
      ·
       rw [if_neg c6] at H
       exact absurd H (by simp)
     ·
      rw [if_neg c5] at H
      have c5b0 := decide_eq_false c5
      clear c5
      obtain rfl := Option.some.inj H
      go_wp2
      go_ret
      exact ⟨z2_2_, z2_3_⟩
  ·
   replace c4 := Bool.eq_false_iff.mpr c4
   subst c4
   have H1 := H; rw [if_neg (show ¬ (false = true) by decide)] at H1
   clear H
   have H := H1
   clear H1
   obtain rfl := Option.some.inj H
   have q143 : 0 < (l0.length : Int) := of_decide_eq_true (by assumption)
   obtain ⟨ad143, A143_0, c143_0, e143, hx143_0, hl143_0, hi143_0⟩ := rp_T34 HR0.out q143
   cases e143
   have HR143_0 := A_ hi143_0
   have HC143_0 := A_ hl143_0
   clear hi143_0 hl143_0
   go_enter Try.func66, Try.ntmps66
   go_wp2_with (first | ((with_reducible refine gate_callee (f := 109) rfl ?_); refine goesL_ (some 13) rfl rfl Try.func109 (by kernel_rfl) rfl #[.int .i64 (((rd_T34 l0 0).f0).length : Int), .int .i64 1, .int .i64 60] rfl z2_7_ ?_; (with_reducible refine (spec_l00In.calls (((rd_T34 l0 0).f0).length : Int) 1 60 false _ A3.out).mono ?_); rintro e w' ⟨rfl, ⟨nd, rfl⟩⟩; refine ⟨_, rfl, ?_⟩))
   go_ret
   exact ⟨z2_2_, z2_3_⟩
 ·
  rw [if_neg c2] at H
  exact absurd H (by simp)
/-! ### spec_l06Ways: function 68 -/
def spec_l06Ways.f (l0 : List (S89)) : Option (Int) := if 0 < (l0.length : Int) then (if ((rd_T89 l0 0).f0) = 1 then (some 3) else (some 1)) else (none)
set_option maxHeartbeats 8000000 in
set_option maxRecDepth 100000 in
theorem spec_l06Ways.calls (A0 : Option Addr) (c0 : Nat) (l0 : List (S89)) (r : Int) (w : World) (hr0 : Kd.C k89 w A0 l0.length l0) (hc0 : l0.length ≤ c0) (h : spec_l06Ways.f l0 = some r) :
  Calls Try.prog 68 #[.pointer A0] w fun e w' => e = .returned (.int .i64 r) ∧ Drawn0 w w' := by
 have HR0 := A_ hr0
 have HC0 := A_ hc0
 clear hr0 hc0
 have H : (if 0 < (l0.length : Int) then (if ((rd_T89 l0 0).f0) = 1 then (some 3) else (some 1)) else (none)) = some r := h
 clear h
 by_cases c2 : 0 < (l0.length : Int)
 ·
  rw [if_pos c2] at H
  have c2b0 := decide_eq_true c2
  have c2b1 : decide (0 < l0.length) = true := decide_eq_true (by omega)
  clear c2
  by_cases c3 : ((rd_T89 l0 0).f0) = 1
  ·
   rw [if_pos c3] at H
   have c3b0 := beq_iff_eq.mpr c3
   have c3b1 := bne_eq_false_iff_eq.mpr c3
   clear c3
   obtain rfl := Option.some.inj H
   have q152 : 0 < (l0.length : Int) := of_decide_eq_true (by assumption)
   obtain ⟨ad152, e152, hx152_0, hx152_1, hx152_2, hx152_3, hx152_4⟩ := rp_T89 HR0.out q152
   cases e152
   go_enter Try.func68, Try.ntmps68
   go_wp2
   go_ret
   exact ⟨z2_2_, z2_3_⟩
  ·
   rw [if_neg c3] at H
   have c3b0 : (((rd_T89 l0 0).f0) == 1) = false := beq_eq_false_iff_ne.mpr c3
   have c3b1 : (((rd_T89 l0 0).f0) != 1) = true := bne_iff_ne.mpr c3
   obtain rfl := Option.some.inj H
   have q152 : 0 < (l0.length : Int) := of_decide_eq_true (by assumption)
   obtain ⟨ad152, e152, hx152_0, hx152_1, hx152_2, hx152_3, hx152_4⟩ := rp_T89 HR0.out q152
   cases e152
   go_enter Try.func68, Try.ntmps68
   go_wp2
   go_ret
   exact ⟨z2_2_, z2_3_⟩
 ·
  rw [if_neg c2] at H
  exact absurd H (by simp)
/-! ### spec_l06Reached: function 95 -/
mutual
def spec_l06Reached.l0 : Nat → List (S34) → List Int → List Bool → Int → Option (List Int)
 | 0, _, _, _, _ => none
 | k + 1, x0, x3, x4, x5 => if x5 < (x3.length : Int) then (if 0 < (x0.length : Int) then (if 0 ≤ x5 then (if 0 ≤ (rd x3 x5) then (if (rd x3 x5) < (((rd_T34 x0 0).f0).length : Int) then (spec_l06Reached.l1 k x0 x3 x4 x5 [rd_T89 ((rd_T34 x0 0).f0) (rd x3 x5)] 0) else (none)) else (none)) else (none)) else (none)) else (some x3)
def spec_l06Reached.l1 : Nat → List (S34) → List Int → List Bool → Int → List (S89) → Int → Option (List Int)
 | 0, _, _, _, _, _, _ => none
 | k + 1, x0, x3, x4, x5, x6, x7 => (spec_l06Ways.f x6).bind fun t165 => (if x7 < t165 then (if 0 < (x6.length : Int) then (if 0 ≤ x7 then (if x7 < 3 then (if 0 ≤ (rd [(rd_T89 x6 0).f2.f0, (rd_T89 x6 0).f2.f1, (rd_T89 x6 0).f2.f2] x7) then (if (rd [(rd_T89 x6 0).f2.f0, (rd_T89 x6 0).f2.f1, (rd_T89 x6 0).f2.f2] x7) < (x4.length : Int) then (if (rdOf false x4 (rd [(rd_T89 x6 0).f2.f0, (rd_T89 x6 0).f2.f1, (rd_T89 x6 0).f2.f2] x7) = true) then (spec_l06Reached.l1 k x0 x3 x4 x5 x6 (wrap64 (x7 + 1))) else (if x3.length < 70368744177664 then (spec_l06Reached.l1 k x0 (x3 ++ [rd [(rd_T89 x6 0).f2.f0, (rd_T89 x6 0).f2.f1, (rd_T89 x6 0).f2.f2] x7]) (x4.set ((rd [(rd_T89 x6 0).f2.f0, (rd_T89 x6 0).f2.f1, (rd_T89 x6 0).f2.f2] x7) : Int).toNat true) x5 x6 (wrap64 (x7 + 1))) else (none))) else (none)) else (none)) else (none)) else (none)) else (none)) else (spec_l06Reached.l0 k x0 x3 x4 (wrap64 (x5 + 1))))
end
def spec_l06Reached.f (k : Nat) (l0 : List (S34)) : Option (List Int) := if 0 < (l0.length : Int) then (if 0 ≤ (((rd_T34 l0 0).f0).length : Int) then (if ((((rd_T34 l0 0).f0).length : Int) : Int).toNat ≤ 281474976710656 then ((some (List.replicate ((((rd_T34 l0 0).f0).length : Int) : Int).toNat false : List Bool)).bind fun y157 => (if 0 < (y157.length : Int) then (spec_l06Reached.l0 k l0 (([0] : List Int)) (y157.set (0 : Int).toNat true) 0) else (none))) else (none)) else (none)) else (none)
theorem spec_l06Reached.mono_l : ∀ k, (∀ y0 y1 y2 y3, LeO (spec_l06Reached.l0 k y0 y1 y2 y3) (spec_l06Reached.l0 (k + 1) y0 y1 y2 y3)) ∧ (∀ y0 y1 y2 y3 y4 y5, LeO (spec_l06Reached.l1 k y0 y1 y2 y3 y4 y5) (spec_l06Reached.l1 (k + 1) y0 y1 y2 y3 y4 y5))
 | 0 => ⟨fun _ _ _ _ r h => by simp [spec_l06Reached.l0] at h, fun _ _ _ _ _ _ r h => by simp [spec_l06Reached.l1] at h⟩
 | k + 1 => by
  obtain ⟨ih0, ih1⟩ := spec_l06Reached.mono_l k
  refine ⟨?_, ?_⟩
  ·
   intro y0 y1 y2 y3
   unfold spec_l06Reached.l0
   repeat' first
   | (with_reducible exact ih0 _ _ _ _)
   | (with_reducible exact ih1 _ _ _ _ _ _)
   | (with_reducible exact LeO.refl _)
   | (with_reducible exact LeO.none _)
   | (with_reducible refine LeO.ite ?_ ?_)
   | (with_reducible refine LeO.bind ?_ (fun _ => ?_))
   | exact ih0 _ _ _ _
   | exact ih1 _ _ _ _ _ _
   | exact LeO.none _
   | refine LeO.ite ?_ ?_
   | refine LeO.bind ?_ (fun _ => ?_)
  ·
   intro y0 y1 y2 y3 y4 y5
   unfold spec_l06Reached.l1
   repeat' first
   | (with_reducible exact ih0 _ _ _ _)
   | (with_reducible exact ih1 _ _ _ _ _ _)
   | (with_reducible exact LeO.refl _)
   | (with_reducible exact LeO.none _)
   | (with_reducible refine LeO.ite ?_ ?_)
   | (with_reducible refine LeO.bind ?_ (fun _ => ?_))
   | exact ih0 _ _ _ _
   | exact ih1 _ _ _ _ _ _
   | exact LeO.none _
   | refine LeO.ite ?_ ?_
   | refine LeO.bind ?_ (fun _ => ?_)
theorem spec_l06Reached.mono : ∀ a0 k, LeO (spec_l06Reached.f k a0) (spec_l06Reached.f (k + 1) a0) := by
 intro a0 k
 obtain ⟨ih0, ih1⟩ := spec_l06Reached.mono_l k
 unfold spec_l06Reached.f
 repeat' first
   | (with_reducible exact ih0 _ _ _ _)
   | (with_reducible exact ih1 _ _ _ _ _ _)
   | (with_reducible exact LeO.refl _)
   | (with_reducible exact LeO.none _)
   | (with_reducible refine LeO.ite ?_ ?_)
   | (with_reducible refine LeO.bind ?_ (fun _ => ?_))
   | exact ih0 _ _ _ _
   | exact ih1 _ _ _ _ _ _
   | exact LeO.none _
   | refine LeO.ite ?_ ?_
   | refine LeO.bind ?_ (fun _ => ?_)
set_option maxHeartbeats 8000000 in
set_option maxRecDepth 100000 in
theorem spec_l06Reached.calls (k : Nat) (A0 : Option Addr) (c0 : Nat) (l0 : List (S34)) (r : List Int) (w : World) (hr0 : Kd.C k34 w A0 l0.length l0) (hc0 : l0.length ≤ c0) (h : spec_l06Reached.f k l0 = some r) :
  Calls Try.prog 95 #[.pointer A0] w fun e w' => ∃ v0_ : Value, e = .returned (v0_) ∧ Kd.R (Kd.int .i16) 85 w' w.heap.size (fun _ => True) v0_ r ∧ Below w.heap.size w w' := by
 have HR0 := A_ hr0
 have HC0 := A_ hc0
 clear hr0 hc0
 have HB := A_ (Below.refl w.heap.size w)
 have H : (if 0 < (l0.length : Int) then (if 0 ≤ (((rd_T34 l0 0).f0).length : Int) then (if ((((rd_T34 l0 0).f0).length : Int) : Int).toNat ≤ 281474976710656 then ((some (List.replicate ((((rd_T34 l0 0).f0).length : Int) : Int).toNat false : List Bool)).bind fun y157 => (if 0 < (y157.length : Int) then (spec_l06Reached.l0 k l0 (([0] : List Int)) (y157.set (0 : Int).toNat true) 0) else (none))) else (none)) else (none)) else (none)) = some r := h
 clear h
 obtain ⟨y153, hy153⟩ : ∃ y_ : List Int, y_ = (([0] : List Int)) := ⟨_, rfl⟩
 replace H : (if 0 < (l0.length : Int) then (if 0 ≤ (((rd_T34 l0 0).f0).length : Int) then (if ((((rd_T34 l0 0).f0).length : Int) : Int).toNat ≤ 281474976710656 then ((some (List.replicate ((((rd_T34 l0 0).f0).length : Int) : Int).toNat false : List Bool)).bind fun y157 => (if 0 < (y157.length : Int) then (spec_l06Reached.l0 k l0 y153 (y157.set (0 : Int).toNat true) 0) else (none))) else (none)) else (none)) else (none)) = some r := by first | (rw [hy153]; with_reducible exact H) | (have H2_ := (Option.bind_some _ _).symm.trans H; rw [hy153]; with_reducible exact H2_) | (have H2_ := (Option.bind_some _ _).symm.trans H; with_reducible exact H2_) | with_reducible exact H | (rw [hy153]; exact H) | exact H
 have Ny153 := A_ hy153
 clear hy153
 by_cases c2 : 0 < (l0.length : Int)
 ·
  rw [if_pos c2] at H
  have c2b0 := decide_eq_true c2
  have c2b1 : decide (0 < l0.length) = true := decide_eq_true (by omega)
  clear c2
  by_cases c3 : 0 ≤ (((rd_T34 l0 0).f0).length : Int)
  ·
   rw [if_pos c3] at H
   have c3b0 := eq_true c3
   have c3b1 := decide_eq_true c3
   clear c3
   by_cases c4 : ((((rd_T34 l0 0).f0).length : Int) : Int).toNat ≤ 281474976710656
   ·
    rw [if_pos c4] at H
    have c4b0 := eq_true c4
    have c4b1 := decide_eq_true c4
    clear c4
    obtain ⟨y157, hy157⟩ : ∃ y_ : List Bool, y_ = (List.replicate ((((rd_T34 l0 0).f0).length : Int) : Int).toNat false) := ⟨_, rfl⟩
    replace H : (if 0 < (y157.length : Int) then (spec_l06Reached.l0 k l0 y153 (y157.set (0 : Int).toNat true) 0) else (none)) = some r := by first | (rw [hy157]; with_reducible exact H) | (have H2_ := (Option.bind_some _ _).symm.trans H; rw [hy157]; with_reducible exact H2_) | (have H2_ := (Option.bind_some _ _).symm.trans H; with_reducible exact H2_) | with_reducible exact H | (rw [hy157]; exact H) | exact H
    have Ny157 := A_ hy157
    clear hy157
    by_cases c5 : 0 < (y157.length : Int)
    ·
     rw [if_pos c5] at H
     have c5b0 := decide_eq_true c5
     have c5b1 : decide (0 < y157.length) = true := decide_eq_true (by omega)
     clear c5
     obtain ⟨y160, hy160⟩ : ∃ y_ : List Bool, y_ = (y157.set (0 : Int).toNat true) := ⟨_, rfl⟩
     replace H : (spec_l06Reached.l0 k l0 y153 y160 0) = some r := by first | (rw [hy160]; with_reducible exact H) | (have H2_ := (Option.bind_some _ _).symm.trans H; rw [hy160]; with_reducible exact H2_) | (have H2_ := (Option.bind_some _ _).symm.trans H; with_reducible exact H2_) | with_reducible exact H | (rw [hy160]; exact H) | exact H
     have Ny160 := A_ hy160
     clear hy160
     have H' := A_ H
     clear H
     go_enter Try.func95, Try.ntmps95
     go_wp2_with (first | ((with_reducible refine gate_dst (N := 8) rfl ?_); refine Kd.R_lit (Kd.int .i16) _ 85 ?hg (N := 8) ?hd (xs := ([0] : List Int)) (inner := [.int .i16 0]) (ok := fun _ => True) (okp := fun _ => True) ?hr ?hp (fun _ hk => hk) trivial (Below.refl _ _) (Nat.le_refl _) (by simp) ?_; (case hd => rfl); (case hg => rfl); (case hr => first | (go_simp; done) | (go_simp; rfl)); (case hp => exact (Reps.one (show Kd.M (Kd.int .i16) _ _ _ 0 [.int .i16 0] from rfl) (Reps.none _ _))); intro v154 w7 ho8 hb hg_ hnew_; clear hg_ hnew_; (first | rw [← Ny153.out] at ho8 | (simp only [Int.reduceToNat] at ho8; rw [← Ny153.out] at ho8)); have _ := A_ (Kd.R_lower ho8 (below_size z2_1_)); have _ := A_ (below_step z2_1_ hb); clear HB; rename_i HO155 HB; clear hb ho8; have q156 : 0 < (l0.length : Int) := of_decide_eq_true (by assumption); obtain ⟨ad156, A156_0, c156_0, e156, hx156_0, hl156_0, hi156_0⟩ := rp_T34 HR0.out q156; cases e156; replace hx156_0 := cel HB.out hx156_0; have HR156_0 := A_ hi156_0; have HC156_0 := A_ hl156_0; clear hi156_0 hl156_0) | ((with_reducible refine gate_dst (N := 14) rfl ?_); refine Kd.R_make Kd.bool _ 4 rfl (N := 14) rfl 190 _ _ rfl (((rd_T34 l0 0).f0).length : Int) rfl rfl Try.underlying190 (.bool false) 1 info4 rfl (by decide) (by omega) false (ok := fun _ => True) (okp := fun _ => True) rfl (fun _ hk => hk) trivial (of_decide_eq_true (by assumption)) (Nat.le_trans (Nat.mul_le_mul_right _ (of_decide_eq_true (by assumption) : (((rd_T34 l0 0).f0).length : Int).toNat ≤ 281474976710656)) (by omega)) (Below.refl _ _) (Nat.le_refl _) ?_; intro v158 w9 ho10 hb hg_ hnew_; clear hg_ hnew_; (first | rw [← Ny157.out] at ho10 | (simp only [Int.reduceToNat] at ho10; rw [← Ny157.out] at ho10)); have _ := A_ (Kd.R_below z2_8_ hb); have _ := A_ (Kd.R_lower ho10 (below_size z2_1_)); have _ := A_ (below_step z2_1_ hb); clear HO155 HB; rename_i HO155 HO159 HB; clear hb ho10; have p6 : 0 ≤ (0 : Int) := (by omega); have q6 : (0 : Int) < ((y157.length : Int) : Int) := of_decide_eq_true (by assumption); have qi6 : (0 < y157.length) = True := eq_true (by omega); obtain ⟨go6, co6, eo6, gb6, gl6, cl6, HG6⟩ := Kd.R_form HO159.out (by omega); (first | cases eo6 | (injection eo6 with ea_ en_ ec_; (first | subst ea_ | (injection ea_ with ea_; subst ea_)); subst ec_; clear en_)); have GB6 := A_ gb6; have GG6 := A_ HG6; clear gb6 gl6 HG6; obtain ⟨hx6_0, hf6_0⟩ := Kd.R_celln false HO159.out (0 : Int) p6 q6; (try rw [show ((0 : Int)).toNat = 0 from rfl] at hx6_0); (try simp only [Nat.reduceMul, Nat.zero_mul, Nat.zero_add, Nat.reduceAdd] at hx6_0); (try rw [show ((0 : Int)).toNat = 0 from rfl] at hf6_0); (try simp only [Nat.reduceMul, Nat.zero_mul, Nat.zero_add, Nat.reduceAdd] at hf6_0); replace p6 := eq_true p6; replace q6 := eq_true q6; obtain ⟨hy11_, hz11_⟩ := Kd.R_celln false HO159.out (0 : Int) (by omega) (of_decide_eq_true (by assumption)); (try simp only [Int.reduceToNat, Int.toNat_zero, Int.toNat_ofNat, Nat.reduceMul, Nat.zero_mul, Nat.zero_add] at hy11_ hz11_); (try rw [show ((0 : Int)).toNat = 0 from rfl] at hy11_); (try rw [show ((0 : Int)).toNat = 0 from rfl] at hz11_); have HP11 := Kd.R_putg HO159.out (0 : Int) true) | ((with_reducible refine gate_store (t := 4) (p := 16) rfl ?_); (try (rw [drewN_self w9]; generalize hq_ : World.drewN w9 _ = w9; have _ := A_ (Kd.R_at hq_ HO155.out); have _ := A_ (Kd.R_at hq_ HO159.out); have _ := A_ (below_at hq_ HB.out); clear hq_ HO155 HO159 HB; rename_i HO155 HO159 HB; (try (obtain ⟨hy11_, hz11_⟩ := Kd.R_celln false HO159.out (0 : Int) (by omega) (of_decide_eq_true (by assumption)))); (try (try simp only [Int.reduceToNat, Int.toNat_zero, Int.toNat_ofNat, Nat.reduceMul, Nat.zero_mul, Nat.zero_add] at hy11_ hz11_)); (try (try rw [show ((0 : Int)).toNat = 0 from rfl] at hy11_)); (try (try rw [show ((0 : Int)).toNat = 0 from rfl] at hz11_)); (try (have HP11 := Kd.R_putg HO159.out (0 : Int) true)))); refine store_event (t := 4) (p := 16) (v := ?vo_w12) (w1 := (w9.setCell ⟨go6, (0 : Int).toNat, none⟩ (.bool true))) ?hg ?ho ?hn ?hr ?_; (case ho => rfl); (case hg => rfl); (case hn => rfl); (case hr => first | (go_simp; done) | (go_simp; rfl)); intro w12 hw; have hg : w9.grownBy w12 (some go6) := (by rw [hw]; exact HP11.2); have hp_ : Kd.R Kd.bool 4 w12 w.heap.size (fun _ => True) (.slice (some ⟨go6, 0, none⟩) y157.length co6) y160 := (by rw [hw, Ny160.out]; exact HP11.1); clear HP11; have _ := A_ (Kd.R_over' (v := (.slice (some ⟨go6, 0, none⟩) y157.length co6)) z2_8_ (Kd.R_typed HO159.out) (by decide) hg); have _ := A_ (hp_); have _ := A_ ((by rw [hw]; exact below_set (HB.out) GB6.out : Below w.heap.size w w12)); clear HO155 HO159 HB; rename_i HO155 HO159 HB; clear hg hw hp_))
     repeat (go_quiet (first | ((with_reducible refine gate_dst (N := 8) rfl ?_); refine Kd.R_lit (Kd.int .i16) _ 85 ?hg (N := 8) ?hd (xs := ([0] : List Int)) (inner := [.int .i16 0]) (ok := fun _ => True) (okp := fun _ => True) ?hr ?hp (fun _ hk => hk) trivial (Below.refl _ _) (Nat.le_refl _) (by simp) ?_; (case hd => rfl); (case hg => rfl); (case hr => first | (go_simp; done) | (go_simp; rfl)); (case hp => exact (Reps.one (show Kd.M (Kd.int .i16) _ _ _ 0 [.int .i16 0] from rfl) (Reps.none _ _))); intro v154 w7 ho8 hb hg_ hnew_; clear hg_ hnew_; (first | rw [← Ny153.out] at ho8 | (simp only [Int.reduceToNat] at ho8; rw [← Ny153.out] at ho8)); have _ := A_ (Kd.R_lower ho8 (below_size z2_1_)); have _ := A_ (below_step z2_1_ hb); clear HB; rename_i HO155 HB; clear hb ho8; have q156 : 0 < (l0.length : Int) := of_decide_eq_true (by assumption); obtain ⟨ad156, A156_0, c156_0, e156, hx156_0, hl156_0, hi156_0⟩ := rp_T34 HR0.out q156; cases e156; replace hx156_0 := cel HB.out hx156_0; have HR156_0 := A_ hi156_0; have HC156_0 := A_ hl156_0; clear hi156_0 hl156_0) | ((with_reducible refine gate_dst (N := 14) rfl ?_); refine Kd.R_make Kd.bool _ 4 rfl (N := 14) rfl 190 _ _ rfl (((rd_T34 l0 0).f0).length : Int) rfl rfl Try.underlying190 (.bool false) 1 info4 rfl (by decide) (by omega) false (ok := fun _ => True) (okp := fun _ => True) rfl (fun _ hk => hk) trivial (of_decide_eq_true (by assumption)) (Nat.le_trans (Nat.mul_le_mul_right _ (of_decide_eq_true (by assumption) : (((rd_T34 l0 0).f0).length : Int).toNat ≤ 281474976710656)) (by omega)) (Below.refl _ _) (Nat.le_refl _) ?_; intro v158 w9 ho10 hb hg_ hnew_; clear hg_ hnew_; (first | rw [← Ny157.out] at ho10 | (simp only [Int.reduceToNat] at ho10; rw [← Ny157.out] at ho10)); have _ := A_ (Kd.R_below z2_8_ hb); have _ := A_ (Kd.R_lower ho10 (below_size z2_1_)); have _ := A_ (below_step z2_1_ hb); clear HO155 HB; rename_i HO155 HO159 HB; clear hb ho10; have p6 : 0 ≤ (0 : Int) := (by omega); have q6 : (0 : Int) < ((y157.length : Int) : Int) := of_decide_eq_true (by assumption); have qi6 : (0 < y157.length) = True := eq_true (by omega); obtain ⟨go6, co6, eo6, gb6, gl6, cl6, HG6⟩ := Kd.R_form HO159.out (by omega); (first | cases eo6 | (injection eo6 with ea_ en_ ec_; (first | subst ea_ | (injection ea_ with ea_; subst ea_)); subst ec_; clear en_)); have GB6 := A_ gb6; have GG6 := A_ HG6; clear gb6 gl6 HG6; obtain ⟨hx6_0, hf6_0⟩ := Kd.R_celln false HO159.out (0 : Int) p6 q6; (try rw [show ((0 : Int)).toNat = 0 from rfl] at hx6_0); (try simp only [Nat.reduceMul, Nat.zero_mul, Nat.zero_add, Nat.reduceAdd] at hx6_0); (try rw [show ((0 : Int)).toNat = 0 from rfl] at hf6_0); (try simp only [Nat.reduceMul, Nat.zero_mul, Nat.zero_add, Nat.reduceAdd] at hf6_0); replace p6 := eq_true p6; replace q6 := eq_true q6; obtain ⟨hy11_, hz11_⟩ := Kd.R_celln false HO159.out (0 : Int) (by omega) (of_decide_eq_true (by assumption)); (try simp only [Int.reduceToNat, Int.toNat_zero, Int.toNat_ofNat, Nat.reduceMul, Nat.zero_mul, Nat.zero_add] at hy11_ hz11_); (try rw [show ((0 : Int)).toNat = 0 from rfl] at hy11_); (try rw [show ((0 : Int)).toNat = 0 from rfl] at hz11_); have HP11 := Kd.R_putg HO159.out (0 : Int) true) | ((with_reducible refine gate_store (t := 4) (p := 16) rfl ?_); (try (rw [drewN_self w9]; generalize hq_ : World.drewN w9 _ = w9; have _ := A_ (Kd.R_at hq_ HO155.out); have _ := A_ (Kd.R_at hq_ HO159.out); have _ := A_ (below_at hq_ HB.out); clear hq_ HO155 HO159 HB; rename_i HO155 HO159 HB; (try (obtain ⟨hy11_, hz11_⟩ := Kd.R_celln false HO159.out (0 : Int) (by omega) (of_decide_eq_true (by assumption)))); (try (try simp only [Int.reduceToNat, Int.toNat_zero, Int.toNat_ofNat, Nat.reduceMul, Nat.zero_mul, Nat.zero_add] at hy11_ hz11_)); (try (try rw [show ((0 : Int)).toNat = 0 from rfl] at hy11_)); (try (try rw [show ((0 : Int)).toNat = 0 from rfl] at hz11_)); (try (have HP11 := Kd.R_putg HO159.out (0 : Int) true)))); refine store_event (t := 4) (p := 16) (v := ?vo_w12) (w1 := (w9.setCell ⟨go6, (0 : Int).toNat, none⟩ (.bool true))) ?hg ?ho ?hn ?hr ?_; (case ho => rfl); (case hg => rfl); (case hn => rfl); (case hr => first | (go_simp; done) | (go_simp; rfl)); intro w12 hw; have hg : w9.grownBy w12 (some go6) := (by rw [hw]; exact HP11.2); have hp_ : Kd.R Kd.bool 4 w12 w.heap.size (fun _ => True) (.slice (some ⟨go6, 0, none⟩) y157.length co6) y160 := (by rw [hw, Ny160.out]; exact HP11.1); clear HP11; have _ := A_ (Kd.R_over' (v := (.slice (some ⟨go6, 0, none⟩) y157.length co6)) z2_8_ (Kd.R_typed HO159.out) (by decide) hg); have _ := A_ (hp_); have _ := A_ ((by rw [hw]; exact below_set (HB.out) GB6.out : Below w.heap.size w w12)); clear HO155 HO159 HB; rename_i HO155 HO159 HB; clear hg hw hp_)); try go_wp2_with (first | ((with_reducible refine gate_dst (N := 8) rfl ?_); refine Kd.R_lit (Kd.int .i16) _ 85 ?hg (N := 8) ?hd (xs := ([0] : List Int)) (inner := [.int .i16 0]) (ok := fun _ => True) (okp := fun _ => True) ?hr ?hp (fun _ hk => hk) trivial (Below.refl _ _) (Nat.le_refl _) (by simp) ?_; (case hd => rfl); (case hg => rfl); (case hr => first | (go_simp; done) | (go_simp; rfl)); (case hp => exact (Reps.one (show Kd.M (Kd.int .i16) _ _ _ 0 [.int .i16 0] from rfl) (Reps.none _ _))); intro v154 w7 ho8 hb hg_ hnew_; clear hg_ hnew_; (first | rw [← Ny153.out] at ho8 | (simp only [Int.reduceToNat] at ho8; rw [← Ny153.out] at ho8)); have _ := A_ (Kd.R_lower ho8 (below_size z2_1_)); have _ := A_ (below_step z2_1_ hb); clear HB; rename_i HO155 HB; clear hb ho8; have q156 : 0 < (l0.length : Int) := of_decide_eq_true (by assumption); obtain ⟨ad156, A156_0, c156_0, e156, hx156_0, hl156_0, hi156_0⟩ := rp_T34 HR0.out q156; cases e156; replace hx156_0 := cel HB.out hx156_0; have HR156_0 := A_ hi156_0; have HC156_0 := A_ hl156_0; clear hi156_0 hl156_0) | ((with_reducible refine gate_dst (N := 14) rfl ?_); refine Kd.R_make Kd.bool _ 4 rfl (N := 14) rfl 190 _ _ rfl (((rd_T34 l0 0).f0).length : Int) rfl rfl Try.underlying190 (.bool false) 1 info4 rfl (by decide) (by omega) false (ok := fun _ => True) (okp := fun _ => True) rfl (fun _ hk => hk) trivial (of_decide_eq_true (by assumption)) (Nat.le_trans (Nat.mul_le_mul_right _ (of_decide_eq_true (by assumption) : (((rd_T34 l0 0).f0).length : Int).toNat ≤ 281474976710656)) (by omega)) (Below.refl _ _) (Nat.le_refl _) ?_; intro v158 w9 ho10 hb hg_ hnew_; clear hg_ hnew_; (first | rw [← Ny157.out] at ho10 | (simp only [Int.reduceToNat] at ho10; rw [← Ny157.out] at ho10)); have _ := A_ (Kd.R_below z2_8_ hb); have _ := A_ (Kd.R_lower ho10 (below_size z2_1_)); have _ := A_ (below_step z2_1_ hb); clear HO155 HB; rename_i HO155 HO159 HB; clear hb ho10; have p6 : 0 ≤ (0 : Int) := (by omega); have q6 : (0 : Int) < ((y157.length : Int) : Int) := of_decide_eq_true (by assumption); have qi6 : (0 < y157.length) = True := eq_true (by omega); obtain ⟨go6, co6, eo6, gb6, gl6, cl6, HG6⟩ := Kd.R_form HO159.out (by omega); (first | cases eo6 | (injection eo6 with ea_ en_ ec_; (first | subst ea_ | (injection ea_ with ea_; subst ea_)); subst ec_; clear en_)); have GB6 := A_ gb6; have GG6 := A_ HG6; clear gb6 gl6 HG6; obtain ⟨hx6_0, hf6_0⟩ := Kd.R_celln false HO159.out (0 : Int) p6 q6; (try rw [show ((0 : Int)).toNat = 0 from rfl] at hx6_0); (try simp only [Nat.reduceMul, Nat.zero_mul, Nat.zero_add, Nat.reduceAdd] at hx6_0); (try rw [show ((0 : Int)).toNat = 0 from rfl] at hf6_0); (try simp only [Nat.reduceMul, Nat.zero_mul, Nat.zero_add, Nat.reduceAdd] at hf6_0); replace p6 := eq_true p6; replace q6 := eq_true q6; obtain ⟨hy11_, hz11_⟩ := Kd.R_celln false HO159.out (0 : Int) (by omega) (of_decide_eq_true (by assumption)); (try simp only [Int.reduceToNat, Int.toNat_zero, Int.toNat_ofNat, Nat.reduceMul, Nat.zero_mul, Nat.zero_add] at hy11_ hz11_); (try rw [show ((0 : Int)).toNat = 0 from rfl] at hy11_); (try rw [show ((0 : Int)).toNat = 0 from rfl] at hz11_); have HP11 := Kd.R_putg HO159.out (0 : Int) true) | ((with_reducible refine gate_store (t := 4) (p := 16) rfl ?_); (try (rw [drewN_self w9]; generalize hq_ : World.drewN w9 _ = w9; have _ := A_ (Kd.R_at hq_ HO155.out); have _ := A_ (Kd.R_at hq_ HO159.out); have _ := A_ (below_at hq_ HB.out); clear hq_ HO155 HO159 HB; rename_i HO155 HO159 HB; (try (obtain ⟨hy11_, hz11_⟩ := Kd.R_celln false HO159.out (0 : Int) (by omega) (of_decide_eq_true (by assumption)))); (try (try simp only [Int.reduceToNat, Int.toNat_zero, Int.toNat_ofNat, Nat.reduceMul, Nat.zero_mul, Nat.zero_add] at hy11_ hz11_)); (try (try rw [show ((0 : Int)).toNat = 0 from rfl] at hy11_)); (try (try rw [show ((0 : Int)).toNat = 0 from rfl] at hz11_)); (try (have HP11 := Kd.R_putg HO159.out (0 : Int) true)))); refine store_event (t := 4) (p := 16) (v := ?vo_w12) (w1 := (w9.setCell ⟨go6, (0 : Int).toNat, none⟩ (.bool true))) ?hg ?ho ?hn ?hr ?_; (case ho => rfl); (case hg => rfl); (case hn => rfl); (case hr => first | (go_simp; done) | (go_simp; rfl)); intro w12 hw; have hg : w9.grownBy w12 (some go6) := (by rw [hw]; exact HP11.2); have hp_ : Kd.R Kd.bool 4 w12 w.heap.size (fun _ => True) (.slice (some ⟨go6, 0, none⟩) y157.length co6) y160 := (by rw [hw, Ny160.out]; exact HP11.1); clear HP11; have _ := A_ (Kd.R_over' (v := (.slice (some ⟨go6, 0, none⟩) y157.length co6)) z2_8_ (Kd.R_typed HO159.out) (by decide) hg); have _ := A_ (hp_); have _ := A_ ((by rw [hw]; exact below_set (HB.out) GB6.out : Below w.heap.size w w12)); clear HO155 HO159 HB; rename_i HO155 HO159 HB; clear hg hw hp_)))
     go_loopg [3, 5] k (fun kq v3 v5 w' => ∃ (x3_1 : List Int) (x4_1 : List Bool) (x5_1 : Int), v5 = .int .i64 x5_1 ∧ Aside0 (spec_l06Reached.l0 kq l0 x3_1 x4_1 x5_1 = some r) ∧ Aside0 (kq ≤ k) ∧ Aside0 (Kd.R (Kd.int .i16) 85 w' w.heap.size (fun _ => True) v3 x3_1) ∧ Aside0 (Kd.R Kd.bool 4 w' w.heap.size (fun _ => True) (.slice (some ⟨go6, 0, none⟩) y157.length co6) x4_1) ∧ Aside0 (Below w.heap.size w w'))
     case atStart => exact ⟨(y153), (y160), (0), z2_2_, H', ⟨Nat.le_refl _⟩, ⟨z2_8_⟩, ⟨(by (with_reducible repeat (first | apply Kd.R_alloc | apply Kd.R_drewN | apply Kd.R_drew)); exact HO159.out)⟩, ⟨z2_1_⟩⟩
     case round =>
      clear H'
      try clear c1
      try clear q1
      try clear hx1
      try clear c2
      try clear c2b0
      try clear c2b1
      try clear p2
      try clear c3
      try clear c3b0
      try clear c3b1
      try clear c4
      try clear c4b0
      try clear c4b1
      try clear c5
      try clear c5b0
      try clear c5b1
      try clear p6
      try clear q6
      try clear hx6
      try clear qi6
      try clear hf6
      try clear c9
      try clear hx156_0
      try clear hx6_0
      try clear p6
      try clear q156
      try clear q6
      obtain ⟨x3_1, x4_1, x5_1, rfl, HA, HK1, HO_3, HO_4, HB⟩ := hrel
      have hl4_1 := (Kd.R_reads' HO_4.out).1
      rw [hl4_1] at HO_4
      (try simp only [hl4_1])
      (try simp only [hl4_1] at HO_3)
      cases gk with
      | zero => exact absurd HA.out (by simp [spec_l06Reached.l0])
      | succ k1 =>
       have H := HA.out
       clear HA
       simp only [spec_l06Reached.l0] at H
       (repeat (first | rw [rd1_T89] at H))
       by_cases c13 : x5_1 < (x3_1.length : Int)
       ·
        rw [if_pos c13] at H
        have c13b0 := decide_eq_true c13
        clear c13
        by_cases c14 : 0 < (l0.length : Int)
        ·
         rw [if_pos c14] at H
         have c14b0 := decide_eq_true c14
         have c14b1 : decide (0 < l0.length) = true := decide_eq_true (by omega)
         clear c14
         by_cases c15 : 0 ≤ x5_1
         ·
          rw [if_pos c15] at H
          have c15b0 := decide_eq_true c15
          clear c15
          by_cases c16 : 0 ≤ (rd x3_1 x5_1)
          ·
           rw [if_pos c16] at H
           have c16b0 := decide_eq_true c16
           clear c16
           by_cases c17 : (rd x3_1 x5_1) < (((rd_T34 l0 0).f0).length : Int)
           ·
            rw [if_pos c17] at H
            have c17b0 := decide_eq_true c17
            clear c17
            have H' := A_ H
            clear H
            obtain ⟨Ao18, co18, eo18⟩ := Kd.R_slice HO_3.out
            subst eo18
            have q161 : 0 < (l0.length : Int) := of_decide_eq_true (by assumption)
            obtain ⟨ad161, A161_0, c161_0, e161, hx161_0, hl161_0, hi161_0⟩ := rp_T34 HR0.out q161
            obtain rfl : ad156 = ad161 := (by injection e161)
            replace hx161_0 := cel HB.out hx161_0
            have HR161_0 := A_ hi161_0
            have HC161_0 := A_ hl161_0
            clear hi161_0 hl161_0
            have p162 : 0 ≤ (x5_1 : Int) := of_decide_eq_true (by assumption)
            have q162 : x5_1 < (x3_1.length : Int) := of_decide_eq_true (by assumption)
            obtain ⟨ad162, e162, hx162_0⟩ := Kd.at_int (Kd.R_reads' HO_3.out).2.2 x5_1 p162 q162
            cases e162
            replace p162 := eq_true p162
            replace q162 := eq_true q162
            have p163 : 0 ≤ ((rd x3_1 x5_1) : Int) := of_decide_eq_true (by assumption)
            have q163 : (rd x3_1 x5_1) < (((rd_T34 l0 0).f0).length : Int) := of_decide_eq_true (by assumption)
            obtain ⟨ad163, e163, hx163_0, hx163_1, hx163_2, hx163_3, hx163_4⟩ := at_T89 HR161_0.out (rd x3_1 x5_1) p163 q163
            cases e163
            replace hx163_0 := cel HB.out hx163_0
            replace hx163_1 := cel HB.out hx163_1
            replace hx163_2 := cel HB.out hx163_2
            replace hx163_3 := cel HB.out hx163_3
            replace hx163_4 := cel HB.out hx163_4
            replace p163 := eq_true p163
            replace q163 := eq_true q163
            have HR164 := A_ (show Kd.C k89 w (some (Addr.add ad163 ((rd x3_1 x5_1).toNat * 5))) [rd_T89 ((rd_T34 l0 0).f0) (rd x3_1 x5_1)].length [rd_T89 ((rd_T34 l0 0).f0) (rd x3_1 x5_1)] from Kd.C_el k89 z89 HR161_0.out ((rd x3_1 x5_1) : Int) (of_eq_true p163) (of_eq_true q163))
            go_wp2
            repeat (go_quiet (fail); try go_wp2)
            go_loopg [3, 7] k1 (fun kq v3 v7 w' => ∃ (x3_2 : List Int) (x4_2 : List Bool) (x7_2 : Int), v7 = .int .i64 x7_2 ∧ Aside0 (spec_l06Reached.l1 kq l0 x3_2 x4_2 x5_1 [rd_T89 ((rd_T34 l0 0).f0) (rd x3_1 x5_1)] x7_2 = some r) ∧ Aside0 (kq ≤ k1) ∧ Aside0 (Kd.R (Kd.int .i16) 85 w' w.heap.size (fun _ => True) v3 x3_2) ∧ Aside0 (Kd.R Kd.bool 4 w' w.heap.size (fun _ => True) (.slice (some ⟨go6, 0, none⟩) x4_1.length co6) x4_2) ∧ Aside0 (Below w.heap.size w w'))
            case atStart => exact ⟨(x3_1), (x4_1), (0), z2_2_, H', ⟨Nat.le_refl _⟩, ⟨(by (try simp only [hl4_1]); (with_reducible repeat (first | apply Kd.R_alloc | apply Kd.R_drewN | apply Kd.R_drew)); exact HO_3.out)⟩, ⟨(by (try simp only [hl4_1]); (with_reducible repeat (first | apply Kd.R_alloc | apply Kd.R_drewN | apply Kd.R_drew)); exact HO_4.out)⟩, ⟨z2_1_⟩⟩
            case round =>
             clear H'
             try clear c1
             try clear p1
             try clear q1
             try clear hx1
             try clear c2
             try clear c2b0
             try clear c2b1
             try clear p2
             try clear c3
             try clear c3b0
             try clear c3b1
             try clear c4
             try clear c4b0
             try clear c4b1
             try clear c5
             try clear c5b0
             try clear c5b1
             try clear p6
             try clear q6
             try clear hx6
             try clear qi6
             try clear hf6
             try clear c9
             try clear c13
             try clear c13b0
             try clear c14
             try clear c14b0
             try clear c14b1
             try clear c15
             try clear c15b0
             try clear q15
             try clear hx15
             try clear c16
             try clear c16b0
             try clear p16
             try clear q16
             try clear hx16
             try clear c17
             try clear c17b0
             try clear hx156_0
             try clear hx161_0
             try clear hx162_0
             try clear hx163_0
             try clear hx163_1
             try clear hx163_2
             try clear hx163_3
             try clear hx163_4
             try clear hx6_0
             try clear p162
             try clear p163
             try clear p2
             try clear p6
             try clear q1
             try clear q156
             try clear q161
             try clear q162
             try clear q163
             try clear q6
             obtain ⟨x3_2, x4_2, x7_2, rfl, HA, HK2, HO_3, HO_4, HB⟩ := hrel
             have hl4_2 := (Kd.R_reads' HO_4.out).1
             rw [hl4_2] at HO_4
             (try simp only [hl4_2])
             (try simp only [hl4_2] at HO_3)
             cases gk with
             | zero => exact absurd HA.out (by simp [spec_l06Reached.l1])
             | succ k2 =>
              have H := HA.out
              clear HA
              simp only [spec_l06Reached.l1] at H
              (repeat (first | rw [rd1_T89] at H))
              replace H := Option.bind_eq_some_iff.mp H
              obtain ⟨t165, A190, H⟩ := H
              try dsimp only at H
              have A19 := A_ A190
              clear A190
              by_cases c20 : x7_2 < t165
              ·
               rw [if_pos c20] at H
               have c20b0 := decide_eq_true c20
               clear c20
               by_cases c21 : 0 < ([rd_T89 ((rd_T34 l0 0).f0) (rd x3_1 x5_1)].length : Int)
               ·
                rw [if_pos c21] at H
                have c21b0 := decide_eq_true c21
                have c21b1 : decide (0 < [rd_T89 ((rd_T34 l0 0).f0) (rd x3_1 x5_1)].length) = true := decide_eq_true (by omega)
                clear c21
                by_cases c22 : 0 ≤ x7_2
                ·
                 rw [if_pos c22] at H
                 have c22b0 := decide_eq_true c22
                 clear c22
                 by_cases c23 : x7_2 < 3
                 ·
                  rw [if_pos c23] at H
                  have c23b0 := decide_eq_true c23
                  clear c23
                  by_cases c24 : 0 ≤ (rd [(rd_T89 ((rd_T34 l0 0).f0) (rd x3_1 x5_1)).f2.f0, (rd_T89 ((rd_T34 l0 0).f0) (rd x3_1 x5_1)).f2.f1, (rd_T89 ((rd_T34 l0 0).f0) (rd x3_1 x5_1)).f2.f2] x7_2)
                  ·
                   rw [if_pos c24] at H
                   have c24b0 := decide_eq_true c24
                   clear c24
                   by_cases c25 : (rd [(rd_T89 ((rd_T34 l0 0).f0) (rd x3_1 x5_1)).f2.f0, (rd_T89 ((rd_T34 l0 0).f0) (rd x3_1 x5_1)).f2.f1, (rd_T89 ((rd_T34 l0 0).f0) (rd x3_1 x5_1)).f2.f2] x7_2) < (x4_2.length : Int)
                   ·
                    rw [if_pos c25] at H
                    have c25b0 := decide_eq_true c25
                    clear c25
                    obtain ⟨bq26, hbq26⟩ : ∃ b_ : Bool, b_ = (rdOf false x4_2 (rd [(rd_T89 ((rd_T34 l0 0).f0) (rd x3_1 x5_1)).f2.f0, (rd_T89 ((rd_T34 l0 0).f0) (rd x3_1 x5_1)).f2.f1, (rd_T89 ((rd_T34 l0 0).f0) (rd x3_1 x5_1)).f2.f2] x7_2)) := ⟨_, rfl⟩
                    replace H : (if (bq26 = true) then (spec_l06Reached.l1 k2 l0 x3_2 x4_2 x5_1 [rd_T89 ((rd_T34 l0 0).f0) (rd x3_1 x5_1)] (wrap64 (x7_2 + 1))) else (if x3_2.length < 70368744177664 then (spec_l06Reached.l1 k2 l0 (x3_2 ++ [rd [(rd_T89 ((rd_T34 l0 0).f0) (rd x3_1 x5_1)).f2.f0, (rd_T89 ((rd_T34 l0 0).f0) (rd x3_1 x5_1)).f2.f1, (rd_T89 ((rd_T34 l0 0).f0) (rd x3_1 x5_1)).f2.f2] x7_2]) (x4_2.set ((rd [(rd_T89 ((rd_T34 l0 0).f0) (rd x3_1 x5_1)).f2.f0, (rd_T89 ((rd_T34 l0 0).f0) (rd x3_1 x5_1)).f2.f1, (rd_T89 ((rd_T34 l0 0).f0) (rd x3_1 x5_1)).f2.f2] x7_2) : Int).toNat true) x5_1 [rd_T89 ((rd_T34 l0 0).f0) (rd x3_1 x5_1)] (wrap64 (x7_2 + 1))) else (none))) = some r := by rw [← hbq26] at H; exact H
                    have Nbq26 := A_ hbq26
                    clear hbq26
                    by_cases c27 : (bq26 = true)
                    ·
                     subst c27
                     have H1 := H; rw [if_pos rfl] at H1
                     clear H
                     have H := H1
                     clear H1
                     have H' := A_ H
                     clear H
                     go_wp2_with (first | (go_at_call 68; (with_reducible refine (spec_l06Ways.calls _ ([rd_T89 ((rd_T34 l0 0).f0) (rd x3_1 x5_1)]).length [rd_T89 ((rd_T34 l0 0).f0) (rd x3_1 x5_1)] t165 _ ?side1 ?side2 A19.out).mono ?_); (case side1 => have hx_ := (Kd.C_below HR164.out HB.out); exact kc_); (case side2 => exact Nat.le_refl _); rintro e w' ⟨rfl, ⟨nd, rfl⟩⟩; (try first | exact ⟨rfl, _, World.drewN_drewN _ _ _⟩ | exact ⟨rfl, _, Eq.trans (World.drewN_drewN _ _ _) (congrArg (World.drewN _) (Nat.add_assoc _ _ _))⟩); have q166 : 0 < ([rd_T89 ((rd_T34 l0 0).f0) (rd x3_1 x5_1)].length : Int) := of_decide_eq_true (by assumption); obtain ⟨ad166, e166, hx166_0, hx166_1, hx166_2, hx166_3, hx166_4⟩ := rp_T89 HR164.out q166; (try simp only [rd1_T89] at hx166_0 hx166_1 hx166_2 hx166_3 hx166_4); obtain rfl : (Addr.add ad163 ((rd x3_1 x5_1).toNat * 5)) = ad166 := (by injection e166); replace hx166_0 := cel HB.out hx166_0; replace hx166_1 := cel HB.out hx166_1; replace hx166_2 := cel HB.out hx166_2; replace hx166_3 := cel HB.out hx166_3; replace hx166_4 := cel HB.out hx166_4; have p167 : 0 ≤ (x7_2 : Int) := of_decide_eq_true (by assumption); have q167 : (x7_2 : Int) < 3 := of_decide_eq_true (by assumption); have hx167_0 := cell_arr3 hx166_2 hx166_3 hx166_4 x7_2 p167 q167; (try simp only [Nat.zero_add, Nat.add_zero] at hx167_0); replace p167 := eq_true p167; replace q167 := eq_true q167; have p168 : 0 ≤ ((rd [(rd_T89 ((rd_T34 l0 0).f0) (rd x3_1 x5_1)).f2.f0, (rd_T89 ((rd_T34 l0 0).f0) (rd x3_1 x5_1)).f2.f1, (rd_T89 ((rd_T34 l0 0).f0) (rd x3_1 x5_1)).f2.f2] x7_2) : Int) := of_decide_eq_true (by assumption); have q168 : (rd [(rd_T89 ((rd_T34 l0 0).f0) (rd x3_1 x5_1)).f2.f0, (rd_T89 ((rd_T34 l0 0).f0) (rd x3_1 x5_1)).f2.f1, (rd_T89 ((rd_T34 l0 0).f0) (rd x3_1 x5_1)).f2.f2] x7_2) < (x4_2.length : Int) := of_decide_eq_true (by assumption); obtain ⟨ad168, e168, hx168_0⟩ := Kd.at_bool (Kd.R_reads' HO_4.out).2.2 (rd [(rd_T89 ((rd_T34 l0 0).f0) (rd x3_1 x5_1)).f2.f0, (rd_T89 ((rd_T34 l0 0).f0) (rd x3_1 x5_1)).f2.f1, (rd_T89 ((rd_T34 l0 0).f0) (rd x3_1 x5_1)).f2.f2] x7_2) p168 q168; (try rw [← Nbq26.out] at hx168_0); obtain rfl : (⟨go6, 0, none⟩ : Addr) = ad168 := (by injection e168); (first | simp only [add_plain] at hx168_0 | simp only [add_at] at hx168_0 | simp only [Addr.add, Nat.zero_add] at hx168_0 | skip); replace p168 := eq_true p168; replace q168 := eq_true q168))
                     repeat (go_quiet (first | (go_at_call 68; (with_reducible refine (spec_l06Ways.calls _ ([rd_T89 ((rd_T34 l0 0).f0) (rd x3_1 x5_1)]).length [rd_T89 ((rd_T34 l0 0).f0) (rd x3_1 x5_1)] t165 _ ?side1 ?side2 A19.out).mono ?_); (case side1 => have hx_ := (Kd.C_below HR164.out HB.out); exact kc_); (case side2 => exact Nat.le_refl _); rintro e w' ⟨rfl, ⟨nd, rfl⟩⟩; (try first | exact ⟨rfl, _, World.drewN_drewN _ _ _⟩ | exact ⟨rfl, _, Eq.trans (World.drewN_drewN _ _ _) (congrArg (World.drewN _) (Nat.add_assoc _ _ _))⟩); have q166 : 0 < ([rd_T89 ((rd_T34 l0 0).f0) (rd x3_1 x5_1)].length : Int) := of_decide_eq_true (by assumption); obtain ⟨ad166, e166, hx166_0, hx166_1, hx166_2, hx166_3, hx166_4⟩ := rp_T89 HR164.out q166; (try simp only [rd1_T89] at hx166_0 hx166_1 hx166_2 hx166_3 hx166_4); obtain rfl : (Addr.add ad163 ((rd x3_1 x5_1).toNat * 5)) = ad166 := (by injection e166); replace hx166_0 := cel HB.out hx166_0; replace hx166_1 := cel HB.out hx166_1; replace hx166_2 := cel HB.out hx166_2; replace hx166_3 := cel HB.out hx166_3; replace hx166_4 := cel HB.out hx166_4; have p167 : 0 ≤ (x7_2 : Int) := of_decide_eq_true (by assumption); have q167 : (x7_2 : Int) < 3 := of_decide_eq_true (by assumption); have hx167_0 := cell_arr3 hx166_2 hx166_3 hx166_4 x7_2 p167 q167; (try simp only [Nat.zero_add, Nat.add_zero] at hx167_0); replace p167 := eq_true p167; replace q167 := eq_true q167; have p168 : 0 ≤ ((rd [(rd_T89 ((rd_T34 l0 0).f0) (rd x3_1 x5_1)).f2.f0, (rd_T89 ((rd_T34 l0 0).f0) (rd x3_1 x5_1)).f2.f1, (rd_T89 ((rd_T34 l0 0).f0) (rd x3_1 x5_1)).f2.f2] x7_2) : Int) := of_decide_eq_true (by assumption); have q168 : (rd [(rd_T89 ((rd_T34 l0 0).f0) (rd x3_1 x5_1)).f2.f0, (rd_T89 ((rd_T34 l0 0).f0) (rd x3_1 x5_1)).f2.f1, (rd_T89 ((rd_T34 l0 0).f0) (rd x3_1 x5_1)).f2.f2] x7_2) < (x4_2.length : Int) := of_decide_eq_true (by assumption); obtain ⟨ad168, e168, hx168_0⟩ := Kd.at_bool (Kd.R_reads' HO_4.out).2.2 (rd [(rd_T89 ((rd_T34 l0 0).f0) (rd x3_1 x5_1)).f2.f0, (rd_T89 ((rd_T34 l0 0).f0) (rd x3_1 x5_1)).f2.f1, (rd_T89 ((rd_T34 l0 0).f0) (rd x3_1 x5_1)).f2.f2] x7_2) p168 q168; (try rw [← Nbq26.out] at hx168_0); obtain rfl : (⟨go6, 0, none⟩ : Addr) = ad168 := (by injection e168); (first | simp only [add_plain] at hx168_0 | simp only [add_at] at hx168_0 | simp only [Addr.add, Nat.zero_add] at hx168_0 | skip); replace p168 := eq_true p168; replace q168 := eq_true q168)); try go_wp2_with (first | (go_at_call 68; (with_reducible refine (spec_l06Ways.calls _ ([rd_T89 ((rd_T34 l0 0).f0) (rd x3_1 x5_1)]).length [rd_T89 ((rd_T34 l0 0).f0) (rd x3_1 x5_1)] t165 _ ?side1 ?side2 A19.out).mono ?_); (case side1 => have hx_ := (Kd.C_below HR164.out HB.out); exact kc_); (case side2 => exact Nat.le_refl _); rintro e w' ⟨rfl, ⟨nd, rfl⟩⟩; (try first | exact ⟨rfl, _, World.drewN_drewN _ _ _⟩ | exact ⟨rfl, _, Eq.trans (World.drewN_drewN _ _ _) (congrArg (World.drewN _) (Nat.add_assoc _ _ _))⟩); have q166 : 0 < ([rd_T89 ((rd_T34 l0 0).f0) (rd x3_1 x5_1)].length : Int) := of_decide_eq_true (by assumption); obtain ⟨ad166, e166, hx166_0, hx166_1, hx166_2, hx166_3, hx166_4⟩ := rp_T89 HR164.out q166; (try simp only [rd1_T89] at hx166_0 hx166_1 hx166_2 hx166_3 hx166_4); obtain rfl : (Addr.add ad163 ((rd x3_1 x5_1).toNat * 5)) = ad166 := (by injection e166); replace hx166_0 := cel HB.out hx166_0; replace hx166_1 := cel HB.out hx166_1; replace hx166_2 := cel HB.out hx166_2; replace hx166_3 := cel HB.out hx166_3; replace hx166_4 := cel HB.out hx166_4; have p167 : 0 ≤ (x7_2 : Int) := of_decide_eq_true (by assumption); have q167 : (x7_2 : Int) < 3 := of_decide_eq_true (by assumption); have hx167_0 := cell_arr3 hx166_2 hx166_3 hx166_4 x7_2 p167 q167; (try simp only [Nat.zero_add, Nat.add_zero] at hx167_0); replace p167 := eq_true p167; replace q167 := eq_true q167; have p168 : 0 ≤ ((rd [(rd_T89 ((rd_T34 l0 0).f0) (rd x3_1 x5_1)).f2.f0, (rd_T89 ((rd_T34 l0 0).f0) (rd x3_1 x5_1)).f2.f1, (rd_T89 ((rd_T34 l0 0).f0) (rd x3_1 x5_1)).f2.f2] x7_2) : Int) := of_decide_eq_true (by assumption); have q168 : (rd [(rd_T89 ((rd_T34 l0 0).f0) (rd x3_1 x5_1)).f2.f0, (rd_T89 ((rd_T34 l0 0).f0) (rd x3_1 x5_1)).f2.f1, (rd_T89 ((rd_T34 l0 0).f0) (rd x3_1 x5_1)).f2.f2] x7_2) < (x4_2.length : Int) := of_decide_eq_true (by assumption); obtain ⟨ad168, e168, hx168_0⟩ := Kd.at_bool (Kd.R_reads' HO_4.out).2.2 (rd [(rd_T89 ((rd_T34 l0 0).f0) (rd x3_1 x5_1)).f2.f0, (rd_T89 ((rd_T34 l0 0).f0) (rd x3_1 x5_1)).f2.f1, (rd_T89 ((rd_T34 l0 0).f0) (rd x3_1 x5_1)).f2.f2] x7_2) p168 q168; (try rw [← Nbq26.out] at hx168_0); obtain rfl : (⟨go6, 0, none⟩ : Addr) = ad168 := (by injection e168); (first | simp only [add_plain] at hx168_0 | simp only [add_at] at hx168_0 | simp only [Addr.add, Nat.zero_add] at hx168_0 | skip); replace p168 := eq_true p168; replace q168 := eq_true q168)))
                     (try simp only [← hl4_2])
                     go_roundg k2
                     case measure => have := HK1.out; have := HK2.out; omega
                     case rel => exact ⟨(x3_2), (x4_2), (wrap64 (x7_2 + 1)), z2_2_, H', ⟨z2_12_⟩, ⟨z2_14_⟩, ⟨z2_10_⟩, ⟨z2_1_⟩⟩
                    ·
                     replace c27 := Bool.eq_false_iff.mpr c27
                     subst c27
                     have H1 := H; rw [if_neg (show ¬ (false = true) by decide)] at H1
                     clear H
                     have H := H1
                     clear H1
                     obtain ⟨y170, hy170⟩ : ∃ y_ : List Bool, y_ = (x4_2.set ((rd [(rd_T89 ((rd_T34 l0 0).f0) (rd x3_1 x5_1)).f2.f0, (rd_T89 ((rd_T34 l0 0).f0) (rd x3_1 x5_1)).f2.f1, (rd_T89 ((rd_T34 l0 0).f0) (rd x3_1 x5_1)).f2.f2] x7_2) : Int).toNat true) := ⟨_, rfl⟩
                     replace H : (if x3_2.length < 70368744177664 then (spec_l06Reached.l1 k2 l0 (x3_2 ++ [rd [(rd_T89 ((rd_T34 l0 0).f0) (rd x3_1 x5_1)).f2.f0, (rd_T89 ((rd_T34 l0 0).f0) (rd x3_1 x5_1)).f2.f1, (rd_T89 ((rd_T34 l0 0).f0) (rd x3_1 x5_1)).f2.f2] x7_2]) y170 x5_1 [rd_T89 ((rd_T34 l0 0).f0) (rd x3_1 x5_1)] (wrap64 (x7_2 + 1))) else (none)) = some r := by first | (rw [hy170]; with_reducible exact H) | (have H2_ := (Option.bind_some _ _).symm.trans H; rw [hy170]; with_reducible exact H2_) | (have H2_ := (Option.bind_some _ _).symm.trans H; with_reducible exact H2_) | with_reducible exact H | (rw [hy170]; exact H) | exact H
                     have Ny170 := A_ hy170
                     clear hy170
                     by_cases c29 : x3_2.length < 70368744177664
                     ·
                      rw [if_pos c29] at H
                      have LMc29 := A_ c29
                      clear c29
                      obtain ⟨y173, hy173⟩ : ∃ y_ : List Int, y_ = (x3_2 ++ [rd [(rd_T89 ((rd_T34 l0 0).f0) (rd x3_1 x5_1)).f2.f0, (rd_T89 ((rd_T34 l0 0).f0) (rd x3_1 x5_1)).f2.f1, (rd_T89 ((rd_T34 l0 0).f0) (rd x3_1 x5_1)).f2.f2] x7_2]) := ⟨_, rfl⟩
                      replace H : (spec_l06Reached.l1 k2 l0 y173 y170 x5_1 [rd_T89 ((rd_T34 l0 0).f0) (rd x3_1 x5_1)] (wrap64 (x7_2 + 1))) = some r := by first | (rw [hy173]; with_reducible exact H) | (have H2_ := (Option.bind_some _ _).symm.trans H; rw [hy173]; with_reducible exact H2_) | (have H2_ := (Option.bind_some _ _).symm.trans H; with_reducible exact H2_) | with_reducible exact H | (rw [hy173]; exact H) | exact H
                      have Ny173 := A_ hy173
                      clear hy173
                      have H' := A_ H
                      clear H
                      go_wp2_with (first | (go_at_call 68; (with_reducible refine (spec_l06Ways.calls _ ([rd_T89 ((rd_T34 l0 0).f0) (rd x3_1 x5_1)]).length [rd_T89 ((rd_T34 l0 0).f0) (rd x3_1 x5_1)] t165 _ ?side1 ?side2 A19.out).mono ?_); (case side1 => have hx_ := (Kd.C_below HR164.out HB.out); exact kc_); (case side2 => exact Nat.le_refl _); rintro e w' ⟨rfl, ⟨nd, rfl⟩⟩; (try first | exact ⟨rfl, _, World.drewN_drewN _ _ _⟩ | exact ⟨rfl, _, Eq.trans (World.drewN_drewN _ _ _) (congrArg (World.drewN _) (Nat.add_assoc _ _ _))⟩); have q166 : 0 < ([rd_T89 ((rd_T34 l0 0).f0) (rd x3_1 x5_1)].length : Int) := of_decide_eq_true (by assumption); obtain ⟨ad166, e166, hx166_0, hx166_1, hx166_2, hx166_3, hx166_4⟩ := rp_T89 HR164.out q166; (try simp only [rd1_T89] at hx166_0 hx166_1 hx166_2 hx166_3 hx166_4); obtain rfl : (Addr.add ad163 ((rd x3_1 x5_1).toNat * 5)) = ad166 := (by injection e166); replace hx166_0 := cel HB.out hx166_0; replace hx166_1 := cel HB.out hx166_1; replace hx166_2 := cel HB.out hx166_2; replace hx166_3 := cel HB.out hx166_3; replace hx166_4 := cel HB.out hx166_4; have p167 : 0 ≤ (x7_2 : Int) := of_decide_eq_true (by assumption); have q167 : (x7_2 : Int) < 3 := of_decide_eq_true (by assumption); have hx167_0 := cell_arr3 hx166_2 hx166_3 hx166_4 x7_2 p167 q167; (try simp only [Nat.zero_add, Nat.add_zero] at hx167_0); replace p167 := eq_true p167; replace q167 := eq_true q167; have p168 : 0 ≤ ((rd [(rd_T89 ((rd_T34 l0 0).f0) (rd x3_1 x5_1)).f2.f0, (rd_T89 ((rd_T34 l0 0).f0) (rd x3_1 x5_1)).f2.f1, (rd_T89 ((rd_T34 l0 0).f0) (rd x3_1 x5_1)).f2.f2] x7_2) : Int) := of_decide_eq_true (by assumption); have q168 : (rd [(rd_T89 ((rd_T34 l0 0).f0) (rd x3_1 x5_1)).f2.f0, (rd_T89 ((rd_T34 l0 0).f0) (rd x3_1 x5_1)).f2.f1, (rd_T89 ((rd_T34 l0 0).f0) (rd x3_1 x5_1)).f2.f2] x7_2) < (x4_2.length : Int) := of_decide_eq_true (by assumption); obtain ⟨ad168, e168, hx168_0⟩ := Kd.at_bool (Kd.R_reads' HO_4.out).2.2 (rd [(rd_T89 ((rd_T34 l0 0).f0) (rd x3_1 x5_1)).f2.f0, (rd_T89 ((rd_T34 l0 0).f0) (rd x3_1 x5_1)).f2.f1, (rd_T89 ((rd_T34 l0 0).f0) (rd x3_1 x5_1)).f2.f2] x7_2) p168 q168; (try rw [← Nbq26.out] at hx168_0); obtain rfl : (⟨go6, 0, none⟩ : Addr) = ad168 := (by injection e168); (first | simp only [add_plain] at hx168_0 | simp only [add_at] at hx168_0 | simp only [Addr.add, Nat.zero_add] at hx168_0 | skip); replace p168 := eq_true p168; replace q168 := eq_true q168; have p169 : 0 ≤ (x7_2 : Int) := of_decide_eq_true (by assumption); have q169 : (x7_2 : Int) < 3 := of_decide_eq_true (by assumption); have hx169_0 := cell_arr3 hx166_2 hx166_3 hx166_4 x7_2 p169 q169; (try simp only [Nat.zero_add, Nat.add_zero] at hx169_0); replace p169 := eq_true p169; replace q169 := eq_true q169; have p28 : 0 ≤ ((rd [(rd_T89 ((rd_T34 l0 0).f0) (rd x3_1 x5_1)).f2.f0, (rd_T89 ((rd_T34 l0 0).f0) (rd x3_1 x5_1)).f2.f1, (rd_T89 ((rd_T34 l0 0).f0) (rd x3_1 x5_1)).f2.f2] x7_2) : Int) := of_decide_eq_true (by assumption); have q28 : ((rd [(rd_T89 ((rd_T34 l0 0).f0) (rd x3_1 x5_1)).f2.f0, (rd_T89 ((rd_T34 l0 0).f0) (rd x3_1 x5_1)).f2.f1, (rd_T89 ((rd_T34 l0 0).f0) (rd x3_1 x5_1)).f2.f2] x7_2) : Int) < ((x4_2.length : Int) : Int) := of_decide_eq_true (by assumption); obtain ⟨hx28_0, hf28_0⟩ := Kd.R_celln false HO_4.out ((rd [(rd_T89 ((rd_T34 l0 0).f0) (rd x3_1 x5_1)).f2.f0, (rd_T89 ((rd_T34 l0 0).f0) (rd x3_1 x5_1)).f2.f1, (rd_T89 ((rd_T34 l0 0).f0) (rd x3_1 x5_1)).f2.f2] x7_2) : Int) p28 q28; replace p28 := eq_true p28; replace q28 := eq_true q28; obtain ⟨hy30_, hz30_⟩ := Kd.R_celln false HO_4.out ((rd [(rd_T89 ((rd_T34 l0 0).f0) (rd x3_1 x5_1)).f2.f0, (rd_T89 ((rd_T34 l0 0).f0) (rd x3_1 x5_1)).f2.f1, (rd_T89 ((rd_T34 l0 0).f0) (rd x3_1 x5_1)).f2.f2] x7_2) : Int) (of_decide_eq_true (by assumption)) (of_decide_eq_true (by assumption)); have HP30 := Kd.R_putg HO_4.out ((rd [(rd_T89 ((rd_T34 l0 0).f0) (rd x3_1 x5_1)).f2.f0, (rd_T89 ((rd_T34 l0 0).f0) (rd x3_1 x5_1)).f2.f1, (rd_T89 ((rd_T34 l0 0).f0) (rd x3_1 x5_1)).f2.f2] x7_2) : Int) true) | ((with_reducible refine gate_store (t := 4) (p := 55) rfl ?_); (try (rw [drewN_self wr]; generalize hq_ : World.drewN wr _ = wr; have _ := A_ (Kd.R_at hq_ HO_3.out); have _ := A_ (Kd.R_at hq_ HO_4.out); have _ := A_ (below_at hq_ HB.out); clear hq_ HO_3 HO_4 HB; rename_i HO_3 HO_4 HB; (try (obtain ⟨hy30_, hz30_⟩ := Kd.R_celln false HO_4.out ((rd [(rd_T89 ((rd_T34 l0 0).f0) (rd x3_1 x5_1)).f2.f0, (rd_T89 ((rd_T34 l0 0).f0) (rd x3_1 x5_1)).f2.f1, (rd_T89 ((rd_T34 l0 0).f0) (rd x3_1 x5_1)).f2.f2] x7_2) : Int) (of_decide_eq_true (by assumption)) (of_decide_eq_true (by assumption)))); (try (have HP30 := Kd.R_putg HO_4.out ((rd [(rd_T89 ((rd_T34 l0 0).f0) (rd x3_1 x5_1)).f2.f0, (rd_T89 ((rd_T34 l0 0).f0) (rd x3_1 x5_1)).f2.f1, (rd_T89 ((rd_T34 l0 0).f0) (rd x3_1 x5_1)).f2.f2] x7_2) : Int) true)))); refine store_event (t := 4) (p := 55) (v := ?vo_w31) (w1 := (wr.setCell ⟨go6, ((rd [(rd_T89 ((rd_T34 l0 0).f0) (rd x3_1 x5_1)).f2.f0, (rd_T89 ((rd_T34 l0 0).f0) (rd x3_1 x5_1)).f2.f1, (rd_T89 ((rd_T34 l0 0).f0) (rd x3_1 x5_1)).f2.f2] x7_2) : Int).toNat, none⟩ (.bool true))) ?hg ?ho ?hn ?hr ?_; (case ho => rfl); (case hg => rfl); (case hn => rfl); (case hr => first | (go_simp; done) | (go_simp; rfl)); intro w31 hw; have hg : wr.grownBy w31 (some go6) := (by rw [hw]; exact HP30.2); have hp_ : Kd.R Kd.bool 4 w31 w.heap.size (fun _ => True) (.slice (some ⟨go6, 0, none⟩) x4_2.length co6) y170 := (by rw [hw, Ny170.out]; exact HP30.1); clear HP30; have _ := A_ (Kd.R_over' (v := (.slice (some ⟨go6, 0, none⟩) x4_2.length co6)) z2_4_ (Kd.R_typed HO_4.out) (by decide) hg); have _ := A_ (hp_); have _ := A_ ((by rw [hw]; exact below_set (HB.out) GB6.out : Below w.heap.size w w31)); clear HO_3 HO_4 HB; rename_i HO_3 HO_4 HB; clear hg hw hp_; have q171 : 0 < ([rd_T89 ((rd_T34 l0 0).f0) (rd x3_1 x5_1)].length : Int) := of_decide_eq_true (by assumption); obtain ⟨ad171, e171, hx171_0, hx171_1, hx171_2, hx171_3, hx171_4⟩ := rp_T89 HR164.out q171; (try simp only [rd1_T89] at hx171_0 hx171_1 hx171_2 hx171_3 hx171_4); obtain rfl : (Addr.add ad163 ((rd x3_1 x5_1).toNat * 5)) = ad171 := (by injection e171); replace hx171_0 := cel HB.out hx171_0; replace hx171_1 := cel HB.out hx171_1; replace hx171_2 := cel HB.out hx171_2; replace hx171_3 := cel HB.out hx171_3; replace hx171_4 := cel HB.out hx171_4; have p172 : 0 ≤ (x7_2 : Int) := of_decide_eq_true (by assumption); have q172 : (x7_2 : Int) < 3 := of_decide_eq_true (by assumption); have hx172_0 := cell_arr3 hx171_2 hx171_3 hx171_4 x7_2 p172 q172; (try simp only [Nat.zero_add, Nat.add_zero] at hx172_0); replace p172 := eq_true p172; replace q172 := eq_true q172) | ((with_reducible refine gate_builtin (b := .append) (xs := #[.tmp 56, .tmp 63]) rfl ?_); at_builtin; refine Kd.R_append (Kd.int .i16) (w0 := w) w.heap.size rfl (.tmp 56) (.tmp 63) 139 85 (.int .i16 0) 2 rfl Try.underlying139 info85 rfl (by decide) (by omega) u3 x3_2 (rd [(rd_T89 ((rd_T34 l0 0).f0) (rd x3_1 x5_1)).f2.f0, (rd_T89 ((rd_T34 l0 0).f0) (rd x3_1 x5_1)).f2.f1, (rd_T89 ((rd_T34 l0 0).f0) (rd x3_1 x5_1)).f2.f2] x7_2) [.int .i16 (rd [(rd_T89 ((rd_T34 l0 0).f0) (rd x3_1 x5_1)).f2.f0, (rd_T89 ((rd_T34 l0 0).f0) (rd x3_1 x5_1)).f2.f1, (rd_T89 ((rd_T34 l0 0).f0) (rd x3_1 x5_1)).f2.f2] x7_2)] (fun _ => True) (fun _ => False) rfl rfl ?aP (fun _ hk => hk.elim) ?aF ?aO ?aB ?aS ?aL ?_; (case aP => exact rfl); (case aB => exact z2_1_); (case aF => exact (fun _ _ => trivial)); (case aO => exact z2_4_); (case aS => exact (below_size z2_1_)); (case aL => have := LMc29.out; omega); intro v174 w32 ho hb hg hat; rw [← Ny173.out] at ho; have _ := A_ (Kd.R_over' z2_11_ (Kd.R_typed z2_4_) (by decide) hg); have _ := A_ (hb); have _ := A_ (ho); clear HO_4 HB HO_3; rename_i HO_4 HB HO175; clear ho hb hg hat))
                      repeat (go_quiet (first | (go_at_call 68; (with_reducible refine (spec_l06Ways.calls _ ([rd_T89 ((rd_T34 l0 0).f0) (rd x3_1 x5_1)]).length [rd_T89 ((rd_T34 l0 0).f0) (rd x3_1 x5_1)] t165 _ ?side1 ?side2 A19.out).mono ?_); (case side1 => have hx_ := (Kd.C_below HR164.out HB.out); exact kc_); (case side2 => exact Nat.le_refl _); rintro e w' ⟨rfl, ⟨nd, rfl⟩⟩; (try first | exact ⟨rfl, _, World.drewN_drewN _ _ _⟩ | exact ⟨rfl, _, Eq.trans (World.drewN_drewN _ _ _) (congrArg (World.drewN _) (Nat.add_assoc _ _ _))⟩); have q166 : 0 < ([rd_T89 ((rd_T34 l0 0).f0) (rd x3_1 x5_1)].length : Int) := of_decide_eq_true (by assumption); obtain ⟨ad166, e166, hx166_0, hx166_1, hx166_2, hx166_3, hx166_4⟩ := rp_T89 HR164.out q166; (try simp only [rd1_T89] at hx166_0 hx166_1 hx166_2 hx166_3 hx166_4); obtain rfl : (Addr.add ad163 ((rd x3_1 x5_1).toNat * 5)) = ad166 := (by injection e166); replace hx166_0 := cel HB.out hx166_0; replace hx166_1 := cel HB.out hx166_1; replace hx166_2 := cel HB.out hx166_2; replace hx166_3 := cel HB.out hx166_3; replace hx166_4 := cel HB.out hx166_4; have p167 : 0 ≤ (x7_2 : Int) := of_decide_eq_true (by assumption); have q167 : (x7_2 : Int) < 3 := of_decide_eq_true (by assumption); have hx167_0 := cell_arr3 hx166_2 hx166_3 hx166_4 x7_2 p167 q167; (try simp only [Nat.zero_add, Nat.add_zero] at hx167_0); replace p167 := eq_true p167; replace q167 := eq_true q167; have p168 : 0 ≤ ((rd [(rd_T89 ((rd_T34 l0 0).f0) (rd x3_1 x5_1)).f2.f0, (rd_T89 ((rd_T34 l0 0).f0) (rd x3_1 x5_1)).f2.f1, (rd_T89 ((rd_T34 l0 0).f0) (rd x3_1 x5_1)).f2.f2] x7_2) : Int) := of_decide_eq_true (by assumption); have q168 : (rd [(rd_T89 ((rd_T34 l0 0).f0) (rd x3_1 x5_1)).f2.f0, (rd_T89 ((rd_T34 l0 0).f0) (rd x3_1 x5_1)).f2.f1, (rd_T89 ((rd_T34 l0 0).f0) (rd x3_1 x5_1)).f2.f2] x7_2) < (x4_2.length : Int) := of_decide_eq_true (by assumption); obtain ⟨ad168, e168, hx168_0⟩ := Kd.at_bool (Kd.R_reads' HO_4.out).2.2 (rd [(rd_T89 ((rd_T34 l0 0).f0) (rd x3_1 x5_1)).f2.f0, (rd_T89 ((rd_T34 l0 0).f0) (rd x3_1 x5_1)).f2.f1, (rd_T89 ((rd_T34 l0 0).f0) (rd x3_1 x5_1)).f2.f2] x7_2) p168 q168; (try rw [← Nbq26.out] at hx168_0); obtain rfl : (⟨go6, 0, none⟩ : Addr) = ad168 := (by injection e168); (first | simp only [add_plain] at hx168_0 | simp only [add_at] at hx168_0 | simp only [Addr.add, Nat.zero_add] at hx168_0 | skip); replace p168 := eq_true p168; replace q168 := eq_true q168; have p169 : 0 ≤ (x7_2 : Int) := of_decide_eq_true (by assumption); have q169 : (x7_2 : Int) < 3 := of_decide_eq_true (by assumption); have hx169_0 := cell_arr3 hx166_2 hx166_3 hx166_4 x7_2 p169 q169; (try simp only [Nat.zero_add, Nat.add_zero] at hx169_0); replace p169 := eq_true p169; replace q169 := eq_true q169; have p28 : 0 ≤ ((rd [(rd_T89 ((rd_T34 l0 0).f0) (rd x3_1 x5_1)).f2.f0, (rd_T89 ((rd_T34 l0 0).f0) (rd x3_1 x5_1)).f2.f1, (rd_T89 ((rd_T34 l0 0).f0) (rd x3_1 x5_1)).f2.f2] x7_2) : Int) := of_decide_eq_true (by assumption); have q28 : ((rd [(rd_T89 ((rd_T34 l0 0).f0) (rd x3_1 x5_1)).f2.f0, (rd_T89 ((rd_T34 l0 0).f0) (rd x3_1 x5_1)).f2.f1, (rd_T89 ((rd_T34 l0 0).f0) (rd x3_1 x5_1)).f2.f2] x7_2) : Int) < ((x4_2.length : Int) : Int) := of_decide_eq_true (by assumption); obtain ⟨hx28_0, hf28_0⟩ := Kd.R_celln false HO_4.out ((rd [(rd_T89 ((rd_T34 l0 0).f0) (rd x3_1 x5_1)).f2.f0, (rd_T89 ((rd_T34 l0 0).f0) (rd x3_1 x5_1)).f2.f1, (rd_T89 ((rd_T34 l0 0).f0) (rd x3_1 x5_1)).f2.f2] x7_2) : Int) p28 q28; replace p28 := eq_true p28; replace q28 := eq_true q28; obtain ⟨hy30_, hz30_⟩ := Kd.R_celln false HO_4.out ((rd [(rd_T89 ((rd_T34 l0 0).f0) (rd x3_1 x5_1)).f2.f0, (rd_T89 ((rd_T34 l0 0).f0) (rd x3_1 x5_1)).f2.f1, (rd_T89 ((rd_T34 l0 0).f0) (rd x3_1 x5_1)).f2.f2] x7_2) : Int) (of_decide_eq_true (by assumption)) (of_decide_eq_true (by assumption)); have HP30 := Kd.R_putg HO_4.out ((rd [(rd_T89 ((rd_T34 l0 0).f0) (rd x3_1 x5_1)).f2.f0, (rd_T89 ((rd_T34 l0 0).f0) (rd x3_1 x5_1)).f2.f1, (rd_T89 ((rd_T34 l0 0).f0) (rd x3_1 x5_1)).f2.f2] x7_2) : Int) true) | ((with_reducible refine gate_store (t := 4) (p := 55) rfl ?_); (try (rw [drewN_self wr]; generalize hq_ : World.drewN wr _ = wr; have _ := A_ (Kd.R_at hq_ HO_3.out); have _ := A_ (Kd.R_at hq_ HO_4.out); have _ := A_ (below_at hq_ HB.out); clear hq_ HO_3 HO_4 HB; rename_i HO_3 HO_4 HB; (try (obtain ⟨hy30_, hz30_⟩ := Kd.R_celln false HO_4.out ((rd [(rd_T89 ((rd_T34 l0 0).f0) (rd x3_1 x5_1)).f2.f0, (rd_T89 ((rd_T34 l0 0).f0) (rd x3_1 x5_1)).f2.f1, (rd_T89 ((rd_T34 l0 0).f0) (rd x3_1 x5_1)).f2.f2] x7_2) : Int) (of_decide_eq_true (by assumption)) (of_decide_eq_true (by assumption)))); (try (have HP30 := Kd.R_putg HO_4.out ((rd [(rd_T89 ((rd_T34 l0 0).f0) (rd x3_1 x5_1)).f2.f0, (rd_T89 ((rd_T34 l0 0).f0) (rd x3_1 x5_1)).f2.f1, (rd_T89 ((rd_T34 l0 0).f0) (rd x3_1 x5_1)).f2.f2] x7_2) : Int) true)))); refine store_event (t := 4) (p := 55) (v := ?vo_w31) (w1 := (wr.setCell ⟨go6, ((rd [(rd_T89 ((rd_T34 l0 0).f0) (rd x3_1 x5_1)).f2.f0, (rd_T89 ((rd_T34 l0 0).f0) (rd x3_1 x5_1)).f2.f1, (rd_T89 ((rd_T34 l0 0).f0) (rd x3_1 x5_1)).f2.f2] x7_2) : Int).toNat, none⟩ (.bool true))) ?hg ?ho ?hn ?hr ?_; (case ho => rfl); (case hg => rfl); (case hn => rfl); (case hr => first | (go_simp; done) | (go_simp; rfl)); intro w31 hw; have hg : wr.grownBy w31 (some go6) := (by rw [hw]; exact HP30.2); have hp_ : Kd.R Kd.bool 4 w31 w.heap.size (fun _ => True) (.slice (some ⟨go6, 0, none⟩) x4_2.length co6) y170 := (by rw [hw, Ny170.out]; exact HP30.1); clear HP30; have _ := A_ (Kd.R_over' (v := (.slice (some ⟨go6, 0, none⟩) x4_2.length co6)) z2_4_ (Kd.R_typed HO_4.out) (by decide) hg); have _ := A_ (hp_); have _ := A_ ((by rw [hw]; exact below_set (HB.out) GB6.out : Below w.heap.size w w31)); clear HO_3 HO_4 HB; rename_i HO_3 HO_4 HB; clear hg hw hp_; have q171 : 0 < ([rd_T89 ((rd_T34 l0 0).f0) (rd x3_1 x5_1)].length : Int) := of_decide_eq_true (by assumption); obtain ⟨ad171, e171, hx171_0, hx171_1, hx171_2, hx171_3, hx171_4⟩ := rp_T89 HR164.out q171; (try simp only [rd1_T89] at hx171_0 hx171_1 hx171_2 hx171_3 hx171_4); obtain rfl : (Addr.add ad163 ((rd x3_1 x5_1).toNat * 5)) = ad171 := (by injection e171); replace hx171_0 := cel HB.out hx171_0; replace hx171_1 := cel HB.out hx171_1; replace hx171_2 := cel HB.out hx171_2; replace hx171_3 := cel HB.out hx171_3; replace hx171_4 := cel HB.out hx171_4; have p172 : 0 ≤ (x7_2 : Int) := of_decide_eq_true (by assumption); have q172 : (x7_2 : Int) < 3 := of_decide_eq_true (by assumption); have hx172_0 := cell_arr3 hx171_2 hx171_3 hx171_4 x7_2 p172 q172; (try simp only [Nat.zero_add, Nat.add_zero] at hx172_0); replace p172 := eq_true p172; replace q172 := eq_true q172) | ((with_reducible refine gate_builtin (b := .append) (xs := #[.tmp 56, .tmp 63]) rfl ?_); at_builtin; refine Kd.R_append (Kd.int .i16) (w0 := w) w.heap.size rfl (.tmp 56) (.tmp 63) 139 85 (.int .i16 0) 2 rfl Try.underlying139 info85 rfl (by decide) (by omega) u3 x3_2 (rd [(rd_T89 ((rd_T34 l0 0).f0) (rd x3_1 x5_1)).f2.f0, (rd_T89 ((rd_T34 l0 0).f0) (rd x3_1 x5_1)).f2.f1, (rd_T89 ((rd_T34 l0 0).f0) (rd x3_1 x5_1)).f2.f2] x7_2) [.int .i16 (rd [(rd_T89 ((rd_T34 l0 0).f0) (rd x3_1 x5_1)).f2.f0, (rd_T89 ((rd_T34 l0 0).f0) (rd x3_1 x5_1)).f2.f1, (rd_T89 ((rd_T34 l0 0).f0) (rd x3_1 x5_1)).f2.f2] x7_2)] (fun _ => True) (fun _ => False) rfl rfl ?aP (fun _ hk => hk.elim) ?aF ?aO ?aB ?aS ?aL ?_; (case aP => exact rfl); (case aB => exact z2_1_); (case aF => exact (fun _ _ => trivial)); (case aO => exact z2_4_); (case aS => exact (below_size z2_1_)); (case aL => have := LMc29.out; omega); intro v174 w32 ho hb hg hat; rw [← Ny173.out] at ho; have _ := A_ (Kd.R_over' z2_11_ (Kd.R_typed z2_4_) (by decide) hg); have _ := A_ (hb); have _ := A_ (ho); clear HO_4 HB HO_3; rename_i HO_4 HB HO175; clear ho hb hg hat)); try go_wp2_with (first | (go_at_call 68; (with_reducible refine (spec_l06Ways.calls _ ([rd_T89 ((rd_T34 l0 0).f0) (rd x3_1 x5_1)]).length [rd_T89 ((rd_T34 l0 0).f0) (rd x3_1 x5_1)] t165 _ ?side1 ?side2 A19.out).mono ?_); (case side1 => have hx_ := (Kd.C_below HR164.out HB.out); exact kc_); (case side2 => exact Nat.le_refl _); rintro e w' ⟨rfl, ⟨nd, rfl⟩⟩; (try first | exact ⟨rfl, _, World.drewN_drewN _ _ _⟩ | exact ⟨rfl, _, Eq.trans (World.drewN_drewN _ _ _) (congrArg (World.drewN _) (Nat.add_assoc _ _ _))⟩); have q166 : 0 < ([rd_T89 ((rd_T34 l0 0).f0) (rd x3_1 x5_1)].length : Int) := of_decide_eq_true (by assumption); obtain ⟨ad166, e166, hx166_0, hx166_1, hx166_2, hx166_3, hx166_4⟩ := rp_T89 HR164.out q166; (try simp only [rd1_T89] at hx166_0 hx166_1 hx166_2 hx166_3 hx166_4); obtain rfl : (Addr.add ad163 ((rd x3_1 x5_1).toNat * 5)) = ad166 := (by injection e166); replace hx166_0 := cel HB.out hx166_0; replace hx166_1 := cel HB.out hx166_1; replace hx166_2 := cel HB.out hx166_2; replace hx166_3 := cel HB.out hx166_3; replace hx166_4 := cel HB.out hx166_4; have p167 : 0 ≤ (x7_2 : Int) := of_decide_eq_true (by assumption); have q167 : (x7_2 : Int) < 3 := of_decide_eq_true (by assumption); have hx167_0 := cell_arr3 hx166_2 hx166_3 hx166_4 x7_2 p167 q167; (try simp only [Nat.zero_add, Nat.add_zero] at hx167_0); replace p167 := eq_true p167; replace q167 := eq_true q167; have p168 : 0 ≤ ((rd [(rd_T89 ((rd_T34 l0 0).f0) (rd x3_1 x5_1)).f2.f0, (rd_T89 ((rd_T34 l0 0).f0) (rd x3_1 x5_1)).f2.f1, (rd_T89 ((rd_T34 l0 0).f0) (rd x3_1 x5_1)).f2.f2] x7_2) : Int) := of_decide_eq_true (by assumption); have q168 : (rd [(rd_T89 ((rd_T34 l0 0).f0) (rd x3_1 x5_1)).f2.f0, (rd_T89 ((rd_T34 l0 0).f0) (rd x3_1 x5_1)).f2.f1, (rd_T89 ((rd_T34 l0 0).f0) (rd x3_1 x5_1)).f2.f2] x7_2) < (x4_2.length : Int) := of_decide_eq_true (by assumption); obtain ⟨ad168, e168, hx168_0⟩ := Kd.at_bool (Kd.R_reads' HO_4.out).2.2 (rd [(rd_T89 ((rd_T34 l0 0).f0) (rd x3_1 x5_1)).f2.f0, (rd_T89 ((rd_T34 l0 0).f0) (rd x3_1 x5_1)).f2.f1, (rd_T89 ((rd_T34 l0 0).f0) (rd x3_1 x5_1)).f2.f2] x7_2) p168 q168; (try rw [← Nbq26.out] at hx168_0); obtain rfl : (⟨go6, 0, none⟩ : Addr) = ad168 := (by injection e168); (first | simp only [add_plain] at hx168_0 | simp only [add_at] at hx168_0 | simp only [Addr.add, Nat.zero_add] at hx168_0 | skip); replace p168 := eq_true p168; replace q168 := eq_true q168; have p169 : 0 ≤ (x7_2 : Int) := of_decide_eq_true (by assumption); have q169 : (x7_2 : Int) < 3 := of_decide_eq_true (by assumption); have hx169_0 := cell_arr3 hx166_2 hx166_3 hx166_4 x7_2 p169 q169; (try simp only [Nat.zero_add, Nat.add_zero] at hx169_0); replace p169 := eq_true p169; replace q169 := eq_true q169; have p28 : 0 ≤ ((rd [(rd_T89 ((rd_T34 l0 0).f0) (rd x3_1 x5_1)).f2.f0, (rd_T89 ((rd_T34 l0 0).f0) (rd x3_1 x5_1)).f2.f1, (rd_T89 ((rd_T34 l0 0).f0) (rd x3_1 x5_1)).f2.f2] x7_2) : Int) := of_decide_eq_true (by assumption); have q28 : ((rd [(rd_T89 ((rd_T34 l0 0).f0) (rd x3_1 x5_1)).f2.f0, (rd_T89 ((rd_T34 l0 0).f0) (rd x3_1 x5_1)).f2.f1, (rd_T89 ((rd_T34 l0 0).f0) (rd x3_1 x5_1)).f2.f2] x7_2) : Int) < ((x4_2.length : Int) : Int) := of_decide_eq_true (by assumption); obtain ⟨hx28_0, hf28_0⟩ := Kd.R_celln false HO_4.out ((rd [(rd_T89 ((rd_T34 l0 0).f0) (rd x3_1 x5_1)).f2.f0, (rd_T89 ((rd_T34 l0 0).f0) (rd x3_1 x5_1)).f2.f1, (rd_T89 ((rd_T34 l0 0).f0) (rd x3_1 x5_1)).f2.f2] x7_2) : Int) p28 q28; replace p28 := eq_true p28; replace q28 := eq_true q28; obtain ⟨hy30_, hz30_⟩ := Kd.R_celln false HO_4.out ((rd [(rd_T89 ((rd_T34 l0 0).f0) (rd x3_1 x5_1)).f2.f0, (rd_T89 ((rd_T34 l0 0).f0) (rd x3_1 x5_1)).f2.f1, (rd_T89 ((rd_T34 l0 0).f0) (rd x3_1 x5_1)).f2.f2] x7_2) : Int) (of_decide_eq_true (by assumption)) (of_decide_eq_true (by assumption)); have HP30 := Kd.R_putg HO_4.out ((rd [(rd_T89 ((rd_T34 l0 0).f0) (rd x3_1 x5_1)).f2.f0, (rd_T89 ((rd_T34 l0 0).f0) (rd x3_1 x5_1)).f2.f1, (rd_T89 ((rd_T34 l0 0).f0) (rd x3_1 x5_1)).f2.f2] x7_2) : Int) true) | ((with_reducible refine gate_store (t := 4) (p := 55) rfl ?_); (try (rw [drewN_self wr]; generalize hq_ : World.drewN wr _ = wr; have _ := A_ (Kd.R_at hq_ HO_3.out); have _ := A_ (Kd.R_at hq_ HO_4.out); have _ := A_ (below_at hq_ HB.out); clear hq_ HO_3 HO_4 HB; rename_i HO_3 HO_4 HB; (try (obtain ⟨hy30_, hz30_⟩ := Kd.R_celln false HO_4.out ((rd [(rd_T89 ((rd_T34 l0 0).f0) (rd x3_1 x5_1)).f2.f0, (rd_T89 ((rd_T34 l0 0).f0) (rd x3_1 x5_1)).f2.f1, (rd_T89 ((rd_T34 l0 0).f0) (rd x3_1 x5_1)).f2.f2] x7_2) : Int) (of_decide_eq_true (by assumption)) (of_decide_eq_true (by assumption)))); (try (have HP30 := Kd.R_putg HO_4.out ((rd [(rd_T89 ((rd_T34 l0 0).f0) (rd x3_1 x5_1)).f2.f0, (rd_T89 ((rd_T34 l0 0).f0) (rd x3_1 x5_1)).f2.f1, (rd_T89 ((rd_T34 l0 0).f0) (rd x3_1 x5_1)).f2.f2] x7_2) : Int) true)))); refine store_event (t := 4) (p := 55) (v := ?vo_w31) (w1 := (wr.setCell ⟨go6, ((rd [(rd_T89 ((rd_T34 l0 0).f0) (rd x3_1 x5_1)).f2.f0, (rd_T89 ((rd_T34 l0 0).f0) (rd x3_1 x5_1)).f2.f1, (rd_T89 ((rd_T34 l0 0).f0) (rd x3_1 x5_1)).f2.f2] x7_2) : Int).toNat, none⟩ (.bool true))) ?hg ?ho ?hn ?hr ?_; (case ho => rfl); (case hg => rfl); (case hn => rfl); (case hr => first | (go_simp; done) | (go_simp; rfl)); intro w31 hw; have hg : wr.grownBy w31 (some go6) := (by rw [hw]; exact HP30.2); have hp_ : Kd.R Kd.bool 4 w31 w.heap.size (fun _ => True) (.slice (some ⟨go6, 0, none⟩) x4_2.length co6) y170 := (by rw [hw, Ny170.out]; exact HP30.1); clear HP30; have _ := A_ (Kd.R_over' (v := (.slice (some ⟨go6, 0, none⟩) x4_2.length co6)) z2_4_ (Kd.R_typed HO_4.out) (by decide) hg); have _ := A_ (hp_); have _ := A_ ((by rw [hw]; exact below_set (HB.out) GB6.out : Below w.heap.size w w31)); clear HO_3 HO_4 HB; rename_i HO_3 HO_4 HB; clear hg hw hp_; have q171 : 0 < ([rd_T89 ((rd_T34 l0 0).f0) (rd x3_1 x5_1)].length : Int) := of_decide_eq_true (by assumption); obtain ⟨ad171, e171, hx171_0, hx171_1, hx171_2, hx171_3, hx171_4⟩ := rp_T89 HR164.out q171; (try simp only [rd1_T89] at hx171_0 hx171_1 hx171_2 hx171_3 hx171_4); obtain rfl : (Addr.add ad163 ((rd x3_1 x5_1).toNat * 5)) = ad171 := (by injection e171); replace hx171_0 := cel HB.out hx171_0; replace hx171_1 := cel HB.out hx171_1; replace hx171_2 := cel HB.out hx171_2; replace hx171_3 := cel HB.out hx171_3; replace hx171_4 := cel HB.out hx171_4; have p172 : 0 ≤ (x7_2 : Int) := of_decide_eq_true (by assumption); have q172 : (x7_2 : Int) < 3 := of_decide_eq_true (by assumption); have hx172_0 := cell_arr3 hx171_2 hx171_3 hx171_4 x7_2 p172 q172; (try simp only [Nat.zero_add, Nat.add_zero] at hx172_0); replace p172 := eq_true p172; replace q172 := eq_true q172) | ((with_reducible refine gate_builtin (b := .append) (xs := #[.tmp 56, .tmp 63]) rfl ?_); at_builtin; refine Kd.R_append (Kd.int .i16) (w0 := w) w.heap.size rfl (.tmp 56) (.tmp 63) 139 85 (.int .i16 0) 2 rfl Try.underlying139 info85 rfl (by decide) (by omega) u3 x3_2 (rd [(rd_T89 ((rd_T34 l0 0).f0) (rd x3_1 x5_1)).f2.f0, (rd_T89 ((rd_T34 l0 0).f0) (rd x3_1 x5_1)).f2.f1, (rd_T89 ((rd_T34 l0 0).f0) (rd x3_1 x5_1)).f2.f2] x7_2) [.int .i16 (rd [(rd_T89 ((rd_T34 l0 0).f0) (rd x3_1 x5_1)).f2.f0, (rd_T89 ((rd_T34 l0 0).f0) (rd x3_1 x5_1)).f2.f1, (rd_T89 ((rd_T34 l0 0).f0) (rd x3_1 x5_1)).f2.f2] x7_2)] (fun _ => True) (fun _ => False) rfl rfl ?aP (fun _ hk => hk.elim) ?aF ?aO ?aB ?aS ?aL ?_; (case aP => exact rfl); (case aB => exact z2_1_); (case aF => exact (fun _ _ => trivial)); (case aO => exact z2_4_); (case aS => exact (below_size z2_1_)); (case aL => have := LMc29.out; omega); intro v174 w32 ho hb hg hat; rw [← Ny173.out] at ho; have _ := A_ (Kd.R_over' z2_11_ (Kd.R_typed z2_4_) (by decide) hg); have _ := A_ (hb); have _ := A_ (ho); clear HO_4 HB HO_3; rename_i HO_4 HB HO175; clear ho hb hg hat)))
                      (try simp only [← hl4_2])
                      go_roundg k2
                      case measure => have := HK1.out; have := HK2.out; omega
                      case rel => exact ⟨(y173), (y170), (wrap64 (x7_2 + 1)), z2_2_, H', ⟨z2_12_⟩, ⟨(by (try simp only [hl4_1]); (try simp only [hl4_2]); (with_reducible repeat (first | apply Kd.R_alloc | apply Kd.R_drewN | apply Kd.R_drew)); exact HO175.out)⟩, ⟨z2_10_⟩, ⟨z2_1_⟩⟩
                     ·
                      rw [if_neg c29] at H
                      exact absurd H (by simp)
                   ·
                    rw [if_neg c25] at H
                    exact absurd H (by simp)
                  ·
                   rw [if_neg c24] at H
                   exact absurd H (by simp)
                 ·
                  rw [if_neg c23] at H
                  exact absurd H (by simp)
                ·
                 rw [if_neg c22] at H
                 exact absurd H (by simp)
               ·
                rw [if_neg c21] at H
                exact absurd H (by simp)
              ·
               rw [if_neg c20] at H
               have c20b0 := decide_eq_false c20
               clear c20
               have H' := A_ H
               clear H
               go_wp2_with (first | (go_at_call 68; (with_reducible refine (spec_l06Ways.calls _ ([rd_T89 ((rd_T34 l0 0).f0) (rd x3_1 x5_1)]).length [rd_T89 ((rd_T34 l0 0).f0) (rd x3_1 x5_1)] t165 _ ?side1 ?side2 A19.out).mono ?_); (case side1 => have hx_ := (Kd.C_below HR164.out HB.out); exact kc_); (case side2 => exact Nat.le_refl _); rintro e w' ⟨rfl, ⟨nd, rfl⟩⟩; (try first | exact ⟨rfl, _, World.drewN_drewN _ _ _⟩ | exact ⟨rfl, _, Eq.trans (World.drewN_drewN _ _ _) (congrArg (World.drewN _) (Nat.add_assoc _ _ _))⟩)))
               repeat (go_quiet (first | (go_at_call 68; (with_reducible refine (spec_l06Ways.calls _ ([rd_T89 ((rd_T34 l0 0).f0) (rd x3_1 x5_1)]).length [rd_T89 ((rd_T34 l0 0).f0) (rd x3_1 x5_1)] t165 _ ?side1 ?side2 A19.out).mono ?_); (case side1 => have hx_ := (Kd.C_below HR164.out HB.out); exact kc_); (case side2 => exact Nat.le_refl _); rintro e w' ⟨rfl, ⟨nd, rfl⟩⟩; (try first | exact ⟨rfl, _, World.drewN_drewN _ _ _⟩ | exact ⟨rfl, _, Eq.trans (World.drewN_drewN _ _ _) (congrArg (World.drewN _) (Nat.add_assoc _ _ _))⟩))); try go_wp2_with (first | (go_at_call 68; (with_reducible refine (spec_l06Ways.calls _ ([rd_T89 ((rd_T34 l0 0).f0) (rd x3_1 x5_1)]).length [rd_T89 ((rd_T34 l0 0).f0) (rd x3_1 x5_1)] t165 _ ?side1 ?side2 A19.out).mono ?_); (case side1 => have hx_ := (Kd.C_below HR164.out HB.out); exact kc_); (case side2 => exact Nat.le_refl _); rintro e w' ⟨rfl, ⟨nd, rfl⟩⟩; (try first | exact ⟨rfl, _, World.drewN_drewN _ _ _⟩ | exact ⟨rfl, _, Eq.trans (World.drewN_drewN _ _ _) (congrArg (World.drewN _) (Nat.add_assoc _ _ _))⟩))))
               (try simp only [← hl4_1, ← hl4_2])
               go_roundg k2
               case measure => have := HK1.out; have := HK2.out; omega
               case rel => exact ⟨(x3_2), (x4_2), (wrap64 (x5_1 + 1)), z2_2_, H', ⟨z2_12_⟩, ⟨z2_14_⟩, ⟨z2_10_⟩, ⟨z2_1_⟩⟩
           ·
            rw [if_neg c17] at H
            exact absurd H (by simp)
          ·
           rw [if_neg c16] at H
           exact absurd H (by simp)
         ·
          rw [if_neg c15] at H
          exact absurd H (by simp)
        ·
         rw [if_neg c14] at H
         exact absurd H (by simp)
       ·
        rw [if_neg c13] at H
        have c13b0 := decide_eq_false c13
        clear c13
        obtain rfl := Option.some.inj H
        obtain ⟨Ao33, co33, eo33⟩ := Kd.R_slice HO_3.out
        subst eo33
        go_wp2
        repeat (go_quiet (fail); try go_wp2)
        go_ret
        exact ⟨_, z2_13_, z2_4_, z2_1_⟩
    ·
     rw [if_neg c5] at H
     exact absurd H (by simp)
   ·
    rw [if_neg c4] at H
    exact absurd H (by simp)
  ·
   rw [if_neg c3] at H
   exact absurd H (by simp)
 ·
  rw [if_neg c2] at H
  exact absurd H (by simp)
end Go.Proofs.Ytpfnohdnaocpdaa.PT

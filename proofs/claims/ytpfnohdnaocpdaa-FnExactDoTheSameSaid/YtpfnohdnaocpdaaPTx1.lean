import Derived.Test.YtpfnohdnaocpdaaPTx0
namespace Go.Proofs.Ytpfnohdnaocpdaa.PT
open Go.RowKit Go.Proofs.YtpfnohdnaocpdaaW.PrintWords Go.Proofs.YtpfnohdnaocpdaaW.PrintLast Go.Proofs.YtpfnohdnaocpdaaW.PrintMore Go.Proofs.YtpfnohdnaocpdaaRP
attribute [local go_sem] max2_int min2_int max_two min_two max_three min_three max_four min_four Go.Proofs.YtpfnohdnaocpdaaRP.max_eight Go.Proofs.YtpfnohdnaocpdaaRP.tmod_len   -- for this text's walks alone
set_option linter.unusedVariables false
set_option linter.unusedSimpArgs false
theorem eqA87 (d : Nat) (w : World) (x0 y0 : Int) (x1 y1 : Int) (x2 y2 : Int) :
  (Op.equalIn (d + 2) 87 (.agg #[.int .i16 x0, .int .i16 x1, .int .i16 x2]) (.agg #[.int .i16 y0, .int .i16 y1, .int .i16 y2])).run Try.prog w = .ok (x0 == y0 && (x1 == y1 && (x2 == y2))) w := by
 unfold Op.equalIn
 simp [Try.underlying87]
 have hr : List.range' 0 3 = [0, 1, 2] := rfl
 rw [hr]
 have hx0 : ∀ w' : World, (part 85 #[.int .i16 x0, .int .i16 x1, .int .i16 x2] 0).run Try.prog w' = .ok (.int .i16 x0) w' := by intro w'; go_simp
 have hy0 : ∀ w' : World, (part 85 #[.int .i16 y0, .int .i16 y1, .int .i16 y2] 0).run Try.prog w' = .ok (.int .i16 y0) w' := by intro w'; go_simp
 have e0 : ∀ w' : World, (Op.equalIn (d + 1) 85 (.int .i16 x0) (.int .i16 y0)).run Try.prog w' = .ok (x0 == y0) w' := by intro w'; go_simp
 generalize (x0 == y0) = b0 at e0 ⊢
 have hx1 : ∀ w' : World, (part 85 #[.int .i16 x0, .int .i16 x1, .int .i16 x2] 1).run Try.prog w' = .ok (.int .i16 x1) w' := by intro w'; go_simp
 have hy1 : ∀ w' : World, (part 85 #[.int .i16 y0, .int .i16 y1, .int .i16 y2] 1).run Try.prog w' = .ok (.int .i16 y1) w' := by intro w'; go_simp
 have e1 : ∀ w' : World, (Op.equalIn (d + 1) 85 (.int .i16 x1) (.int .i16 y1)).run Try.prog w' = .ok (x1 == y1) w' := by intro w'; go_simp
 generalize (x1 == y1) = b1 at e1 ⊢
 have hx2 : ∀ w' : World, (part 85 #[.int .i16 x0, .int .i16 x1, .int .i16 x2] 2).run Try.prog w' = .ok (.int .i16 x2) w' := by intro w'; go_simp
 have hy2 : ∀ w' : World, (part 85 #[.int .i16 y0, .int .i16 y1, .int .i16 y2] 2).run Try.prog w' = .ok (.int .i16 y2) w' := by intro w'; go_simp
 have e2 : ∀ w' : World, (Op.equalIn (d + 1) 85 (.int .i16 x2) (.int .i16 y2)).run Try.prog w' = .ok (x2 == y2) w' := by intro w'; go_simp
 generalize (x2 == y2) = b2 at e2 ⊢
 simp only [List.forIn_cons, List.forIn_nil, Sem.run_bind]
 cases b0
 ·
  simp [hx0, hy0, e0, hx1, hy1, e1, hx2, hy2, e2]
 cases b1
 ·
  simp [hx0, hy0, e0, hx1, hy1, e1, hx2, hy2, e2]
 cases b2 <;> simp [hx0, hy0, e0, hx1, hy1, e1, hx2, hy2, e2]
theorem eqA89 (d : Nat) (w : World) (x0 y0 : Int) (x1 y1 : Int) (x2 y2 : Int) (x3 y3 : Int) (x4 y4 : Int) :
  (Op.equalIn (d + 3) 89 (.agg #[.int .i8 x0, .int .i8 x1, .int .i16 x2, .int .i16 x3, .int .i16 x4]) (.agg #[.int .i8 y0, .int .i8 y1, .int .i16 y2, .int .i16 y3, .int .i16 y4])).run Try.prog w = .ok (x0 == y0 && (x1 == y1 && ((x2 == y2 && (x3 == y3 && (x4 == y4)))))) w := by
 refine eqA_of Try.underlying89 (by kernel_rfl) ?_
 refine eqf_cons (by rfl) (by go_simp; rfl) (by go_simp; rfl) (by go_simp) ?_
 refine eqf_cons (by rfl) (by go_simp; rfl) (by go_simp; rfl) (by go_simp) ?_
 exact eqf_last (by rfl) (by go_simp) (by go_simp) (eqA87 (d + 0) w _ _ _ _ _ _)
theorem z1_1_ {P : Prop} (h : P := by repeat (first | (with_reducible first | exact HB.out | apply below_alloc | apply pw_below_drewN | apply below_drew1) | exact HB.out)) : P := h
theorem z1_2_ {P : Prop} (h : P := by repeat (first | (with_reducible first | exact HB.out | apply below_alloc | apply pw_below_drewN | apply below_drew1 | refine below_set ?_ GE134.out) | exact HB.out)) : P := h
theorem z1_3_ {P : Prop} (h : P := by (with_reducible repeat (first | refine blk_drewN ?_ _ | refine blk_drew ?_ | refine blk_alloc ?_ _)); exact BK134.out) : P := h
theorem z1_4_ {P : Prop} (h : P := by repeat (first | (with_reducible first | exact HB.out | apply below_alloc | apply pw_below_drewN | apply below_drew1 | refine below_set ?_ GE130.out) | exact HB.out)) : P := h
theorem z1_5_ {P : Prop} (h : P := by first | rfl | (simp [errW_none, errW_some] <;> rfl) | (simp [*, errW_none, errW_some] <;> rfl)) : P := h
theorem z1_6_ {P : Prop} (h : P := by (with_reducible repeat (first | refine blk_drewN ?_ _ | refine blk_drew ?_ | refine blk_alloc ?_ _)); exact BK130.out) : P := h
theorem z1_7_ {P : Prop} (h : P := by (try simp only [List.map_toArray, List.map_cons, List.map_nil]); first | done | rfl | (simp only [List.length_drop, List.length_take]; rfl)) : P := h
theorem z1_8_ {P : Prop} (h : P := by repeat (first | (with_reducible first | exact HB.out | apply below_alloc | apply pw_below_drewN | apply below_drew1 | refine below_set ?_ GE134.out | refine below_set ?_ GE135.out) | exact HB.out)) : P := h
theorem z1_9_ {P : Prop} (h : P := by (with_reducible repeat (first | refine blk_drewN ?_ _ | refine blk_drew ?_ | refine blk_alloc ?_ _)); exact BK103.out) : P := h
theorem z1_10_ {P : Prop} (h : P := by (with_reducible repeat (first | refine blk_drewN ?_ _ | refine blk_drew ?_ | refine blk_alloc ?_ _)); exact BK124.out) : P := h
theorem z1_11_ {P : Prop} (h : P := by repeat (first | (with_reducible first | exact HB.out | apply below_alloc | apply pw_below_drewN | apply below_drew1 | refine below_set ?_ GE103.out | refine below_set ?_ GE104.out | refine below_set ?_ GE105.out) | exact HB.out)) : P := h
theorem z1_12_ {P : Prop} (h : P := by first | rfl | (simp; done) | (simp [*]; done) | (simp [isE_]; done)) : P := h
theorem z1_13_ {P : Prop} (h : P := by repeat (first | (with_reducible first | exact HB.out | apply below_alloc | apply pw_below_drewN | apply below_drew1 | refine below_set ?_ GE130.out | refine below_set ?_ GE131.out) | exact HB.out)) : P := h
theorem z1_14_ {P : Prop} (h : P := by (with_reducible repeat (first | refine blk_drewN ?_ _ | refine blk_drew ?_ | refine blk_alloc ?_ _)); exact BK108.out) : P := h
theorem z1_15_ {P : Prop} (h : P := by (with_reducible repeat (first | refine blk_drewN ?_ _ | refine blk_drew ?_ | refine blk_alloc ?_ _)); exact BK104.out) : P := h
theorem z1_16_ {P : Prop} (h : P := by repeat (first | (with_reducible first | exact HB.out | apply below_alloc | apply pw_below_drewN | apply below_drew1 | refine below_set ?_ GE124.out | refine below_set ?_ GE125.out | refine below_set ?_ GE126.out) | exact HB.out)) : P := h
theorem z1_17_ {P : Prop} (h : P := by repeat (first | (with_reducible first | exact HB.out | apply below_alloc | apply pw_below_drewN | apply below_drew1 | refine below_set ?_ GE124.out | refine below_set ?_ GE125.out) | exact HB.out)) : P := h
theorem z1_18_ {P : Prop} (h : P := by repeat (first | (with_reducible first | exact HB.out | apply below_alloc | apply pw_below_drewN | apply below_drew1 | refine below_set ?_ GE108.out | refine below_set ?_ GE109.out) | exact HB.out)) : P := h
theorem z1_19_ {P : Prop} (h : P := by repeat (first | (with_reducible first | exact HB.out | apply below_alloc | apply pw_below_drewN | apply below_drew1 | refine below_set ?_ GE103.out | refine below_set ?_ GE104.out) | exact HB.out)) : P := h
theorem z1_20_ {P : Prop} (h : P := by (with_reducible repeat (first | refine blk_drewN ?_ _ | refine blk_drew ?_ | refine blk_alloc ?_ _)); exact BK125.out) : P := h
theorem z1_21_ {P : Prop} (h : P := by repeat (first | (with_reducible first | exact HB.out | apply below_alloc | apply pw_below_drewN | apply below_drew1 | refine below_set ?_ GE124.out) | exact HB.out)) : P := h
theorem z1_22_ {P : Prop} (h : P := by repeat (first | (with_reducible first | exact HB.out | apply below_alloc | apply pw_below_drewN | apply below_drew1 | refine below_set ?_ GE108.out) | exact HB.out)) : P := h
theorem z1_23_ {P : Prop} (h : P := by repeat (first | (with_reducible first | exact HB.out | apply below_alloc | apply pw_below_drewN | apply below_drew1 | refine below_set ?_ GE103.out) | exact HB.out)) : P := h
theorem z1_24_ {P : Prop} (h : P := by (with_reducible repeat (first | apply Kd.R_alloc | apply Kd.R_drewN | apply Kd.R_drew)); exact HO_3.out) : P := h
theorem z1_25_ {P : Prop} (h : P := by (with_reducible repeat (first | refine blk_drewN ?_ _ | refine blk_drew ?_ | refine blk_alloc ?_ _)); exact BK109.out) : P := h
theorem z1_26_ {P : Prop} (h : P := by repeat (first | (with_reducible first | exact HB.out | apply below_alloc | apply pw_below_drewN | apply below_drew1 | refine below_set ?_ GE108.out | refine below_set ?_ GE109.out | refine below_set ?_ GE110.out) | exact HB.out)) : P := h
theorem z1_27_ {P : Prop} (h : P := by repeat (first | (with_reducible first | exact HB.out | apply below_alloc | apply pw_below_drewN | apply below_drew1 | refine below_set ?_ GE101.out) | exact HB.out)) : P := h
theorem z1_28_ {P : Prop} (h : P := by (with_reducible repeat (first | refine blk_drewN ?_ _ | refine blk_drew ?_ | refine blk_alloc ?_ _)); exact BK135.out) : P := h
theorem z1_29_ {P : Prop} (h : P := by (with_reducible repeat (first | refine blk_drewN ?_ _ | refine blk_drew ?_ | refine blk_alloc ?_ _)); exact BK131.out) : P := h
theorem z1_30_ {P : Prop} (h : P := by (with_reducible repeat (first | refine blk_drewN ?_ _ | refine blk_drew ?_ | refine blk_alloc ?_ _)); exact BK105.out) : P := h
/-! ### laws_szForkS: function 54 -/
def laws_szForkS.f (l0 : List (S158)) (a1 : Int) : Option (Int) := if (wrap64 (a1 - (l0.length : Int))) < 0 then (some (-1)) else (some (wrap64 (a1 - (l0.length : Int))))
set_option maxHeartbeats 8000000 in
set_option maxRecDepth 100000 in
theorem laws_szForkS.calls (A0 : Option Addr) (c0 : Nat) (l0 : List (S158)) (a1 : Int) (r : Int) (w : World) (hr0 : Kd.C k158 w A0 l0.length l0) (hc0 : l0.length ≤ c0) (h : laws_szForkS.f l0 a1 = some r) :
  Calls Try.prog 54 #[.slice A0 l0.length c0, .int .i64 a1] w fun e w' => e = .returned (.int .i64 r) ∧ Drawn0 w w' := by
 have HR0 := A_ hr0
 have HC0 := A_ hc0
 clear hr0 hc0
 have H : (if (wrap64 (a1 - (l0.length : Int))) < 0 then (some (-1)) else (some (wrap64 (a1 - (l0.length : Int))))) = some r := h
 clear h
 by_cases c3 : (wrap64 (a1 - (l0.length : Int))) < 0
 ·
  rw [if_pos c3] at H
  have c3b0 := decide_eq_true c3
  clear c3
  obtain rfl := Option.some.inj H
  go_enter Try.func54, Try.ntmps54
  go_wp2
  go_ret
  exact ⟨z1_12_, (by repeat (first | exact Drawn0.refl _ | apply Drawn0.step))⟩
 ·
  rw [if_neg c3] at H
  have c3b0 := decide_eq_false c3
  clear c3
  obtain rfl := Option.some.inj H
  go_enter Try.func54, Try.ntmps54
  go_wp2
  go_ret
  exact ⟨z1_12_, (by repeat (first | exact Drawn0.refl _ | apply Drawn0.step))⟩
/-! ### laws_szTree: function 14 -/
def laws_szTree.f (l0_0 : List (S158)) (a1 : Int) : Option (Int) := (laws_szForkS.f l0_0 a1).bind fun t102 => (if t102 < 0 then (some (-1)) else (some t102))
set_option maxHeartbeats 8000000 in
set_option maxRecDepth 100000 in
theorem laws_szTree.calls (A0_0 : Option Addr) (c0_0 : Nat) (l0_0 : List (S158)) (a1 : Int) (r : Int) (w : World) (hr0_0 : Kd.C k158 w A0_0 l0_0.length l0_0) (hc0_0 : l0_0.length ≤ c0_0) (h : laws_szTree.f l0_0 a1 = some r) :
  Calls Try.prog 14 #[.agg #[.slice A0_0 l0_0.length c0_0], .int .i64 a1] w fun e w' => e = .returned (.int .i64 r) ∧ Below w.heap.size w w' := by
 have hu24 := Try.underlying24
 have HR0_0 := A_ hr0_0
 have HC0_0 := A_ hc0_0
 clear hr0_0 hc0_0
 have HB := A_ (Below.refl w.heap.size w)
 have H : ((laws_szForkS.f l0_0 a1).bind fun t102 => (if t102 < 0 then (some (-1)) else (some t102))) = some r := h
 clear h
 replace H := Option.bind_eq_some_iff.mp H
 obtain ⟨t102, A30, H⟩ := H
 try dsimp only at H
 have A3 := A_ A30
 clear A30
 by_cases c4 : t102 < 0
 ·
  rw [if_pos c4] at H
  have c4b0 := decide_eq_true c4
  clear c4
  obtain rfl := Option.some.inj H
  go_enter Try.func14, Try.ntmps14
  go_wp2_with (first | ((with_reducible refine gate_dst (N := 2) rfl ?_); refine box_event ?hg (N := 2) ?hd (cs := #[.slice A0_0 l0_0.length c0_0]) (t := 24) ?hr ?_; (case hd => rfl); (case hg => rfl); (case hr => first | (go_simp; done) | (go_simp; rfl)); intro gb101 hg w5 hbox hb; have _ := A_ (below_step z1_1_ hb); have _ := A_ (hbox); have _ := A_ ((by rw [hg]; exact (below_size z1_1_) : w.heap.size ≤ gb101)); have _ := A_ ((by rw [hg]; exact (below_size z1_1_) : w.heap.size ≤ gb101)); clear HB; rename_i HB BK101 GW101 GE101; clear hb hbox hg; have hcz6_0 : w5.cell? ⟨gb101, 0, none⟩ = some (.slice A0_0 l0_0.length c0_0) := (blk_cell BK101.out 0).trans rfl; have hfz6_0 := blk_frozen BK101.out 0) | ((with_reducible refine gate_callee (f := 54) rfl ?_); refine goesL_ (some 8) rfl rfl Try.func54 (by kernel_rfl) rfl #[.slice A0_0 l0_0.length c0_0, .int .i64 a1] rfl z1_7_ ?_; (with_reducible refine (laws_szForkS.calls _ _ l0_0 a1 t102 _ ?side1 ?side2 A3.out).mono ?_); (case side1 => have hx_ := (Kd.C_below HR0_0.out HB.out); exact kc_); (case side2 => exact HC0_0.out); rintro e w' ⟨rfl, ⟨nd, rfl⟩⟩; refine ⟨_, rfl, ?_⟩))
  go_ret
  exact ⟨z1_5_, z1_27_⟩
 ·
  rw [if_neg c4] at H
  have c4b0 := decide_eq_false c4
  clear c4
  obtain rfl := Option.some.inj H
  go_enter Try.func14, Try.ntmps14
  go_wp2_with (first | ((with_reducible refine gate_dst (N := 2) rfl ?_); refine box_event ?hg (N := 2) ?hd (cs := #[.slice A0_0 l0_0.length c0_0]) (t := 24) ?hr ?_; (case hd => rfl); (case hg => rfl); (case hr => first | (go_simp; done) | (go_simp; rfl)); intro gb101 hg w7 hbox hb; have _ := A_ (below_step z1_1_ hb); have _ := A_ (hbox); have _ := A_ ((by rw [hg]; exact (below_size z1_1_) : w.heap.size ≤ gb101)); have _ := A_ ((by rw [hg]; exact (below_size z1_1_) : w.heap.size ≤ gb101)); clear HB; rename_i HB BK101 GW101 GE101; clear hb hbox hg; have hcz8_0 : w7.cell? ⟨gb101, 0, none⟩ = some (.slice A0_0 l0_0.length c0_0) := (blk_cell BK101.out 0).trans rfl; have hfz8_0 := blk_frozen BK101.out 0) | ((with_reducible refine gate_callee (f := 54) rfl ?_); refine goesL_ (some 8) rfl rfl Try.func54 (by kernel_rfl) rfl #[.slice A0_0 l0_0.length c0_0, .int .i64 a1] rfl z1_7_ ?_; (with_reducible refine (laws_szForkS.calls _ _ l0_0 a1 t102 _ ?side1 ?side2 A3.out).mono ?_); (case side1 => have hx_ := (Kd.C_below HR0_0.out HB.out); exact kc_); (case side2 => exact HC0_0.out); rintro e w' ⟨rfl, ⟨nd, rfl⟩⟩; refine ⟨_, rfl, ?_⟩))
  go_ret
  exact ⟨z1_5_, z1_27_⟩
/-! ### laws_toInt16A3: function 146 -/
def laws_toInt16A3.l0 : Nat → Int → Int → Int → Int → Int → Int → Int → Option (Int × Int × Int)
 | 0, _, _, _, _, _, _, _ => none
 | k + 1, x4, x104000, x104001, x104002, x106000, x106001, x106002 => if x4 < 3 then (if 0 ≤ x4 then (laws_toInt16A3.l0 k (wrap64 (x4 + 1)) x104000 x104001 x104002 (up 0 x4 (rd [x104000, x104001, x104002] x4) x106000) (up 1 x4 (rd [x104000, x104001, x104002] x4) x106001) (up 2 x4 (rd [x104000, x104001, x104002] x4) x106002)) else (none)) else (some (x106000, x106001, x106002))
def laws_toInt16A3.f (k : Nat) (a0_0 : Int) (a0_1 : Int) (a0_2 : Int) : Option (Int × Int × Int) := laws_toInt16A3.l0 k 0 a0_0 a0_1 a0_2 0 0 0
theorem laws_toInt16A3.mono_l : ∀ k, (∀ y0 y1 y2 y3 y4 y5 y6, LeO (laws_toInt16A3.l0 k y0 y1 y2 y3 y4 y5 y6) (laws_toInt16A3.l0 (k + 1) y0 y1 y2 y3 y4 y5 y6))
 | 0 => fun _ _ _ _ _ _ _ r h => by simp [laws_toInt16A3.l0] at h
 | k + 1 => by
  have ih0 := laws_toInt16A3.mono_l k
  ·
   intro y0 y1 y2 y3 y4 y5 y6
   unfold laws_toInt16A3.l0
   repeat' first
   | (with_reducible exact ih0 _ _ _ _ _ _ _)
   | (with_reducible exact LeO.refl _)
   | (with_reducible exact LeO.none _)
   | (with_reducible refine LeO.ite ?_ ?_)
   | (with_reducible refine LeO.bind ?_ (fun _ => ?_))
   | exact ih0 _ _ _ _ _ _ _
   | exact LeO.none _
   | refine LeO.ite ?_ ?_
   | refine LeO.bind ?_ (fun _ => ?_)
theorem laws_toInt16A3.mono : ∀ a0 a1 a2 k, LeO (laws_toInt16A3.f k a0 a1 a2) (laws_toInt16A3.f (k + 1) a0 a1 a2) := by
 intro a0 a1 a2 k
 have ih0 := laws_toInt16A3.mono_l k
 unfold laws_toInt16A3.f
 repeat' first
   | (with_reducible exact ih0 _ _ _ _ _ _ _)
   | (with_reducible exact LeO.refl _)
   | (with_reducible exact LeO.none _)
   | (with_reducible refine LeO.ite ?_ ?_)
   | (with_reducible refine LeO.bind ?_ (fun _ => ?_))
   | exact ih0 _ _ _ _ _ _ _
   | exact LeO.none _
   | refine LeO.ite ?_ ?_
   | refine LeO.bind ?_ (fun _ => ?_)
set_option maxHeartbeats 8000000 in
set_option maxRecDepth 100000 in
theorem laws_toInt16A3.calls (k : Nat) (a0_0 : Int) (a0_1 : Int) (a0_2 : Int) (r1 : Int) (r2 : Int) (r3 : Int) (w : World) (h : laws_toInt16A3.f k a0_0 a0_1 a0_2 = some (r1, r2, r3)) :
  Calls Try.prog 146 #[.agg #[.int .i16 a0_0, .int .i16 a0_1, .int .i16 a0_2]] w fun e w' => e = .returned (.agg #[.int .i16 r1, .int .i16 r2, .int .i16 r3]) ∧ Below w.heap.size w w' := by
 have hu87 := Try.underlying87
 have HB := A_ (Below.refl w.heap.size w)
 have H : (laws_toInt16A3.l0 k 0 a0_0 a0_1 a0_2 0 0 0) = some (r1, r2, r3) := h
 clear h
 have H' := A_ H
 clear H
 go_enter Try.func146, Try.ntmps146
 go_wp2_with (first | ((with_reducible refine gate_dst (N := 1) rfl ?_); refine box_event ?hg (N := 1) ?hd (cs := #[.int .i16 a0_0, .int .i16 a0_1, .int .i16 a0_2]) (t := 87) ?hr ?_; (case hd => rfl); (case hg => rfl); (case hr => first | (go_simp; done) | (go_simp; rfl)); intro gb103 hg w2 hbox hb; have _ := A_ (below_step z1_1_ hb); have _ := A_ (hbox); have _ := A_ ((by rw [hg]; exact (below_size z1_1_) : w.heap.size ≤ gb103)); have _ := A_ ((by rw [hg]; exact (below_size z1_1_) : w.heap.size ≤ gb103)); clear HB; rename_i HB BK103 GW103 GE103; clear hb hbox hg) | ((with_reducible refine gate_dst (N := 2) rfl ?_); refine box_event ?hg (N := 2) ?hd (cs := #[.int .i16 0, .int .i16 0, .int .i16 0]) (t := 87) ?hr ?_; (case hd => rfl); (case hg => rfl); (case hr => first | (go_simp; done) | (go_simp; rfl)); intro gb104 hg w3 hbox hb; have _ := A_ (blk_below (g := gb103) (o := .cells #[.int .i16 a0_0, .int .i16 a0_1, .int .i16 a0_2] 87 (0, 0)) z1_9_ hb); have _ := A_ (below_step z1_23_ hb); have _ := A_ (hbox); have _ := A_ ((by rw [hg]; exact (below_size z1_23_) : w.heap.size ≤ gb104)); have _ := A_ ((by rw [hg]; exact (below_size z1_23_) : w.heap.size ≤ gb104)); have _ := A_ ((by rw [hg]; exact Nat.ne_of_lt (blk_lt (g := gb103) (o := .cells #[.int .i16 a0_0, .int .i16 a0_1, .int .i16 a0_2] 87 (0, 0)) z1_9_) : gb103 ≠ gb104)); have _ := A_ ((by rw [hg]; exact Nat.ne_of_gt (blk_lt (g := gb103) (o := .cells #[.int .i16 a0_0, .int .i16 a0_1, .int .i16 a0_2] 87 (0, 0)) z1_9_) : gb104 ≠ gb103)); clear BK103 HB; rename_i BK103 HB BK104 GW104 GE104 NB103_104 NB104_103; clear hb hbox hg) | ((with_reducible refine gate_dst (N := 3) rfl ?_); refine box_event ?hg (N := 3) ?hd (cs := #[.int .i16 0, .int .i16 0, .int .i16 0]) (t := 87) ?hr ?_; (case hd => rfl); (case hg => rfl); (case hr => first | (go_simp; done) | (go_simp; rfl)); intro gb105 hg w4 hbox hb; have _ := A_ (blk_below (g := gb103) (o := .cells #[.int .i16 a0_0, .int .i16 a0_1, .int .i16 a0_2] 87 (0, 0)) z1_9_ hb); have _ := A_ (blk_below (g := gb104) (o := .cells #[.int .i16 0, .int .i16 0, .int .i16 0] 87 (0, 0)) z1_15_ hb); have _ := A_ (below_step z1_19_ hb); have _ := A_ (hbox); have _ := A_ ((by rw [hg]; exact (below_size z1_19_) : w.heap.size ≤ gb105)); have _ := A_ ((by rw [hg]; exact (below_size z1_19_) : w.heap.size ≤ gb105)); have _ := A_ ((by rw [hg]; exact Nat.ne_of_lt (blk_lt (g := gb103) (o := .cells #[.int .i16 a0_0, .int .i16 a0_1, .int .i16 a0_2] 87 (0, 0)) z1_9_) : gb103 ≠ gb105)); have _ := A_ ((by rw [hg]; exact Nat.ne_of_gt (blk_lt (g := gb103) (o := .cells #[.int .i16 a0_0, .int .i16 a0_1, .int .i16 a0_2] 87 (0, 0)) z1_9_) : gb105 ≠ gb103)); have _ := A_ ((by rw [hg]; exact Nat.ne_of_lt (blk_lt (g := gb104) (o := .cells #[.int .i16 0, .int .i16 0, .int .i16 0] 87 (0, 0)) z1_15_) : gb104 ≠ gb105)); have _ := A_ ((by rw [hg]; exact Nat.ne_of_gt (blk_lt (g := gb104) (o := .cells #[.int .i16 0, .int .i16 0, .int .i16 0] 87 (0, 0)) z1_15_) : gb105 ≠ gb104)); clear BK103 BK104 HB; rename_i BK103 BK104 HB BK105 GW105 GE105 NB103_105 NB105_103 NB104_105 NB105_104; clear hb hbox hg))
 go_loopg [4] k (fun kq v4 w' => ∃ (x4_1 : Int) (x106000_1 : Int) (x106001_1 : Int) (x106002_1 : Int), v4 = .int .i64 x4_1 ∧ Aside0 (laws_toInt16A3.l0 kq x4_1 a0_0 a0_1 a0_2 x106000_1 x106001_1 x106002_1 = some (r1, r2, r3)) ∧ Aside0 (kq ≤ k) ∧ Aside0 (w'.heap[gb103]? = some (.cells #[.int .i16 a0_0, .int .i16 a0_1, .int .i16 a0_2] 87 (0, 0))) ∧ Aside0 (w'.heap[gb104]? = some (.cells #[.int .i16 0, .int .i16 0, .int .i16 0] 87 (0, 0))) ∧ Aside0 (w'.heap[gb105]? = some (.cells #[.int .i16 x106000_1, .int .i16 x106001_1, .int .i16 x106002_1] 87 (0, 0))) ∧ Aside0 (Below w.heap.size w w'))
 case atStart => exact ⟨(0), (0), (0), (0), z1_12_, H', ⟨Nat.le_refl _⟩, ⟨z1_9_⟩, ⟨z1_15_⟩, ⟨z1_30_⟩, ⟨z1_11_⟩⟩
 case round =>
  clear H'
  try clear c1
  try clear p2
  obtain ⟨x4_1, x106000_1, x106001_1, x106002_1, rfl, HA, HK1, BK103, BK104, BK105, HB⟩ := hrel
  cases gk with
  | zero => exact absurd HA.out (by simp [laws_toInt16A3.l0])
  | succ k1 =>
   have H := HA.out
   clear HA
   simp only [laws_toInt16A3.l0] at H
   by_cases c5 : x4_1 < 3
   ·
    rw [if_pos c5] at H
    have c5b0 := decide_eq_true c5
    clear c5
    by_cases c6 : 0 ≤ x4_1
    ·
     rw [if_pos c6] at H
     have c6b0 := decide_eq_true c6
     clear c6
     have H' := A_ H
     clear H
     have p106 : 0 ≤ (x4_1 : Int) := of_decide_eq_true (by assumption)
     have q106 : (x4_1 : Int) < 3 := of_decide_eq_true (by assumption)
     have hx106_0 := blk_arr (xs := [a0_0, a0_1, a0_2]) (k := .i16) BK103.out 0 rfl x4_1 p106 q106
     (try simp only [Nat.zero_add] at hx106_0)
     replace p106 := eq_true p106
     replace q106 := eq_true q106
     have p107 : 0 ≤ (x4_1 : Int) := of_decide_eq_true (by assumption)
     have q107 : (x4_1 : Int) < 3 := of_decide_eq_true (by assumption)
     have hx107_0 := blk_arr (xs := [x106000_1, x106001_1, x106002_1]) (k := .i16) BK105.out 0 rfl x4_1 p107 q107
     have hf107_0 := blk_frozen BK105.out (0 + (x4_1 : Int).toNat)
     have hcs107 := A_ (show (x4_1 : Int) = 0 ∨ (x4_1 : Int) = 1 ∨ (x4_1 : Int) = 2 by omega)
     (try simp only [Nat.zero_add] at hx107_0)
     (try simp only [Nat.zero_add] at hf107_0)
     replace p107 := eq_true p107
     replace q107 := eq_true q107
     go_wp2_with (first | ((with_reducible refine gate_store (t := 85) (p := 13) rfl ?_); refine store_event (t := 85) (p := 13) (v := ?vo_w7) (w1 := (wr.setCell ⟨gb105, (x4_1 : Int).toNat, none⟩ (.int .i16 (rd [a0_0, a0_1, a0_2] x4_1)))) ?hg ?ho ?hn ?hr ?_; (case ho => rfl); (case hg => rfl); (case hn => rfl); (case hr => first | (go_simp; done) | (go_simp; rfl)); intro w7 hw; have n0_ : Aside0 (w7.heap[gb103]? = some (.cells #[.int .i16 a0_0, .int .i16 a0_1, .int .i16 a0_2] 87 (0, 0))) := ⟨(by rw [hw]; exact (by (with_reducible repeat (first | refine blk_drewN ?_ _ | refine blk_drew ?_ | refine blk_alloc ?_ _)); refine blk_far ?_ NB103_105.out _; (with_reducible repeat (first | refine blk_drewN ?_ _ | refine blk_drew ?_ | refine blk_alloc ?_ _)); exact BK103.out))⟩; have n1_ : Aside0 (w7.heap[gb104]? = some (.cells #[.int .i16 0, .int .i16 0, .int .i16 0] 87 (0, 0))) := ⟨(by rw [hw]; exact (by (with_reducible repeat (first | refine blk_drewN ?_ _ | refine blk_drew ?_ | refine blk_alloc ?_ _)); refine blk_far ?_ NB104_105.out _; (with_reducible repeat (first | refine blk_drewN ?_ _ | refine blk_drew ?_ | refine blk_alloc ?_ _)); exact BK104.out))⟩; have n2_ : Aside0 (w7.heap[gb105]? = some (.cells #[.int .i16 (up 0 x4_1 (rd [a0_0, a0_1, a0_2] x4_1) x106000_1), .int .i16 (up 1 x4_1 (rd [a0_0, a0_1, a0_2] x4_1) x106001_1), .int .i16 (up 2 x4_1 (rd [a0_0, a0_1, a0_2] x4_1) x106002_1)] 87 (0, 0))) := ⟨(by rw [hw]; exact (by (with_reducible repeat (first | refine blk_drewN ?_ _ | refine blk_drew ?_ | refine blk_alloc ?_ _)); refine blk_put (cs := #[.int .i16 x106000_1, .int .i16 x106001_1, .int .i16 x106002_1]) ?_ ((x4_1 : Int).toNat) _ (by rcases hcs107.out with h_ | h_ | h_ <;> rw [h_] <;> rfl); (with_reducible repeat (first | refine blk_drewN ?_ _ | refine blk_drew ?_ | refine blk_alloc ?_ _)); exact BK105.out))⟩; have n3_ : Aside0 (Below w.heap.size w w7) := ⟨(by rw [hw]; exact z1_11_)⟩; clear hw; clear BK103; clear BK104; clear BK105; clear HB; have BK103 := n0_; have BK104 := n1_; have BK105 := n2_; have HB := n3_; clear n0_ n1_ n2_ n3_))
     go_roundg k1
     case measure => have := HK1.out; omega
     case rel => exact ⟨(wrap64 (x4_1 + 1)), (up 0 x4_1 (rd [a0_0, a0_1, a0_2] x4_1) x106000_1), (up 1 x4_1 (rd [a0_0, a0_1, a0_2] x4_1) x106001_1), (up 2 x4_1 (rd [a0_0, a0_1, a0_2] x4_1) x106002_1), z1_12_, H', ⟨(by have := HK1.out; omega)⟩, ⟨z1_9_⟩, ⟨z1_15_⟩, ⟨z1_30_⟩, ⟨z1_11_⟩⟩
    ·
     rw [if_neg c6] at H
     exact absurd H (by simp)
   ·
    rw [if_neg c5] at H
    have c5b0 := decide_eq_false c5
    clear c5
    simp only [Option.some.injEq, Prod.mk.injEq] at H
    obtain ⟨rfl, rfl, rfl⟩ := H
    have hnb8 := NB105_103.out
    have hnc8 := NB103_105.out
    have hnb9 := NB105_104.out
    have hnc9 := NB104_105.out
    obtain ⟨hcz10_0, hcz10_1, hcz10_2⟩ := bc3 BK105.out
    obtain ⟨hfz10_0, hfz10_1, hfz10_2⟩ := bf3 BK105.out
    have hnb11 := NB104_103.out
    have hnc11 := NB103_104.out
    obtain ⟨hcz12_0, hcz12_1, hcz12_2⟩ := bc3 BK104.out
    obtain ⟨hfz12_0, hfz12_1, hfz12_2⟩ := bf3 BK104.out
    go_wp2
    refine bodyPost_ret (results_cell_row rfl _ _ gb104 87 #[.int .i16 x106000_1, .int .i16 x106001_1, .int .i16 x106002_1] (0, 0) _ rfl (by (with_reducible repeat (first | refine blk_drewN ?_ _ | refine blk_drew ?_ | refine blk_alloc ?_ _)); refine blk_put (cs := #[.int .i16 x106000_1, .int .i16 x106001_1, .int .i16 0]) ?_ 2 _ rfl; (with_reducible repeat (first | refine blk_drewN ?_ _ | refine blk_drew ?_ | refine blk_alloc ?_ _)); refine blk_put (cs := #[.int .i16 x106000_1, .int .i16 0, .int .i16 0]) ?_ 1 _ rfl; (with_reducible repeat (first | refine blk_drewN ?_ _ | refine blk_drew ?_ | refine blk_alloc ?_ _)); refine blk_put (cs := #[.int .i16 0, .int .i16 0, .int .i16 0]) ?_ 0 _ rfl; (with_reducible repeat (first | refine blk_drewN ?_ _ | refine blk_drew ?_ | refine blk_alloc ?_ _)); exact BK104.out) Try.underlying87 rfl (by kernel_rfl)) rfl ?_
    exact ⟨z1_5_, z1_11_⟩
/-! ### laws_toFork: function 111 -/
def laws_toFork.f (k : Nat) (a0_0 : Int) (a0_1 : Int) (a0_2 : Int) (a0_3 : Int) (a0_4 : Int) : Option (Int × Int × Int × Int × Int) := (laws_toInt16A3.f k a0_2 a0_3 a0_4).bind fun bt111 => (some (a0_0, a0_1, bt111.1, bt111.2.1, bt111.2.2))
theorem laws_toFork.mono : ∀ a0 a1 a2 a3 a4 k, LeO (laws_toFork.f k a0 a1 a2 a3 a4) (laws_toFork.f (k + 1) a0 a1 a2 a3 a4) := by
 intro a0 a1 a2 a3 a4 k
 unfold laws_toFork.f
 repeat' first
   | (with_reducible exact laws_toInt16A3.mono _ _ _ _)
   | (with_reducible exact LeO.refl _)
   | (with_reducible exact LeO.none _)
   | (with_reducible refine LeO.ite ?_ ?_)
   | (with_reducible refine LeO.bind ?_ (fun _ => ?_))
   | exact LeO.none _
   | refine LeO.ite ?_ ?_
   | refine LeO.bind ?_ (fun _ => ?_)
set_option maxHeartbeats 8000000 in
set_option maxRecDepth 100000 in
theorem laws_toFork.calls (k : Nat) (a0_0 : Int) (a0_1 : Int) (a0_2 : Int) (a0_3 : Int) (a0_4 : Int) (r1 : Int) (r2 : Int) (r3 : Int) (r4 : Int) (r5 : Int) (w : World) (h : laws_toFork.f k a0_0 a0_1 a0_2 a0_3 a0_4 = some (r1, r2, r3, r4, r5)) :
  Calls Try.prog 111 #[.agg #[.int .i8 a0_0, .int .i8 a0_1, .int .i16 a0_2, .int .i16 a0_3, .int .i16 a0_4]] w fun e w' => e = .returned (.agg #[.int .i8 r1, .int .i8 r2, .int .i16 r3, .int .i16 r4, .int .i16 r5]) ∧ Below w.heap.size w w' := by
 have hu158 := Try.underlying158
 have hu89 := Try.underlying89
 have hu87 := Try.underlying87
 have HB := A_ (Below.refl w.heap.size w)
 have H : ((laws_toInt16A3.f k a0_2 a0_3 a0_4).bind fun bt111 => (some (a0_0, a0_1, bt111.1, bt111.2.1, bt111.2.2))) = some (r1, r2, r3, r4, r5) := h
 clear h
 replace H := Option.bind_eq_some_iff.mp H
 obtain ⟨⟨t111, t112, t113⟩, A20, H⟩ := H
 try dsimp only at H
 have A2 := A_ A20
 clear A20
 simp only [Option.some.injEq, Prod.mk.injEq] at H
 obtain ⟨rfl, rfl, rfl, rfl, rfl⟩ := H
 go_enter Try.func111, Try.ntmps111
 go_wp2_with (first | ((with_reducible refine gate_dst (N := 1) rfl ?_); refine box_event ?hg (N := 1) ?hd (cs := #[.int .i8 a0_0, .int .i8 a0_1, .int .i16 a0_2, .int .i16 a0_3, .int .i16 a0_4]) (t := 158) ?hr ?_; (case hd => rfl); (case hg => rfl); (case hr => first | (go_simp; done) | (go_simp; rfl)); intro gb108 hg w3 hbox hb; have _ := A_ (below_step z1_1_ hb); have _ := A_ (hbox); have _ := A_ ((by rw [hg]; exact (below_size z1_1_) : w.heap.size ≤ gb108)); have _ := A_ ((by rw [hg]; exact (below_size z1_1_) : w.heap.size ≤ gb108)); clear HB; rename_i HB BK108 GW108 GE108; clear hb hbox hg) | ((with_reducible refine gate_dst (N := 2) rfl ?_); refine box_event ?hg (N := 2) ?hd (cs := #[.int .i8 0, .int .i8 0, .int .i16 0, .int .i16 0, .int .i16 0]) (t := 89) ?hr ?_; (case hd => rfl); (case hg => rfl); (case hr => first | (go_simp; done) | (go_simp; rfl)); intro gb109 hg w4 hbox hb; have _ := A_ (blk_below (g := gb108) (o := .cells #[.int .i8 a0_0, .int .i8 a0_1, .int .i16 a0_2, .int .i16 a0_3, .int .i16 a0_4] 158 (0, 0)) z1_14_ hb); have _ := A_ (below_step z1_22_ hb); have _ := A_ (hbox); have _ := A_ ((by rw [hg]; exact (below_size z1_22_) : w.heap.size ≤ gb109)); have _ := A_ ((by rw [hg]; exact (below_size z1_22_) : w.heap.size ≤ gb109)); have _ := A_ ((by rw [hg]; exact Nat.ne_of_lt (blk_lt (g := gb108) (o := .cells #[.int .i8 a0_0, .int .i8 a0_1, .int .i16 a0_2, .int .i16 a0_3, .int .i16 a0_4] 158 (0, 0)) z1_14_) : gb108 ≠ gb109)); have _ := A_ ((by rw [hg]; exact Nat.ne_of_gt (blk_lt (g := gb108) (o := .cells #[.int .i8 a0_0, .int .i8 a0_1, .int .i16 a0_2, .int .i16 a0_3, .int .i16 a0_4] 158 (0, 0)) z1_14_) : gb109 ≠ gb108)); clear BK108 HB; rename_i BK108 HB BK109 GW109 GE109 NB108_109 NB109_108; clear hb hbox hg) | ((with_reducible refine gate_dst (N := 3) rfl ?_); refine box_event ?hg (N := 3) ?hd (cs := #[.int .i8 0, .int .i8 0, .int .i16 0, .int .i16 0, .int .i16 0]) (t := 89) ?hr ?_; (case hd => rfl); (case hg => rfl); (case hr => first | (go_simp; done) | (go_simp; rfl)); intro gb110 hg w5 hbox hb; have _ := A_ (blk_below (g := gb108) (o := .cells #[.int .i8 a0_0, .int .i8 a0_1, .int .i16 a0_2, .int .i16 a0_3, .int .i16 a0_4] 158 (0, 0)) z1_14_ hb); have _ := A_ (blk_below (g := gb109) (o := .cells #[.int .i8 0, .int .i8 0, .int .i16 0, .int .i16 0, .int .i16 0] 89 (0, 0)) z1_25_ hb); have _ := A_ (below_step z1_18_ hb); have _ := A_ (hbox); have _ := A_ ((by rw [hg]; exact (below_size z1_18_) : w.heap.size ≤ gb110)); have _ := A_ ((by rw [hg]; exact (below_size z1_18_) : w.heap.size ≤ gb110)); have _ := A_ ((by rw [hg]; exact Nat.ne_of_lt (blk_lt (g := gb108) (o := .cells #[.int .i8 a0_0, .int .i8 a0_1, .int .i16 a0_2, .int .i16 a0_3, .int .i16 a0_4] 158 (0, 0)) z1_14_) : gb108 ≠ gb110)); have _ := A_ ((by rw [hg]; exact Nat.ne_of_gt (blk_lt (g := gb108) (o := .cells #[.int .i8 a0_0, .int .i8 a0_1, .int .i16 a0_2, .int .i16 a0_3, .int .i16 a0_4] 158 (0, 0)) z1_14_) : gb110 ≠ gb108)); have _ := A_ ((by rw [hg]; exact Nat.ne_of_lt (blk_lt (g := gb109) (o := .cells #[.int .i8 0, .int .i8 0, .int .i16 0, .int .i16 0, .int .i16 0] 89 (0, 0)) z1_25_) : gb109 ≠ gb110)); have _ := A_ ((by rw [hg]; exact Nat.ne_of_gt (blk_lt (g := gb109) (o := .cells #[.int .i8 0, .int .i8 0, .int .i16 0, .int .i16 0, .int .i16 0] 89 (0, 0)) z1_25_) : gb110 ≠ gb109)); clear BK108 BK109 HB; rename_i BK108 BK109 HB BK110 GW110 GE110 NB108_110 NB110_108 NB109_110 NB110_109; clear hb hbox hg; have hnb6 := NB108_109.out; have hnc6 := NB109_108.out; have hnb7 := NB108_110.out; have hnc7 := NB110_108.out; obtain ⟨hcz8_0, hcz8_1, hcz8_2, hcz8_3, hcz8_4⟩ := bc5 BK108.out; obtain ⟨hfz8_0, hfz8_1, hfz8_2, hfz8_3, hfz8_4⟩ := bf5 BK108.out; have hnb9 := NB110_109.out; have hnc9 := NB109_110.out; obtain ⟨hcz10_0, hcz10_1, hcz10_2, hcz10_3, hcz10_4⟩ := bc5 BK110.out; obtain ⟨hfz10_0, hfz10_1, hfz10_2, hfz10_3, hfz10_4⟩ := bf5 BK110.out) | ((with_reducible refine gate_callee (f := 146) rfl ?_); refine goesL_ (some 12) rfl rfl Try.func146 (by kernel_rfl) rfl #[.agg #[.int .i16 a0_2, .int .i16 a0_3, .int .i16 a0_4]] rfl z1_7_ ?_; (with_reducible refine (laws_toInt16A3.calls k a0_2 a0_3 a0_4 t111 t112 t113 _ A2.out).mono ?_); rintro e w11 ⟨rfl, hb⟩; refine ⟨_, rfl, ?_⟩; have _ := A_ (blk_below (g := gb108) (o := .cells #[.int .i8 a0_0, .int .i8 a0_1, .int .i16 a0_2, .int .i16 a0_3, .int .i16 a0_4] 158 (0, 0)) (by (with_reducible repeat (first | refine blk_drewN ?_ _ | refine blk_drew ?_ | refine blk_alloc ?_ _)); refine blk_far ?_ NB108_110.out _; (with_reducible repeat (first | refine blk_drewN ?_ _ | refine blk_drew ?_ | refine blk_alloc ?_ _)); refine blk_far ?_ NB108_110.out _; (with_reducible repeat (first | refine blk_drewN ?_ _ | refine blk_drew ?_ | refine blk_alloc ?_ _)); exact BK108.out) hb); have _ := A_ (blk_below (g := gb109) (o := .cells #[.int .i8 0, .int .i8 0, .int .i16 0, .int .i16 0, .int .i16 0] 89 (0, 0)) (by (with_reducible repeat (first | refine blk_drewN ?_ _ | refine blk_drew ?_ | refine blk_alloc ?_ _)); refine blk_far ?_ NB109_110.out _; (with_reducible repeat (first | refine blk_drewN ?_ _ | refine blk_drew ?_ | refine blk_alloc ?_ _)); refine blk_far ?_ NB109_110.out _; (with_reducible repeat (first | refine blk_drewN ?_ _ | refine blk_drew ?_ | refine blk_alloc ?_ _)); exact BK109.out) hb); have _ := A_ (blk_below (g := gb110) (o := .cells #[.int .i8 a0_0, .int .i8 a0_1, .int .i16 0, .int .i16 0, .int .i16 0] 89 (0, 0)) (by (with_reducible repeat (first | refine blk_drewN ?_ _ | refine blk_drew ?_ | refine blk_alloc ?_ _)); refine blk_put (cs := #[.int .i8 a0_0, .int .i8 0, .int .i16 0, .int .i16 0, .int .i16 0]) ?_ 1 _ rfl; (with_reducible repeat (first | refine blk_drewN ?_ _ | refine blk_drew ?_ | refine blk_alloc ?_ _)); refine blk_put (cs := #[.int .i8 0, .int .i8 0, .int .i16 0, .int .i16 0, .int .i16 0]) ?_ 0 _ rfl; (with_reducible repeat (first | refine blk_drewN ?_ _ | refine blk_drew ?_ | refine blk_alloc ?_ _)); exact BK110.out) hb); have _ := A_ (below_step z1_26_ hb); clear BK108 BK109 BK110 HB; rename_i BK108 BK109 BK110 HB; (try clear hb); obtain ⟨hcz12_0, hcz12_1, hcz12_2, hcz12_3, hcz12_4⟩ := bc5 BK110.out; obtain ⟨hfz12_0, hfz12_1, hfz12_2, hfz12_3, hfz12_4⟩ := bf5 BK110.out; obtain ⟨hcz13_0, hcz13_1, hcz13_2, hcz13_3, hcz13_4⟩ := bc5 BK109.out; obtain ⟨hfz13_0, hfz13_1, hfz13_2, hfz13_3, hfz13_4⟩ := bf5 BK109.out))
 refine bodyPost_ret (results_cell_row rfl _ _ gb109 89 #[.int .i8 a0_0, .int .i8 a0_1, .int .i16 t111, .int .i16 t112, .int .i16 t113] (0, 0) _ rfl (by (with_reducible repeat (first | refine blk_drewN ?_ _ | refine blk_drew ?_ | refine blk_alloc ?_ _)); refine blk_put (cs := #[.int .i8 a0_0, .int .i8 a0_1, .int .i16 t111, .int .i16 t112, .int .i16 0]) ?_ 4 _ rfl; (with_reducible repeat (first | refine blk_drewN ?_ _ | refine blk_drew ?_ | refine blk_alloc ?_ _)); refine blk_put (cs := #[.int .i8 a0_0, .int .i8 a0_1, .int .i16 t111, .int .i16 0, .int .i16 0]) ?_ 3 _ rfl; (with_reducible repeat (first | refine blk_drewN ?_ _ | refine blk_drew ?_ | refine blk_alloc ?_ _)); refine blk_put (cs := #[.int .i8 a0_0, .int .i8 a0_1, .int .i16 0, .int .i16 0, .int .i16 0]) ?_ 2 _ rfl; (with_reducible repeat (first | refine blk_drewN ?_ _ | refine blk_drew ?_ | refine blk_alloc ?_ _)); refine blk_put (cs := #[.int .i8 a0_0, .int .i8 0, .int .i16 0, .int .i16 0, .int .i16 0]) ?_ 1 _ rfl; (with_reducible repeat (first | refine blk_drewN ?_ _ | refine blk_drew ?_ | refine blk_alloc ?_ _)); refine blk_put (cs := #[.int .i8 0, .int .i8 0, .int .i16 0, .int .i16 0, .int .i16 0]) ?_ 0 _ rfl; (with_reducible repeat (first | refine blk_drewN ?_ _ | refine blk_drew ?_ | refine blk_alloc ?_ _)); refine blk_far ?_ NB109_110.out _; (with_reducible repeat (first | refine blk_drewN ?_ _ | refine blk_drew ?_ | refine blk_alloc ?_ _)); refine blk_far ?_ NB109_110.out _; (with_reducible repeat (first | refine blk_drewN ?_ _ | refine blk_drew ?_ | refine blk_alloc ?_ _)); refine blk_far ?_ NB109_110.out _; (with_reducible repeat (first | refine blk_drewN ?_ _ | refine blk_drew ?_ | refine blk_alloc ?_ _)); exact BK109.out) Try.underlying89 rfl (by kernel_rfl)) rfl ?_
 exact ⟨z1_5_, z1_26_⟩
/-! ### laws_toForkS: function 58 -/
def laws_toForkS.l0 : Nat → List (S158) → List (S89) → Int → Option ((List (S89)))
 | 0, _, _, _ => none
 | k + 1, x0, x3, x4 => if x4 < (x0.length : Int) then (if 0 ≤ x4 then ((laws_toFork.f k ((rd_T158 x0 x4).f0) ((rd_T158 x0 x4).f1) ((rd_T158 x0 x4).f2.f0) ((rd_T158 x0 x4).f2.f1) ((rd_T158 x0 x4).f2.f2)).bind fun bt118 => (if x4 < (x3.length : Int) then (laws_toForkS.l0 k x0 (x3.set (x4 : Int).toNat (⟨bt118.1, bt118.2.1, (⟨bt118.2.2.1, bt118.2.2.2.1, bt118.2.2.2.2⟩ : S87)⟩ : S89)) (wrap64 (x4 + 1))) else (none))) else (none)) else (some x3)
def laws_toForkS.f (k : Nat) (l0 : List (S158)) : Option ((List (S89))) := if 0 ≤ (l0.length : Int) then (if ((l0.length : Int) : Int).toNat ≤ 35184372088832 then (laws_toForkS.l0 k l0 (List.replicate ((l0.length : Int) : Int).toNat z89) 0) else (none)) else (none)
theorem laws_toForkS.mono_l : ∀ k, (∀ y0 y1 y2, LeO (laws_toForkS.l0 k y0 y1 y2) (laws_toForkS.l0 (k + 1) y0 y1 y2))
 | 0 => fun _ _ _ r h => by simp [laws_toForkS.l0] at h
 | k + 1 => by
  have ih0 := laws_toForkS.mono_l k
  ·
   intro y0 y1 y2
   unfold laws_toForkS.l0
   repeat' first
   | (with_reducible exact ih0 _ _ _)
   | (with_reducible exact laws_toFork.mono _ _ _ _ _ _)
   | (with_reducible exact LeO.refl _)
   | (with_reducible exact LeO.none _)
   | (with_reducible refine LeO.ite ?_ ?_)
   | (with_reducible refine LeO.bind ?_ (fun _ => ?_))
   | exact ih0 _ _ _
   | exact LeO.none _
   | refine LeO.ite ?_ ?_
   | refine LeO.bind ?_ (fun _ => ?_)
theorem laws_toForkS.mono : ∀ a0 k, LeO (laws_toForkS.f k a0) (laws_toForkS.f (k + 1) a0) := by
 intro a0 k
 have ih0 := laws_toForkS.mono_l k
 unfold laws_toForkS.f
 repeat' first
   | (with_reducible exact ih0 _ _ _)
   | (with_reducible exact laws_toFork.mono _ _ _ _ _ _)
   | (with_reducible exact LeO.refl _)
   | (with_reducible exact LeO.none _)
   | (with_reducible refine LeO.ite ?_ ?_)
   | (with_reducible refine LeO.bind ?_ (fun _ => ?_))
   | exact ih0 _ _ _
   | exact LeO.none _
   | refine LeO.ite ?_ ?_
   | refine LeO.bind ?_ (fun _ => ?_)
set_option maxHeartbeats 8000000 in
set_option maxRecDepth 100000 in
theorem laws_toForkS.calls (k : Nat) (A0 : Option Addr) (c0 : Nat) (l0 : List (S158)) (r : List (S89)) (w : World) (hr0 : Kd.C k158 w A0 l0.length l0) (hc0 : l0.length ≤ c0) (h : laws_toForkS.f k l0 = some r) :
  Calls Try.prog 58 #[.slice A0 l0.length c0] w fun e w' => ∃ v0_ : Value, e = .returned (v0_) ∧ Kd.R k89 89 w' w.heap.size (fun _ => True) v0_ r ∧ Below w.heap.size w w' := by
 have hu158 := Try.underlying158
 have hu89 := Try.underlying89
 have HR0 := A_ hr0
 have HC0 := A_ hc0
 clear hr0 hc0
 have HB := A_ (Below.refl w.heap.size w)
 have H : (if 0 ≤ (l0.length : Int) then (if ((l0.length : Int) : Int).toNat ≤ 35184372088832 then (laws_toForkS.l0 k l0 (List.replicate ((l0.length : Int) : Int).toNat z89) 0) else (none)) else (none)) = some r := h
 clear h
 by_cases c2 : 0 ≤ (l0.length : Int)
 ·
  rw [if_pos c2] at H
  have c2b0 := eq_true c2
  have c2b1 := decide_eq_true c2
  clear c2
  by_cases c3 : ((l0.length : Int) : Int).toNat ≤ 35184372088832
  ·
   rw [if_pos c3] at H
   have c3b0 := eq_true c3
   have c3b1 := decide_eq_true c3
   clear c3
   obtain ⟨y114, hy114⟩ : ∃ y_ : List (S89), y_ = (List.replicate ((l0.length : Int) : Int).toNat z89) := ⟨_, rfl⟩
   replace H : (laws_toForkS.l0 k l0 y114 0) = some r := by first | (rw [hy114]; with_reducible exact H) | (have H2_ := (Option.bind_some _ _).symm.trans H; rw [hy114]; with_reducible exact H2_) | (have H2_ := (Option.bind_some _ _).symm.trans H; with_reducible exact H2_) | with_reducible exact H | (rw [hy114]; exact H) | exact H
   have Ny114 := A_ hy114
   clear hy114
   have H' := A_ H
   clear H
   go_enter Try.func58, Try.ntmps58
   go_wp2_with (first | ((with_reducible refine gate_dst (N := 7) rfl ?_); refine Kd.R_make k89 _ 89 rfl (N := 7) rfl 32 _ _ rfl (l0.length : Int) rfl rfl Try.underlying32 (.agg #[(.int .i8 0), (.int .i8 0), (.int .i16 0), (.int .i16 0), (.int .i16 0)]) 8 info89 rfl (by decide) (by omega) z89 (ok := fun _ => True) (okp := fun _ => True) (k89_mkM _ _ _ z89 ) (fun _ hk => hk) trivial (of_decide_eq_true (by assumption)) (Nat.le_trans (Nat.mul_le_mul_right _ (of_decide_eq_true (by assumption) : (l0.length : Int).toNat ≤ 35184372088832)) (by omega)) (Below.refl _ _) (Nat.le_refl _) ?_; intro v115 w4 ho5 hb hg_ hnew_; clear hg_ hnew_; (first | rw [← Ny114.out] at ho5 | (simp only [Int.reduceToNat] at ho5; rw [← Ny114.out] at ho5)); have _ := A_ (Kd.R_lower ho5 (below_size z1_1_)); have _ := A_ (below_step z1_1_ hb); clear HB; rename_i HO116 HB; clear hb ho5))
   go_loopg [4] k (fun kq v4 w' => ∃ (x3_1 : List (S89)) (x4_1 : Int), v4 = .int .i64 x4_1 ∧ Aside0 (laws_toForkS.l0 kq l0 x3_1 x4_1 = some r) ∧ Aside0 (kq ≤ k) ∧ Aside0 (Kd.R k89 89 w' w.heap.size (fun _ => True) v115 x3_1) ∧ Aside0 (Below w.heap.size w w'))
   case atStart => exact ⟨(y114), (0), z1_12_, H', ⟨Nat.le_refl _⟩, ⟨(by (with_reducible repeat (first | apply Kd.R_alloc | apply Kd.R_drewN | apply Kd.R_drew)); exact HO116.out)⟩, ⟨z1_1_⟩⟩
   case round =>
    clear H'
    try clear c2
    try clear c2b0
    try clear c2b1
    try clear p2
    try clear c3
    try clear c3b0
    try clear c3b1
    try clear c5
    obtain ⟨x3_1, x4_1, rfl, HA, HK1, HO_3, HB⟩ := hrel
    cases gk with
    | zero => exact absurd HA.out (by simp [laws_toForkS.l0])
    | succ k1 =>
     have H := HA.out
     clear HA
     simp only [laws_toForkS.l0] at H
     by_cases c6 : x4_1 < (l0.length : Int)
     ·
      rw [if_pos c6] at H
      have c6b0 := decide_eq_true c6
      clear c6
      by_cases c7 : 0 ≤ x4_1
      ·
       rw [if_pos c7] at H
       have c7b0 := decide_eq_true c7
       clear c7
       replace H := Option.bind_eq_some_iff.mp H
       obtain ⟨⟨t118, t119, t120, t121, t122⟩, A80, H⟩ := H
       try dsimp only at H
       have A8 := A_ A80
       clear A80
       by_cases c9 : x4_1 < (x3_1.length : Int)
       ·
        rw [if_pos c9] at H
        have c9b0 := decide_eq_true c9
        clear c9
        obtain ⟨y123, hy123⟩ : ∃ y_ : List (S89), y_ = (x3_1.set (x4_1 : Int).toNat (⟨t118, t119, (⟨t120, t121, t122⟩ : S87)⟩ : S89)) := ⟨_, rfl⟩
        replace H : (laws_toForkS.l0 k1 l0 y123 (wrap64 (x4_1 + 1))) = some r := by first | (rw [hy123]; with_reducible exact H) | (have H2_ := (Option.bind_some _ _).symm.trans H; rw [hy123]; with_reducible exact H2_) | (have H2_ := (Option.bind_some _ _).symm.trans H; with_reducible exact H2_) | with_reducible exact H | (rw [hy123]; exact H) | exact H
        have Ny123 := A_ hy123
        clear hy123
        have H' := A_ H
        clear H
        have p117 : 0 ≤ (x4_1 : Int) := of_decide_eq_true (by assumption)
        have q117 : x4_1 < (l0.length : Int) := of_decide_eq_true (by assumption)
        obtain ⟨ad117, e117, hx117_0, hx117_1, hx117_2, hx117_3, hx117_4⟩ := at_T158 HR0.out x4_1 p117 q117
        cases e117
        replace hx117_0 := cel HB.out hx117_0
        replace hx117_1 := cel HB.out hx117_1
        replace hx117_2 := cel HB.out hx117_2
        replace hx117_3 := cel HB.out hx117_3
        replace hx117_4 := cel HB.out hx117_4
        replace p117 := eq_true p117
        replace q117 := eq_true q117
        go_wp2_with (first | ((with_reducible refine gate_callee (f := 111) rfl ?_); refine goesL_ (some 20) rfl rfl Try.func111 (by kernel_rfl) rfl #[.agg #[.int .i8 ((rd_T158 l0 x4_1).f0), .int .i8 ((rd_T158 l0 x4_1).f1), .int .i16 ((rd_T158 l0 x4_1).f2.f0), .int .i16 ((rd_T158 l0 x4_1).f2.f1), .int .i16 ((rd_T158 l0 x4_1).f2.f2)]] rfl z1_7_ ?_; (with_reducible refine (laws_toFork.calls k1 ((rd_T158 l0 x4_1).f0) ((rd_T158 l0 x4_1).f1) ((rd_T158 l0 x4_1).f2.f0) ((rd_T158 l0 x4_1).f2.f1) ((rd_T158 l0 x4_1).f2.f2) t118 t119 t120 t121 t122 _ A8.out).mono ?_); rintro e w11 ⟨rfl, hb⟩; refine ⟨_, rfl, ?_⟩; have _ := A_ (Kd.R_below z1_24_ hb); have _ := A_ (below_step z1_1_ hb); clear HO_3 HB; rename_i HO_3 HB; (try clear hb); have p10 : 0 ≤ (x4_1 : Int) := of_decide_eq_true (by assumption); have q10 : (x4_1 : Int) < ((x3_1.length : Int) : Int) := of_decide_eq_true (by assumption); obtain ⟨go10, co10, eo10, gb10, gl10, cl10, HG10⟩ := Kd.R_form HO_3.out (by omega); (first | cases eo10 | (injection eo10 with ea_ en_ ec_; (first | subst ea_ | (injection ea_ with ea_; subst ea_)); subst ec_; clear en_)); have GB10 := A_ gb10; have GG10 := A_ HG10; clear gb10 gl10 HG10; obtain ⟨ce10, hcl10, hM10, hcc10, hfr10⟩ := Kd.R_elem HO_3.out z89 (x4_1 : Int) p10 q10; obtain rfl := k89_openM hM10; have hx10_0 : w11.cell? ⟨go10, (x4_1 : Int).toNat * 5, none⟩ = some (.int .i8 ((rd_T89 x3_1 x4_1).f0)) := hcc10 0 _ rfl; have hx10_1 : w11.cell? ⟨go10, (x4_1 : Int).toNat * 5 + 1, none⟩ = some (.int .i8 ((rd_T89 x3_1 x4_1).f1)) := hcc10 1 _ rfl; have hx10_2 : w11.cell? ⟨go10, (x4_1 : Int).toNat * 5 + 2, none⟩ = some (.int .i16 ((rd_T89 x3_1 x4_1).f2.f0)) := hcc10 2 _ rfl; have hx10_3 : w11.cell? ⟨go10, (x4_1 : Int).toNat * 5 + 3, none⟩ = some (.int .i16 ((rd_T89 x3_1 x4_1).f2.f1)) := hcc10 3 _ rfl; have hx10_4 : w11.cell? ⟨go10, (x4_1 : Int).toNat * 5 + 4, none⟩ = some (.int .i16 ((rd_T89 x3_1 x4_1).f2.f2)) := hcc10 4 _ rfl; have hf10_0 : w11.frozen? ⟨go10, (x4_1 : Int).toNat * 5, none⟩ = false := hfr10 0; have hf10_1 : w11.frozen? ⟨go10, (x4_1 : Int).toNat * 5 + 1, none⟩ = false := hfr10 1; have hf10_2 : w11.frozen? ⟨go10, (x4_1 : Int).toNat * 5 + 2, none⟩ = false := hfr10 2; have hf10_3 : w11.frozen? ⟨go10, (x4_1 : Int).toNat * 5 + 3, none⟩ = false := hfr10 3; have hf10_4 : w11.frozen? ⟨go10, (x4_1 : Int).toNat * 5 + 4, none⟩ = false := hfr10 4; clear hcl10 hcc10 hfr10 hM10; replace p10 := eq_true p10; replace q10 := eq_true q10; have HX12 := A_ (show Kd.R k89 89 w11 w.heap.size (fun _ => True) (.slice (some ⟨go10, 0, none⟩) x3_1.length co10) x3_1 from z1_24_); obtain ⟨ce12, hcl12, hM12, hcc12, hfr12⟩ := Kd.R_elem HX12.out z89 (x4_1 : Int) (of_decide_eq_true (by assumption)) (by have h_ : (x4_1 : Int) < ((x3_1.length : Int) : Int) := of_decide_eq_true (by assumption); first | exact h_ | (have e_ := (Kd.R_reads' HO_3.out).1; omega) | simpa using h_); obtain rfl := k89_openM hM12; have HP12 := Kd.R_seg HX12.out (x4_1 : Int) (of_decide_eq_true (by assumption)) (by have h_ : (x4_1 : Int) < ((x3_1.length : Int) : Int) := of_decide_eq_true (by assumption); first | exact h_ | (have e_ := (Kd.R_reads' HO_3.out).1; omega) | simpa using h_) (seg := [.int .i8 t118, .int .i8 t119, .int .i16 t120, .int .i16 t121, .int .i16 t122]) (j := 0) hcl12 hcc12 (show 5 ≤ 5 from by decide) (x' := (⟨t118, t119, (⟨t120, t121, t122⟩ : S87)⟩ : S89)) (k89_mkM _ _ _ (⟨t118, t119, (⟨t120, t121, t122⟩ : S87)⟩ : S89) ) (fun _ hk => hk); have hx12_0 := hcc12 0 _ rfl; (try simp only [show (k89).sz = 5 from rfl, Nat.mul_one, Nat.add_zero] at hx12_0); have hf12_0 := hfr12 0; (try simp only [show (k89).sz = 5 from rfl, Nat.mul_one, Nat.add_zero] at hf12_0); have hx12_1 := hcc12 1 _ rfl; (try simp only [show (k89).sz = 5 from rfl, Nat.mul_one, Nat.add_zero] at hx12_1); have hf12_1 := hfr12 1; (try simp only [show (k89).sz = 5 from rfl, Nat.mul_one, Nat.add_zero] at hf12_1); have hx12_2 := hcc12 2 _ rfl; (try simp only [show (k89).sz = 5 from rfl, Nat.mul_one, Nat.add_zero] at hx12_2); have hf12_2 := hfr12 2; (try simp only [show (k89).sz = 5 from rfl, Nat.mul_one, Nat.add_zero] at hf12_2); have hx12_3 := hcc12 3 _ rfl; (try simp only [show (k89).sz = 5 from rfl, Nat.mul_one, Nat.add_zero] at hx12_3); have hf12_3 := hfr12 3; (try simp only [show (k89).sz = 5 from rfl, Nat.mul_one, Nat.add_zero] at hf12_3); have hx12_4 := hcc12 4 _ rfl; (try simp only [show (k89).sz = 5 from rfl, Nat.mul_one, Nat.add_zero] at hx12_4); have hf12_4 := hfr12 4; (try simp only [show (k89).sz = 5 from rfl, Nat.mul_one, Nat.add_zero] at hf12_4); clear hcl12 hcc12 hfr12 hM12) | ((with_reducible refine gate_store (t := 89) (p := 21) rfl ?_); refine store_event (t := 89) (p := 21) (v := ?vo_w13) (w1 := (((((w11.setCell ⟨go10, (x4_1 : Int).toNat * 5, none⟩ (.int .i8 t118)).setCell ⟨go10, (x4_1 : Int).toNat * 5 + 1, none⟩ (.int .i8 t119)).setCell ⟨go10, (x4_1 : Int).toNat * 5 + 2, none⟩ (.int .i16 t120)).setCell ⟨go10, (x4_1 : Int).toNat * 5 + 3, none⟩ (.int .i16 t121)).setCell ⟨go10, (x4_1 : Int).toNat * 5 + 4, none⟩ (.int .i16 t122))) ?hg ?ho ?hn ?hr ?_; (case ho => rfl); (case hg => rfl); (case hn => rfl); (case hr => first | (go_simp; done) | (go_simp; rfl)); intro w13 hw; have hg : w11.grownBy w13 (some go10) := (by rw [hw]; exact HP12.2); have hp_ : Kd.R k89 89 w13 w.heap.size (fun _ => True) (.slice (some ⟨go10, 0, none⟩) x3_1.length co10) y123 := (by rw [hw, Ny123.out]; exact HP12.1); clear HP12; have _ := A_ (hp_); have _ := A_ ((by rw [hw]; exact below_set (below_set (below_set (below_set (below_set (HB.out) GB10.out) GB10.out) GB10.out) GB10.out) GB10.out : Below w.heap.size w w13)); clear HO_3 HB; rename_i HO_3 HB; clear hg hw hp_))
        go_roundg k1
        case measure => have := HK1.out; omega
        case rel => exact ⟨(y123), (wrap64 (x4_1 + 1)), z1_12_, H', ⟨(by have := HK1.out; omega)⟩, ⟨z1_24_⟩, ⟨z1_1_⟩⟩
       ·
        rw [if_neg c9] at H
        exact absurd H (by simp)
      ·
       rw [if_neg c7] at H
       exact absurd H (by simp)
     ·
      rw [if_neg c6] at H
      have c6b0 := decide_eq_false c6
      clear c6
      obtain rfl := Option.some.inj H
      go_wp2
      go_ret
      exact ⟨_, z1_5_, z1_24_, z1_1_⟩
  ·
   rw [if_neg c3] at H
   exact absurd H (by simp)
 ·
  rw [if_neg c2] at H
  exact absurd H (by simp)
/-! ### laws_toTree: function 17 -/
def laws_toTree.f (k : Nat) (l0_0 : List (S158)) : Option ((List (S89))) := (laws_toForkS.f k l0_0).bind fun t127 => (some t127)
theorem laws_toTree.mono : ∀ a0 k, LeO (laws_toTree.f k a0) (laws_toTree.f (k + 1) a0) := by
 intro a0 k
 unfold laws_toTree.f
 repeat' first
   | (with_reducible exact laws_toForkS.mono _ _)
   | (with_reducible exact LeO.refl _)
   | (with_reducible exact LeO.none _)
   | (with_reducible refine LeO.ite ?_ ?_)
   | (with_reducible refine LeO.bind ?_ (fun _ => ?_))
   | exact LeO.none _
   | refine LeO.ite ?_ ?_
   | refine LeO.bind ?_ (fun _ => ?_)
set_option maxHeartbeats 8000000 in
set_option maxRecDepth 100000 in
theorem laws_toTree.calls (k : Nat) (A0_0 : Option Addr) (c0_0 : Nat) (l0_0 : List (S158)) (r : List (S89)) (w : World) (hr0_0 : Kd.C k158 w A0_0 l0_0.length l0_0) (hc0_0 : l0_0.length ≤ c0_0) (h : laws_toTree.f k l0_0 = some r) :
  Calls Try.prog 17 #[.agg #[.slice A0_0 l0_0.length c0_0]] w fun e w' => ∃ v0_ : Value, e = .returned (.agg #[v0_]) ∧ Kd.R k89 89 w' w.heap.size (fun _ => True) v0_ r ∧ Below w.heap.size w w' := by
 have hu24 := Try.underlying24
 have hu34 := Try.underlying34
 have HR0_0 := A_ hr0_0
 have HC0_0 := A_ hc0_0
 clear hr0_0 hc0_0
 have HB := A_ (Below.refl w.heap.size w)
 have H : ((laws_toForkS.f k l0_0).bind fun t127 => (some t127)) = some r := h
 clear h
 replace H := Option.bind_eq_some_iff.mp H
 obtain ⟨t127, A20, H⟩ := H
 try dsimp only at H
 have A2 := A_ A20
 clear A20
 obtain rfl := Option.some.inj H
 go_enter Try.func17, Try.ntmps17
 go_wp2_with (first | ((with_reducible refine gate_dst (N := 1) rfl ?_); refine box_event ?hg (N := 1) ?hd (cs := #[.slice A0_0 l0_0.length c0_0]) (t := 24) ?hr ?_; (case hd => rfl); (case hg => rfl); (case hr => first | (go_simp; done) | (go_simp; rfl)); intro gb124 hg w3 hbox hb; have _ := A_ (below_step z1_1_ hb); have _ := A_ (hbox); have _ := A_ ((by rw [hg]; exact (below_size z1_1_) : w.heap.size ≤ gb124)); have _ := A_ ((by rw [hg]; exact (below_size z1_1_) : w.heap.size ≤ gb124)); clear HB; rename_i HB BK124 GW124 GE124; clear hb hbox hg) | ((with_reducible refine gate_dst (N := 2) rfl ?_); refine box_event ?hg (N := 2) ?hd (cs := #[.slice none 0 0]) (t := 34) ?hr ?_; (case hd => rfl); (case hg => rfl); (case hr => first | (go_simp; done) | (go_simp; rfl)); intro gb125 hg w4 hbox hb; have _ := A_ (blk_below (g := gb124) (o := .cells #[.slice A0_0 l0_0.length c0_0] 24 (0, 0)) z1_10_ hb); have _ := A_ (below_step z1_21_ hb); have _ := A_ (hbox); have _ := A_ ((by rw [hg]; exact (below_size z1_21_) : w.heap.size ≤ gb125)); have _ := A_ ((by rw [hg]; exact (below_size z1_21_) : w.heap.size ≤ gb125)); have _ := A_ ((by rw [hg]; exact Nat.ne_of_lt (blk_lt (g := gb124) (o := .cells #[.slice A0_0 l0_0.length c0_0] 24 (0, 0)) z1_10_) : gb124 ≠ gb125)); have _ := A_ ((by rw [hg]; exact Nat.ne_of_gt (blk_lt (g := gb124) (o := .cells #[.slice A0_0 l0_0.length c0_0] 24 (0, 0)) z1_10_) : gb125 ≠ gb124)); clear BK124 HB; rename_i BK124 HB BK125 GW125 GE125 NB124_125 NB125_124; clear hb hbox hg) | ((with_reducible refine gate_dst (N := 3) rfl ?_); refine box_event ?hg (N := 3) ?hd (cs := #[.slice none 0 0]) (t := 34) ?hr ?_; (case hd => rfl); (case hg => rfl); (case hr => first | (go_simp; done) | (go_simp; rfl)); intro gb126 hg w5 hbox hb; have _ := A_ (blk_below (g := gb124) (o := .cells #[.slice A0_0 l0_0.length c0_0] 24 (0, 0)) z1_10_ hb); have _ := A_ (blk_below (g := gb125) (o := .cells #[.slice none 0 0] 34 (0, 0)) z1_20_ hb); have _ := A_ (below_step z1_17_ hb); have _ := A_ (hbox); have _ := A_ ((by rw [hg]; exact (below_size z1_17_) : w.heap.size ≤ gb126)); have _ := A_ ((by rw [hg]; exact (below_size z1_17_) : w.heap.size ≤ gb126)); have _ := A_ ((by rw [hg]; exact Nat.ne_of_lt (blk_lt (g := gb124) (o := .cells #[.slice A0_0 l0_0.length c0_0] 24 (0, 0)) z1_10_) : gb124 ≠ gb126)); have _ := A_ ((by rw [hg]; exact Nat.ne_of_gt (blk_lt (g := gb124) (o := .cells #[.slice A0_0 l0_0.length c0_0] 24 (0, 0)) z1_10_) : gb126 ≠ gb124)); have _ := A_ ((by rw [hg]; exact Nat.ne_of_lt (blk_lt (g := gb125) (o := .cells #[.slice none 0 0] 34 (0, 0)) z1_20_) : gb125 ≠ gb126)); have _ := A_ ((by rw [hg]; exact Nat.ne_of_gt (blk_lt (g := gb125) (o := .cells #[.slice none 0 0] 34 (0, 0)) z1_20_) : gb126 ≠ gb125)); clear BK124 BK125 HB; rename_i BK124 BK125 HB BK126 GW126 GE126 NB124_126 NB126_124 NB125_126 NB126_125; clear hb hbox hg; have hnb6 := NB124_125.out; have hnc6 := NB125_124.out; have hnb7 := NB124_126.out; have hnc7 := NB126_124.out; have hcz8_0 : w5.cell? ⟨gb124, 0, none⟩ = some (.slice A0_0 l0_0.length c0_0) := (blk_cell BK124.out 0).trans rfl; have hfz8_0 := blk_frozen BK124.out 0) | ((with_reducible refine gate_callee (f := 58) rfl ?_); refine goesL_ (some 6) rfl rfl Try.func58 (by kernel_rfl) rfl #[.slice A0_0 l0_0.length c0_0] rfl z1_7_ ?_; (with_reducible refine (laws_toForkS.calls k _ _ l0_0 t127 _ ?side1 ?side2 A2.out).mono ?_); (case side1 => have hx_ := (Kd.C_below HR0_0.out HB.out); exact kc_); (case side2 => exact HC0_0.out); rintro e w9 ⟨v128, rfl, ho0, hb⟩; refine ⟨_, rfl, ?_⟩; have _ := A_ (Kd.R_lower ho0 (below_size z1_16_)); have _ := A_ (blk_below (g := gb124) (o := .cells #[.slice A0_0 l0_0.length c0_0] 24 (0, 0)) z1_10_ hb); have _ := A_ (blk_below (g := gb125) (o := .cells #[.slice none 0 0] 34 (0, 0)) z1_20_ hb); have _ := A_ (blk_below (g := gb126) (o := .cells #[.slice none 0 0] 34 (0, 0)) (by (with_reducible repeat (first | refine blk_drewN ?_ _ | refine blk_drew ?_ | refine blk_alloc ?_ _)); exact BK126.out) hb); have _ := A_ (below_step z1_16_ hb); clear BK124 BK125 BK126 HB; rename_i HO129 BK124 BK125 BK126 HB; (try clear hb); (try clear ho0); obtain ⟨Ao10, co10, eo10⟩ := Kd.R_slice HO129.out; subst eo10; have hnb11 := NB126_125.out; have hnc11 := NB125_126.out; have hcz12_0 : w9.cell? ⟨gb126, 0, none⟩ = some (.slice none 0 0) := (blk_cell BK126.out 0).trans rfl; have hfz12_0 := blk_frozen BK126.out 0; have hcz13_0 : w9.cell? ⟨gb125, 0, none⟩ = some (.slice none 0 0) := (blk_cell BK125.out 0).trans rfl; have hfz13_0 := blk_frozen BK125.out 0))
 refine bodyPost_ret (results_cell_row rfl _ _ gb125 34 #[.slice Ao10 t127.length co10] (0, 0) _ rfl (by (with_reducible repeat (first | refine blk_drewN ?_ _ | refine blk_drew ?_ | refine blk_alloc ?_ _)); refine blk_put (cs := #[.slice none 0 0]) ?_ 0 _ rfl; (with_reducible repeat (first | refine blk_drewN ?_ _ | refine blk_drew ?_ | refine blk_alloc ?_ _)); refine blk_far ?_ NB125_126.out _; (with_reducible repeat (first | refine blk_drewN ?_ _ | refine blk_drew ?_ | refine blk_alloc ?_ _)); exact BK125.out) Try.underlying34 rfl (by kernel_rfl)) rfl ?_
 exact ⟨_, z1_5_, (by (with_reducible repeat (first | apply Kd.R_alloc | apply Kd.R_drewN | apply Kd.R_drew)); exact Kd.R_mono (Kd.R_far (p := ⟨gb125, 0, none⟩) (Kd.R_far (p := ⟨gb126, 0, none⟩) (Kd.R_types (Kd.R_types HO129.out BK126.out (by decide)) BK125.out (by decide)) (fun _ hk => hk.1.2) (.slice Ao10 t127.length co10)) (fun _ hk => hk.2) (.slice Ao10 t127.length co10)) (fun _ hk => trivial)), z1_16_⟩
/-! ### laws_eqInt16A3: function 151 -/
def laws_eqInt16A3.l0 : Nat → Int → Int → Int → Int → Int → Int → Int → Option (Bool)
 | 0, _, _, _, _, _, _, _ => none
 | k + 1, x5, x131000, x131001, x131002, x132000, x132001, x132002 => if x5 < 3 then (if 0 ≤ x5 then (if (rd [x131000, x131001, x131002] x5) = (rd [x132000, x132001, x132002] x5) then (laws_eqInt16A3.l0 k (wrap64 (x5 + 1)) x131000 x131001 x131002 x132000 x132001 x132002) else (some false)) else (none)) else (some true)
def laws_eqInt16A3.f (k : Nat) (a0_0 : Int) (a0_1 : Int) (a0_2 : Int) (a1_0 : Int) (a1_1 : Int) (a1_2 : Int) : Option (Bool) := laws_eqInt16A3.l0 k 0 a0_0 a0_1 a0_2 a1_0 a1_1 a1_2
theorem laws_eqInt16A3.mono_l : ∀ k, (∀ y0 y1 y2 y3 y4 y5 y6, LeO (laws_eqInt16A3.l0 k y0 y1 y2 y3 y4 y5 y6) (laws_eqInt16A3.l0 (k + 1) y0 y1 y2 y3 y4 y5 y6))
 | 0 => fun _ _ _ _ _ _ _ r h => by simp [laws_eqInt16A3.l0] at h
 | k + 1 => by
  have ih0 := laws_eqInt16A3.mono_l k
  ·
   intro y0 y1 y2 y3 y4 y5 y6
   unfold laws_eqInt16A3.l0
   repeat' first
   | (with_reducible exact ih0 _ _ _ _ _ _ _)
   | (with_reducible exact LeO.refl _)
   | (with_reducible exact LeO.none _)
   | (with_reducible refine LeO.ite ?_ ?_)
   | (with_reducible refine LeO.bind ?_ (fun _ => ?_))
   | exact ih0 _ _ _ _ _ _ _
   | exact LeO.none _
   | refine LeO.ite ?_ ?_
   | refine LeO.bind ?_ (fun _ => ?_)
theorem laws_eqInt16A3.mono : ∀ a0 a1 a2 a3 a4 a5 k, LeO (laws_eqInt16A3.f k a0 a1 a2 a3 a4 a5) (laws_eqInt16A3.f (k + 1) a0 a1 a2 a3 a4 a5) := by
 intro a0 a1 a2 a3 a4 a5 k
 have ih0 := laws_eqInt16A3.mono_l k
 unfold laws_eqInt16A3.f
 repeat' first
   | (with_reducible exact ih0 _ _ _ _ _ _ _)
   | (with_reducible exact LeO.refl _)
   | (with_reducible exact LeO.none _)
   | (with_reducible refine LeO.ite ?_ ?_)
   | (with_reducible refine LeO.bind ?_ (fun _ => ?_))
   | exact ih0 _ _ _ _ _ _ _
   | exact LeO.none _
   | refine LeO.ite ?_ ?_
   | refine LeO.bind ?_ (fun _ => ?_)
set_option maxHeartbeats 8000000 in
set_option maxRecDepth 100000 in
theorem laws_eqInt16A3.calls (k : Nat) (a0_0 : Int) (a0_1 : Int) (a0_2 : Int) (a1_0 : Int) (a1_1 : Int) (a1_2 : Int) (r : Bool) (w : World) (h : laws_eqInt16A3.f k a0_0 a0_1 a0_2 a1_0 a1_1 a1_2 = some r) :
  Calls Try.prog 151 #[.agg #[.int .i16 a0_0, .int .i16 a0_1, .int .i16 a0_2], .agg #[.int .i16 a1_0, .int .i16 a1_1, .int .i16 a1_2]] w fun e w' => e = .returned (.bool r) ∧ Below w.heap.size w w' := by
 have hu87 := Try.underlying87
 have HB := A_ (Below.refl w.heap.size w)
 have H : (laws_eqInt16A3.l0 k 0 a0_0 a0_1 a0_2 a1_0 a1_1 a1_2) = some r := h
 clear h
 have H' := A_ H
 clear H
 go_enter Try.func151, Try.ntmps151
 go_wp2_with (first | ((with_reducible refine gate_dst (N := 2) rfl ?_); refine box_event ?hg (N := 2) ?hd (cs := #[.int .i16 a0_0, .int .i16 a0_1, .int .i16 a0_2]) (t := 87) ?hr ?_; (case hd => rfl); (case hg => rfl); (case hr => first | (go_simp; done) | (go_simp; rfl)); intro gb130 hg w3 hbox hb; have _ := A_ (below_step z1_1_ hb); have _ := A_ (hbox); have _ := A_ ((by rw [hg]; exact (below_size z1_1_) : w.heap.size ≤ gb130)); have _ := A_ ((by rw [hg]; exact (below_size z1_1_) : w.heap.size ≤ gb130)); clear HB; rename_i HB BK130 GW130 GE130; clear hb hbox hg) | ((with_reducible refine gate_dst (N := 3) rfl ?_); refine box_event ?hg (N := 3) ?hd (cs := #[.int .i16 a1_0, .int .i16 a1_1, .int .i16 a1_2]) (t := 87) ?hr ?_; (case hd => rfl); (case hg => rfl); (case hr => first | (go_simp; done) | (go_simp; rfl)); intro gb131 hg w4 hbox hb; have _ := A_ (blk_below (g := gb130) (o := .cells #[.int .i16 a0_0, .int .i16 a0_1, .int .i16 a0_2] 87 (0, 0)) z1_6_ hb); have _ := A_ (below_step z1_4_ hb); have _ := A_ (hbox); have _ := A_ ((by rw [hg]; exact (below_size z1_4_) : w.heap.size ≤ gb131)); have _ := A_ ((by rw [hg]; exact (below_size z1_4_) : w.heap.size ≤ gb131)); have _ := A_ ((by rw [hg]; exact Nat.ne_of_lt (blk_lt (g := gb130) (o := .cells #[.int .i16 a0_0, .int .i16 a0_1, .int .i16 a0_2] 87 (0, 0)) z1_6_) : gb130 ≠ gb131)); have _ := A_ ((by rw [hg]; exact Nat.ne_of_gt (blk_lt (g := gb130) (o := .cells #[.int .i16 a0_0, .int .i16 a0_1, .int .i16 a0_2] 87 (0, 0)) z1_6_) : gb131 ≠ gb130)); clear BK130 HB; rename_i BK130 HB BK131 GW131 GE131 NB130_131 NB131_130; clear hb hbox hg))
 repeat (go_quiet (first | ((with_reducible refine gate_dst (N := 2) rfl ?_); refine box_event ?hg (N := 2) ?hd (cs := #[.int .i16 a0_0, .int .i16 a0_1, .int .i16 a0_2]) (t := 87) ?hr ?_; (case hd => rfl); (case hg => rfl); (case hr => first | (go_simp; done) | (go_simp; rfl)); intro gb130 hg w3 hbox hb; have _ := A_ (below_step z1_1_ hb); have _ := A_ (hbox); have _ := A_ ((by rw [hg]; exact (below_size z1_1_) : w.heap.size ≤ gb130)); have _ := A_ ((by rw [hg]; exact (below_size z1_1_) : w.heap.size ≤ gb130)); clear HB; rename_i HB BK130 GW130 GE130; clear hb hbox hg) | ((with_reducible refine gate_dst (N := 3) rfl ?_); refine box_event ?hg (N := 3) ?hd (cs := #[.int .i16 a1_0, .int .i16 a1_1, .int .i16 a1_2]) (t := 87) ?hr ?_; (case hd => rfl); (case hg => rfl); (case hr => first | (go_simp; done) | (go_simp; rfl)); intro gb131 hg w4 hbox hb; have _ := A_ (blk_below (g := gb130) (o := .cells #[.int .i16 a0_0, .int .i16 a0_1, .int .i16 a0_2] 87 (0, 0)) z1_6_ hb); have _ := A_ (below_step z1_4_ hb); have _ := A_ (hbox); have _ := A_ ((by rw [hg]; exact (below_size z1_4_) : w.heap.size ≤ gb131)); have _ := A_ ((by rw [hg]; exact (below_size z1_4_) : w.heap.size ≤ gb131)); have _ := A_ ((by rw [hg]; exact Nat.ne_of_lt (blk_lt (g := gb130) (o := .cells #[.int .i16 a0_0, .int .i16 a0_1, .int .i16 a0_2] 87 (0, 0)) z1_6_) : gb130 ≠ gb131)); have _ := A_ ((by rw [hg]; exact Nat.ne_of_gt (blk_lt (g := gb130) (o := .cells #[.int .i16 a0_0, .int .i16 a0_1, .int .i16 a0_2] 87 (0, 0)) z1_6_) : gb131 ≠ gb130)); clear BK130 HB; rename_i BK130 HB BK131 GW131 GE131 NB130_131 NB131_130; clear hb hbox hg)); try go_wp2_with (first | ((with_reducible refine gate_dst (N := 2) rfl ?_); refine box_event ?hg (N := 2) ?hd (cs := #[.int .i16 a0_0, .int .i16 a0_1, .int .i16 a0_2]) (t := 87) ?hr ?_; (case hd => rfl); (case hg => rfl); (case hr => first | (go_simp; done) | (go_simp; rfl)); intro gb130 hg w3 hbox hb; have _ := A_ (below_step z1_1_ hb); have _ := A_ (hbox); have _ := A_ ((by rw [hg]; exact (below_size z1_1_) : w.heap.size ≤ gb130)); have _ := A_ ((by rw [hg]; exact (below_size z1_1_) : w.heap.size ≤ gb130)); clear HB; rename_i HB BK130 GW130 GE130; clear hb hbox hg) | ((with_reducible refine gate_dst (N := 3) rfl ?_); refine box_event ?hg (N := 3) ?hd (cs := #[.int .i16 a1_0, .int .i16 a1_1, .int .i16 a1_2]) (t := 87) ?hr ?_; (case hd => rfl); (case hg => rfl); (case hr => first | (go_simp; done) | (go_simp; rfl)); intro gb131 hg w4 hbox hb; have _ := A_ (blk_below (g := gb130) (o := .cells #[.int .i16 a0_0, .int .i16 a0_1, .int .i16 a0_2] 87 (0, 0)) z1_6_ hb); have _ := A_ (below_step z1_4_ hb); have _ := A_ (hbox); have _ := A_ ((by rw [hg]; exact (below_size z1_4_) : w.heap.size ≤ gb131)); have _ := A_ ((by rw [hg]; exact (below_size z1_4_) : w.heap.size ≤ gb131)); have _ := A_ ((by rw [hg]; exact Nat.ne_of_lt (blk_lt (g := gb130) (o := .cells #[.int .i16 a0_0, .int .i16 a0_1, .int .i16 a0_2] 87 (0, 0)) z1_6_) : gb130 ≠ gb131)); have _ := A_ ((by rw [hg]; exact Nat.ne_of_gt (blk_lt (g := gb130) (o := .cells #[.int .i16 a0_0, .int .i16 a0_1, .int .i16 a0_2] 87 (0, 0)) z1_6_) : gb131 ≠ gb130)); clear BK130 HB; rename_i BK130 HB BK131 GW131 GE131 NB130_131 NB131_130; clear hb hbox hg)))
 go_loopg [5] k (fun kq v5 w' => ∃ (x5_1 : Int), v5 = .int .i64 x5_1 ∧ Aside0 (laws_eqInt16A3.l0 kq x5_1 a0_0 a0_1 a0_2 a1_0 a1_1 a1_2 = some r) ∧ Aside0 (kq ≤ k) ∧ Aside0 (w'.heap[gb130]? = some (.cells #[.int .i16 a0_0, .int .i16 a0_1, .int .i16 a0_2] 87 (0, 0))) ∧ Aside0 (w'.heap[gb131]? = some (.cells #[.int .i16 a1_0, .int .i16 a1_1, .int .i16 a1_2] 87 (0, 0))) ∧ Aside0 (Below w.heap.size w w'))
 case atStart => exact ⟨(0), z1_12_, H', ⟨Nat.le_refl _⟩, ⟨z1_6_⟩, ⟨z1_29_⟩, ⟨z1_13_⟩⟩
 case round =>
  clear H'
  try clear c1
  try clear p2
  obtain ⟨x5_1, rfl, HA, HK1, BK130, BK131, HB⟩ := hrel
  cases gk with
  | zero => exact absurd HA.out (by simp [laws_eqInt16A3.l0])
  | succ k1 =>
   have H := HA.out
   clear HA
   simp only [laws_eqInt16A3.l0] at H
   by_cases c5 : x5_1 < 3
   ·
    rw [if_pos c5] at H
    have c5b0 := decide_eq_true c5
    clear c5
    by_cases c6 : 0 ≤ x5_1
    ·
     rw [if_pos c6] at H
     have c6b0 := decide_eq_true c6
     clear c6
     by_cases c7 : (rd [a0_0, a0_1, a0_2] x5_1) = (rd [a1_0, a1_1, a1_2] x5_1)
     ·
      rw [if_pos c7] at H
      have c7b0 := beq_iff_eq.mpr c7
      have c7b1 := bne_eq_false_iff_eq.mpr c7
      clear c7
      have H' := A_ H
      clear H
      have p132 : 0 ≤ (x5_1 : Int) := of_decide_eq_true (by assumption)
      have q132 : (x5_1 : Int) < 3 := of_decide_eq_true (by assumption)
      have hx132_0 := blk_arr (xs := [a0_0, a0_1, a0_2]) (k := .i16) BK130.out 0 rfl x5_1 p132 q132
      (try simp only [Nat.zero_add] at hx132_0)
      replace p132 := eq_true p132
      replace q132 := eq_true q132
      have p133 : 0 ≤ (x5_1 : Int) := of_decide_eq_true (by assumption)
      have q133 : (x5_1 : Int) < 3 := of_decide_eq_true (by assumption)
      have hx133_0 := blk_arr (xs := [a1_0, a1_1, a1_2]) (k := .i16) BK131.out 0 rfl x5_1 p133 q133
      (try simp only [Nat.zero_add] at hx133_0)
      replace p133 := eq_true p133
      replace q133 := eq_true q133
      go_wp2
      repeat (go_quiet (fail); try go_wp2)
      go_roundg k1
      case measure => have := HK1.out; omega
      case rel => exact ⟨(wrap64 (x5_1 + 1)), z1_12_, H', ⟨(by have := HK1.out; omega)⟩, ⟨z1_6_⟩, ⟨z1_29_⟩, ⟨z1_13_⟩⟩
     ·
      rw [if_neg c7] at H
      have c7b0 : ((rd [a0_0, a0_1, a0_2] x5_1) == (rd [a1_0, a1_1, a1_2] x5_1)) = false := beq_eq_false_iff_ne.mpr c7
      have c7b1 : ((rd [a0_0, a0_1, a0_2] x5_1) != (rd [a1_0, a1_1, a1_2] x5_1)) = true := bne_iff_ne.mpr c7
      obtain rfl := Option.some.inj H
      have p132 : 0 ≤ (x5_1 : Int) := of_decide_eq_true (by assumption)
      have q132 : (x5_1 : Int) < 3 := of_decide_eq_true (by assumption)
      have hx132_0 := blk_arr (xs := [a0_0, a0_1, a0_2]) (k := .i16) BK130.out 0 rfl x5_1 p132 q132
      (try simp only [Nat.zero_add] at hx132_0)
      replace p132 := eq_true p132
      replace q132 := eq_true q132
      have p133 : 0 ≤ (x5_1 : Int) := of_decide_eq_true (by assumption)
      have q133 : (x5_1 : Int) < 3 := of_decide_eq_true (by assumption)
      have hx133_0 := blk_arr (xs := [a1_0, a1_1, a1_2]) (k := .i16) BK131.out 0 rfl x5_1 p133 q133
      (try simp only [Nat.zero_add] at hx133_0)
      replace p133 := eq_true p133
      replace q133 := eq_true q133
      go_wp2
      repeat (go_quiet (fail); try go_wp2)
      go_ret
      exact ⟨z1_5_, z1_13_⟩
    ·
     rw [if_neg c6] at H
     exact absurd H (by simp)
   ·
    rw [if_neg c5] at H
    have c5b0 := decide_eq_false c5
    clear c5
    obtain rfl := Option.some.inj H
    go_wp2
    repeat (go_quiet (fail); try go_wp2)
    go_ret
    exact ⟨z1_5_, z1_13_⟩
/-! ### laws_eqFork: function 116 -/
def laws_eqFork.f (k : Nat) (a0_0 : Int) (a0_1 : Int) (a0_2 : Int) (a0_3 : Int) (a0_4 : Int) (a1_0 : Int) (a1_1 : Int) (a1_2 : Int) (a1_3 : Int) (a1_4 : Int) : Option (Bool) := if a0_0 = a1_0 then (if a0_1 = a1_1 then ((laws_eqInt16A3.f k a0_2 a0_3 a0_4 a1_2 a1_3 a1_4).bind fun t136 => (if t136 = true then (some true) else (some false))) else (some false)) else (some false)
theorem laws_eqFork.mono : ∀ a0 a1 a2 a3 a4 a5 a6 a7 a8 a9 k, LeO (laws_eqFork.f k a0 a1 a2 a3 a4 a5 a6 a7 a8 a9) (laws_eqFork.f (k + 1) a0 a1 a2 a3 a4 a5 a6 a7 a8 a9) := by
 intro a0 a1 a2 a3 a4 a5 a6 a7 a8 a9 k
 unfold laws_eqFork.f
 repeat' first
   | (with_reducible exact laws_eqInt16A3.mono _ _ _ _ _ _ _)
   | (with_reducible exact LeO.refl _)
   | (with_reducible exact LeO.none _)
   | (with_reducible refine LeO.ite ?_ ?_)
   | (with_reducible refine LeO.bind ?_ (fun _ => ?_))
   | exact LeO.none _
   | refine LeO.ite ?_ ?_
   | refine LeO.bind ?_ (fun _ => ?_)
set_option maxHeartbeats 8000000 in
set_option maxRecDepth 100000 in
theorem laws_eqFork.calls (k : Nat) (a0_0 : Int) (a0_1 : Int) (a0_2 : Int) (a0_3 : Int) (a0_4 : Int) (a1_0 : Int) (a1_1 : Int) (a1_2 : Int) (a1_3 : Int) (a1_4 : Int) (r : Bool) (w : World) (h : laws_eqFork.f k a0_0 a0_1 a0_2 a0_3 a0_4 a1_0 a1_1 a1_2 a1_3 a1_4 = some r) :
  Calls Try.prog 116 #[.agg #[.int .i8 a0_0, .int .i8 a0_1, .int .i16 a0_2, .int .i16 a0_3, .int .i16 a0_4], .agg #[.int .i8 a1_0, .int .i8 a1_1, .int .i16 a1_2, .int .i16 a1_3, .int .i16 a1_4]] w fun e w' => e = .returned (.bool r) ∧ Below w.heap.size w w' := by
 have hu89 := Try.underlying89
 have hu87 := Try.underlying87
 have HB := A_ (Below.refl w.heap.size w)
 have H : (if a0_0 = a1_0 then (if a0_1 = a1_1 then ((laws_eqInt16A3.f k a0_2 a0_3 a0_4 a1_2 a1_3 a1_4).bind fun t136 => (if t136 = true then (some true) else (some false))) else (some false)) else (some false)) = some r := h
 clear h
 by_cases c3 : a0_0 = a1_0
 ·
  rw [if_pos c3] at H
  have c3b0 := beq_iff_eq.mpr c3
  have c3b1 := bne_eq_false_iff_eq.mpr c3
  clear c3
  by_cases c4 : a0_1 = a1_1
  ·
   rw [if_pos c4] at H
   have c4b0 := beq_iff_eq.mpr c4
   have c4b1 := bne_eq_false_iff_eq.mpr c4
   clear c4
   replace H := Option.bind_eq_some_iff.mp H
   obtain ⟨t136, A50, H⟩ := H
   try dsimp only at H
   have A5 := A_ A50
   clear A50
   by_cases c6 : t136 = true
   ·
    subst c6
    have H1 := H; rw [if_pos rfl] at H1
    clear H
    have H := H1
    clear H1
    obtain rfl := Option.some.inj H
    go_enter Try.func116, Try.ntmps116
    go_wp2_with (first | ((with_reducible refine gate_dst (N := 2) rfl ?_); refine box_event ?hg (N := 2) ?hd (cs := #[.int .i8 a0_0, .int .i8 a0_1, .int .i16 a0_2, .int .i16 a0_3, .int .i16 a0_4]) (t := 89) ?hr ?_; (case hd => rfl); (case hg => rfl); (case hr => first | (go_simp; done) | (go_simp; rfl)); intro gb134 hg w7 hbox hb; have _ := A_ (below_step z1_1_ hb); have _ := A_ (hbox); have _ := A_ ((by rw [hg]; exact (below_size z1_1_) : w.heap.size ≤ gb134)); have _ := A_ ((by rw [hg]; exact (below_size z1_1_) : w.heap.size ≤ gb134)); clear HB; rename_i HB BK134 GW134 GE134; clear hb hbox hg) | ((with_reducible refine gate_dst (N := 3) rfl ?_); refine box_event ?hg (N := 3) ?hd (cs := #[.int .i8 a1_0, .int .i8 a1_1, .int .i16 a1_2, .int .i16 a1_3, .int .i16 a1_4]) (t := 89) ?hr ?_; (case hd => rfl); (case hg => rfl); (case hr => first | (go_simp; done) | (go_simp; rfl)); intro gb135 hg w8 hbox hb; have _ := A_ (blk_below (g := gb134) (o := .cells #[.int .i8 a0_0, .int .i8 a0_1, .int .i16 a0_2, .int .i16 a0_3, .int .i16 a0_4] 89 (0, 0)) z1_3_ hb); have _ := A_ (below_step z1_2_ hb); have _ := A_ (hbox); have _ := A_ ((by rw [hg]; exact (below_size z1_2_) : w.heap.size ≤ gb135)); have _ := A_ ((by rw [hg]; exact (below_size z1_2_) : w.heap.size ≤ gb135)); have _ := A_ ((by rw [hg]; exact Nat.ne_of_lt (blk_lt (g := gb134) (o := .cells #[.int .i8 a0_0, .int .i8 a0_1, .int .i16 a0_2, .int .i16 a0_3, .int .i16 a0_4] 89 (0, 0)) z1_3_) : gb134 ≠ gb135)); have _ := A_ ((by rw [hg]; exact Nat.ne_of_gt (blk_lt (g := gb134) (o := .cells #[.int .i8 a0_0, .int .i8 a0_1, .int .i16 a0_2, .int .i16 a0_3, .int .i16 a0_4] 89 (0, 0)) z1_3_) : gb135 ≠ gb134)); clear BK134 HB; rename_i BK134 HB BK135 GW135 GE135 NB134_135 NB135_134; clear hb hbox hg; have hnb9 := NB134_135.out; have hnc9 := NB135_134.out; obtain ⟨hcz10_0, hcz10_1, hcz10_2, hcz10_3, hcz10_4⟩ := bc5 BK134.out; obtain ⟨hfz10_0, hfz10_1, hfz10_2, hfz10_3, hfz10_4⟩ := bf5 BK134.out; obtain ⟨hcz11_0, hcz11_1, hcz11_2, hcz11_3, hcz11_4⟩ := bc5 BK135.out; obtain ⟨hfz11_0, hfz11_1, hfz11_2, hfz11_3, hfz11_4⟩ := bf5 BK135.out) | ((with_reducible refine gate_callee (f := 151) rfl ?_); refine goesL_ (some 19) rfl rfl Try.func151 (by kernel_rfl) rfl #[.agg #[.int .i16 a0_2, .int .i16 a0_3, .int .i16 a0_4], .agg #[.int .i16 a1_2, .int .i16 a1_3, .int .i16 a1_4]] rfl z1_7_ ?_; (with_reducible refine (laws_eqInt16A3.calls k a0_2 a0_3 a0_4 a1_2 a1_3 a1_4 true _ A5.out).mono ?_); rintro e w12 ⟨rfl, hb⟩; refine ⟨_, rfl, ?_⟩; have _ := A_ (blk_below (g := gb134) (o := .cells #[.int .i8 a0_0, .int .i8 a0_1, .int .i16 a0_2, .int .i16 a0_3, .int .i16 a0_4] 89 (0, 0)) z1_3_ hb); have _ := A_ (blk_below (g := gb135) (o := .cells #[.int .i8 a1_0, .int .i8 a1_1, .int .i16 a1_2, .int .i16 a1_3, .int .i16 a1_4] 89 (0, 0)) z1_28_ hb); have _ := A_ (below_step z1_8_ hb); clear BK134 BK135 HB; rename_i BK134 BK135 HB; (try clear hb)))
    go_ret
    exact ⟨z1_5_, z1_8_⟩
   ·
    replace c6 := Bool.eq_false_iff.mpr c6
    subst c6
    have H1 := H; rw [if_neg (show ¬ (false = true) by decide)] at H1
    clear H
    have H := H1
    clear H1
    obtain rfl := Option.some.inj H
    go_enter Try.func116, Try.ntmps116
    go_wp2_with (first | ((with_reducible refine gate_dst (N := 2) rfl ?_); refine box_event ?hg (N := 2) ?hd (cs := #[.int .i8 a0_0, .int .i8 a0_1, .int .i16 a0_2, .int .i16 a0_3, .int .i16 a0_4]) (t := 89) ?hr ?_; (case hd => rfl); (case hg => rfl); (case hr => first | (go_simp; done) | (go_simp; rfl)); intro gb134 hg w13 hbox hb; have _ := A_ (below_step z1_1_ hb); have _ := A_ (hbox); have _ := A_ ((by rw [hg]; exact (below_size z1_1_) : w.heap.size ≤ gb134)); have _ := A_ ((by rw [hg]; exact (below_size z1_1_) : w.heap.size ≤ gb134)); clear HB; rename_i HB BK134 GW134 GE134; clear hb hbox hg) | ((with_reducible refine gate_dst (N := 3) rfl ?_); refine box_event ?hg (N := 3) ?hd (cs := #[.int .i8 a1_0, .int .i8 a1_1, .int .i16 a1_2, .int .i16 a1_3, .int .i16 a1_4]) (t := 89) ?hr ?_; (case hd => rfl); (case hg => rfl); (case hr => first | (go_simp; done) | (go_simp; rfl)); intro gb135 hg w14 hbox hb; have _ := A_ (blk_below (g := gb134) (o := .cells #[.int .i8 a0_0, .int .i8 a0_1, .int .i16 a0_2, .int .i16 a0_3, .int .i16 a0_4] 89 (0, 0)) z1_3_ hb); have _ := A_ (below_step z1_2_ hb); have _ := A_ (hbox); have _ := A_ ((by rw [hg]; exact (below_size z1_2_) : w.heap.size ≤ gb135)); have _ := A_ ((by rw [hg]; exact (below_size z1_2_) : w.heap.size ≤ gb135)); have _ := A_ ((by rw [hg]; exact Nat.ne_of_lt (blk_lt (g := gb134) (o := .cells #[.int .i8 a0_0, .int .i8 a0_1, .int .i16 a0_2, .int .i16 a0_3, .int .i16 a0_4] 89 (0, 0)) z1_3_) : gb134 ≠ gb135)); have _ := A_ ((by rw [hg]; exact Nat.ne_of_gt (blk_lt (g := gb134) (o := .cells #[.int .i8 a0_0, .int .i8 a0_1, .int .i16 a0_2, .int .i16 a0_3, .int .i16 a0_4] 89 (0, 0)) z1_3_) : gb135 ≠ gb134)); clear BK134 HB; rename_i BK134 HB BK135 GW135 GE135 NB134_135 NB135_134; clear hb hbox hg; have hnb15 := NB134_135.out; have hnc15 := NB135_134.out; obtain ⟨hcz16_0, hcz16_1, hcz16_2, hcz16_3, hcz16_4⟩ := bc5 BK134.out; obtain ⟨hfz16_0, hfz16_1, hfz16_2, hfz16_3, hfz16_4⟩ := bf5 BK134.out; obtain ⟨hcz17_0, hcz17_1, hcz17_2, hcz17_3, hcz17_4⟩ := bc5 BK135.out; obtain ⟨hfz17_0, hfz17_1, hfz17_2, hfz17_3, hfz17_4⟩ := bf5 BK135.out) | ((with_reducible refine gate_callee (f := 151) rfl ?_); refine goesL_ (some 19) rfl rfl Try.func151 (by kernel_rfl) rfl #[.agg #[.int .i16 a0_2, .int .i16 a0_3, .int .i16 a0_4], .agg #[.int .i16 a1_2, .int .i16 a1_3, .int .i16 a1_4]] rfl z1_7_ ?_; (with_reducible refine (laws_eqInt16A3.calls k a0_2 a0_3 a0_4 a1_2 a1_3 a1_4 false _ A5.out).mono ?_); rintro e w18 ⟨rfl, hb⟩; refine ⟨_, rfl, ?_⟩; have _ := A_ (blk_below (g := gb134) (o := .cells #[.int .i8 a0_0, .int .i8 a0_1, .int .i16 a0_2, .int .i16 a0_3, .int .i16 a0_4] 89 (0, 0)) z1_3_ hb); have _ := A_ (blk_below (g := gb135) (o := .cells #[.int .i8 a1_0, .int .i8 a1_1, .int .i16 a1_2, .int .i16 a1_3, .int .i16 a1_4] 89 (0, 0)) z1_28_ hb); have _ := A_ (below_step z1_8_ hb); clear BK134 BK135 HB; rename_i BK134 BK135 HB; (try clear hb)))
    go_ret
    exact ⟨z1_5_, z1_8_⟩
  ·
   rw [if_neg c4] at H
   have c4b0 : (a0_1 == a1_1) = false := beq_eq_false_iff_ne.mpr c4
   have c4b1 : (a0_1 != a1_1) = true := bne_iff_ne.mpr c4
   obtain rfl := Option.some.inj H
   go_enter Try.func116, Try.ntmps116
   go_wp2_with (first | ((with_reducible refine gate_dst (N := 2) rfl ?_); refine box_event ?hg (N := 2) ?hd (cs := #[.int .i8 a0_0, .int .i8 a0_1, .int .i16 a0_2, .int .i16 a0_3, .int .i16 a0_4]) (t := 89) ?hr ?_; (case hd => rfl); (case hg => rfl); (case hr => first | (go_simp; done) | (go_simp; rfl)); intro gb134 hg w19 hbox hb; have _ := A_ (below_step z1_1_ hb); have _ := A_ (hbox); have _ := A_ ((by rw [hg]; exact (below_size z1_1_) : w.heap.size ≤ gb134)); have _ := A_ ((by rw [hg]; exact (below_size z1_1_) : w.heap.size ≤ gb134)); clear HB; rename_i HB BK134 GW134 GE134; clear hb hbox hg) | ((with_reducible refine gate_dst (N := 3) rfl ?_); refine box_event ?hg (N := 3) ?hd (cs := #[.int .i8 a1_0, .int .i8 a1_1, .int .i16 a1_2, .int .i16 a1_3, .int .i16 a1_4]) (t := 89) ?hr ?_; (case hd => rfl); (case hg => rfl); (case hr => first | (go_simp; done) | (go_simp; rfl)); intro gb135 hg w20 hbox hb; have _ := A_ (blk_below (g := gb134) (o := .cells #[.int .i8 a0_0, .int .i8 a0_1, .int .i16 a0_2, .int .i16 a0_3, .int .i16 a0_4] 89 (0, 0)) z1_3_ hb); have _ := A_ (below_step z1_2_ hb); have _ := A_ (hbox); have _ := A_ ((by rw [hg]; exact (below_size z1_2_) : w.heap.size ≤ gb135)); have _ := A_ ((by rw [hg]; exact (below_size z1_2_) : w.heap.size ≤ gb135)); have _ := A_ ((by rw [hg]; exact Nat.ne_of_lt (blk_lt (g := gb134) (o := .cells #[.int .i8 a0_0, .int .i8 a0_1, .int .i16 a0_2, .int .i16 a0_3, .int .i16 a0_4] 89 (0, 0)) z1_3_) : gb134 ≠ gb135)); have _ := A_ ((by rw [hg]; exact Nat.ne_of_gt (blk_lt (g := gb134) (o := .cells #[.int .i8 a0_0, .int .i8 a0_1, .int .i16 a0_2, .int .i16 a0_3, .int .i16 a0_4] 89 (0, 0)) z1_3_) : gb135 ≠ gb134)); clear BK134 HB; rename_i BK134 HB BK135 GW135 GE135 NB134_135 NB135_134; clear hb hbox hg; have hnb21 := NB134_135.out; have hnc21 := NB135_134.out; obtain ⟨hcz22_0, hcz22_1, hcz22_2, hcz22_3, hcz22_4⟩ := bc5 BK134.out; obtain ⟨hfz22_0, hfz22_1, hfz22_2, hfz22_3, hfz22_4⟩ := bf5 BK134.out; obtain ⟨hcz23_0, hcz23_1, hcz23_2, hcz23_3, hcz23_4⟩ := bc5 BK135.out; obtain ⟨hfz23_0, hfz23_1, hfz23_2, hfz23_3, hfz23_4⟩ := bf5 BK135.out))
   go_ret
   exact ⟨z1_5_, z1_8_⟩
 ·
  rw [if_neg c3] at H
  have c3b0 : (a0_0 == a1_0) = false := beq_eq_false_iff_ne.mpr c3
  have c3b1 : (a0_0 != a1_0) = true := bne_iff_ne.mpr c3
  obtain rfl := Option.some.inj H
  go_enter Try.func116, Try.ntmps116
  go_wp2_with (first | ((with_reducible refine gate_dst (N := 2) rfl ?_); refine box_event ?hg (N := 2) ?hd (cs := #[.int .i8 a0_0, .int .i8 a0_1, .int .i16 a0_2, .int .i16 a0_3, .int .i16 a0_4]) (t := 89) ?hr ?_; (case hd => rfl); (case hg => rfl); (case hr => first | (go_simp; done) | (go_simp; rfl)); intro gb134 hg w24 hbox hb; have _ := A_ (below_step z1_1_ hb); have _ := A_ (hbox); have _ := A_ ((by rw [hg]; exact (below_size z1_1_) : w.heap.size ≤ gb134)); have _ := A_ ((by rw [hg]; exact (below_size z1_1_) : w.heap.size ≤ gb134)); clear HB; rename_i HB BK134 GW134 GE134; clear hb hbox hg) | ((with_reducible refine gate_dst (N := 3) rfl ?_); refine box_event ?hg (N := 3) ?hd (cs := #[.int .i8 a1_0, .int .i8 a1_1, .int .i16 a1_2, .int .i16 a1_3, .int .i16 a1_4]) (t := 89) ?hr ?_; (case hd => rfl); (case hg => rfl); (case hr => first | (go_simp; done) | (go_simp; rfl)); intro gb135 hg w25 hbox hb; have _ := A_ (blk_below (g := gb134) (o := .cells #[.int .i8 a0_0, .int .i8 a0_1, .int .i16 a0_2, .int .i16 a0_3, .int .i16 a0_4] 89 (0, 0)) z1_3_ hb); have _ := A_ (below_step z1_2_ hb); have _ := A_ (hbox); have _ := A_ ((by rw [hg]; exact (below_size z1_2_) : w.heap.size ≤ gb135)); have _ := A_ ((by rw [hg]; exact (below_size z1_2_) : w.heap.size ≤ gb135)); have _ := A_ ((by rw [hg]; exact Nat.ne_of_lt (blk_lt (g := gb134) (o := .cells #[.int .i8 a0_0, .int .i8 a0_1, .int .i16 a0_2, .int .i16 a0_3, .int .i16 a0_4] 89 (0, 0)) z1_3_) : gb134 ≠ gb135)); have _ := A_ ((by rw [hg]; exact Nat.ne_of_gt (blk_lt (g := gb134) (o := .cells #[.int .i8 a0_0, .int .i8 a0_1, .int .i16 a0_2, .int .i16 a0_3, .int .i16 a0_4] 89 (0, 0)) z1_3_) : gb135 ≠ gb134)); clear BK134 HB; rename_i BK134 HB BK135 GW135 GE135 NB134_135 NB135_134; clear hb hbox hg; have hnb26 := NB134_135.out; have hnc26 := NB135_134.out; obtain ⟨hcz27_0, hcz27_1, hcz27_2, hcz27_3, hcz27_4⟩ := bc5 BK134.out; obtain ⟨hfz27_0, hfz27_1, hfz27_2, hfz27_3, hfz27_4⟩ := bf5 BK134.out; obtain ⟨hcz28_0, hcz28_1, hcz28_2, hcz28_3, hcz28_4⟩ := bc5 BK135.out; obtain ⟨hfz28_0, hfz28_1, hfz28_2, hfz28_3, hfz28_4⟩ := bf5 BK135.out))
  go_ret
  exact ⟨z1_5_, z1_8_⟩
/-! ### laws_eqForkS: function 64 -/
def laws_eqForkS.l0 : Nat → List (S89) → List (S89) → Int → Option (Bool)
 | 0, _, _, _ => none
 | k + 1, x0, x1, x5 => if x5 < (x0.length : Int) then (if 0 ≤ x5 then (if x5 < (x1.length : Int) then ((laws_eqFork.f k ((rd_T89 x0 x5).f0) ((rd_T89 x0 x5).f1) ((rd_T89 x0 x5).f2.f0) ((rd_T89 x0 x5).f2.f1) ((rd_T89 x0 x5).f2.f2) ((rd_T89 x1 x5).f0) ((rd_T89 x1 x5).f1) ((rd_T89 x1 x5).f2.f0) ((rd_T89 x1 x5).f2.f1) ((rd_T89 x1 x5).f2.f2)).bind fun t139 => (if t139 = true then (laws_eqForkS.l0 k x0 x1 (wrap64 (x5 + 1))) else (some false))) else (none)) else (none)) else (some true)
def laws_eqForkS.f (k : Nat) (l0 : List (S89)) (l1 : List (S89)) : Option (Bool) := if (l0.length : Int) = (l1.length : Int) then (laws_eqForkS.l0 k l0 l1 0) else (some false)
theorem laws_eqForkS.mono_l : ∀ k, (∀ y0 y1 y2, LeO (laws_eqForkS.l0 k y0 y1 y2) (laws_eqForkS.l0 (k + 1) y0 y1 y2))
 | 0 => fun _ _ _ r h => by simp [laws_eqForkS.l0] at h
 | k + 1 => by
  have ih0 := laws_eqForkS.mono_l k
  ·
   intro y0 y1 y2
   unfold laws_eqForkS.l0
   repeat' first
   | (with_reducible exact ih0 _ _ _)
   | (with_reducible exact laws_eqFork.mono _ _ _ _ _ _ _ _ _ _ _)
   | (with_reducible exact LeO.refl _)
   | (with_reducible exact LeO.none _)
   | (with_reducible refine LeO.ite ?_ ?_)
   | (with_reducible refine LeO.bind ?_ (fun _ => ?_))
   | exact ih0 _ _ _
   | exact LeO.none _
   | refine LeO.ite ?_ ?_
   | refine LeO.bind ?_ (fun _ => ?_)
theorem laws_eqForkS.mono : ∀ a0 a1 k, LeO (laws_eqForkS.f k a0 a1) (laws_eqForkS.f (k + 1) a0 a1) := by
 intro a0 a1 k
 have ih0 := laws_eqForkS.mono_l k
 unfold laws_eqForkS.f
 repeat' first
   | (with_reducible exact ih0 _ _ _)
   | (with_reducible exact laws_eqFork.mono _ _ _ _ _ _ _ _ _ _ _)
   | (with_reducible exact LeO.refl _)
   | (with_reducible exact LeO.none _)
   | (with_reducible refine LeO.ite ?_ ?_)
   | (with_reducible refine LeO.bind ?_ (fun _ => ?_))
   | exact ih0 _ _ _
   | exact LeO.none _
   | refine LeO.ite ?_ ?_
   | refine LeO.bind ?_ (fun _ => ?_)
def laws_eqForkS.T6 : Bool × List (List Nat × List Nat) := (true, [([], []), ([], []), ([0, 1], [0, 1]), ([2], [2]), ([], []), ([], []), ([4, 5], [4, 5]), ([6], [6]), ([3, 7], [3, 7]), ([8], [8])])
def laws_eqForkS.B6 : List Nat := [0, 0, 3, 7, 0, 0, 48, 112, 255, 511]
theorem laws_eqForkS.tab6 : rtab .any (opsOf Try.f64 6) = laws_eqForkS.T6 := by kernel_rfl
theorem laws_eqForkS.bits6 : waitsOk laws_eqForkS.T6.2 laws_eqForkS.B6 = true := by kernel_rfl
set_option maxHeartbeats 8000000 in
set_option maxRecDepth 100000 in
theorem laws_eqForkS.calls (k : Nat) (A0 : Option Addr) (c0 : Nat) (l0 : List (S89)) (A1 : Option Addr) (c1 : Nat) (l1 : List (S89)) (r : Bool) (w : World) (hr0 : Kd.C k89 w A0 l0.length l0) (hc0 : l0.length ≤ c0) (hr1 : Kd.C k89 w A1 l1.length l1) (hc1 : l1.length ≤ c1) (h : laws_eqForkS.f k l0 l1 = some r) :
  Calls Try.prog 64 #[.slice A0 l0.length c0, .slice A1 l1.length c1] w fun e w' => e = .returned (.bool r) ∧ Below w.heap.size w w' := by
 have hu89 := Try.underlying89
 have HR0 := A_ hr0
 have HC0 := A_ hc0
 clear hr0 hc0
 have HR1 := A_ hr1
 have HC1 := A_ hc1
 clear hr1 hc1
 have HB := A_ (Below.refl w.heap.size w)
 have H : (if (l0.length : Int) = (l1.length : Int) then (laws_eqForkS.l0 k l0 l1 0) else (some false)) = some r := h
 clear h
 by_cases c3 : (l0.length : Int) = (l1.length : Int)
 ·
  rw [if_pos c3] at H
  have c3b0 := beq_iff_eq.mpr c3
  have c3b1 := bne_eq_false_iff_eq.mpr c3
  have c3b2 : (l0.length == l1.length) = true := by first | simpa using c3 | (simp at c3 ⊢; omega)
  clear c3
  have H' := A_ H
  clear H
  go_enter Try.func64, Try.ntmps64
  go_wp2
  go_loopg [5] k (fun kq v5 w' => ∃ (x5_1 : Int), v5 = .int .i64 x5_1 ∧ Aside0 (laws_eqForkS.l0 kq l0 l1 x5_1 = some r) ∧ Aside0 (kq ≤ k) ∧ Aside0 (Below w.heap.size w w'))
  case atStart => exact ⟨(0), z1_12_, H', ⟨Nat.le_refl _⟩, ⟨z1_1_⟩⟩
  case round =>
   clear H'
   try clear c1
   try clear p2
   try clear c3
   try clear c3b0
   try clear c3b1
   try clear c3b2
   obtain ⟨x5_1, rfl, HA, HK1, HB⟩ := hrel
   cases gk with
   | zero => exact absurd HA.out (by simp [laws_eqForkS.l0])
   | succ k1 =>
    have H := HA.out
    clear HA
    simp only [laws_eqForkS.l0] at H
    by_cases c4 : x5_1 < (l0.length : Int)
    ·
     rw [if_pos c4] at H
     have c4b0 := decide_eq_true c4
     clear c4
     by_cases c5 : 0 ≤ x5_1
     ·
      rw [if_pos c5] at H
      have c5b0 := decide_eq_true c5
      clear c5
      by_cases c6 : x5_1 < (l1.length : Int)
      ·
       rw [if_pos c6] at H
       have c6b0 := decide_eq_true c6
       clear c6
       replace H := Option.bind_eq_some_iff.mp H
       obtain ⟨t139, A70, H⟩ := H
       try dsimp only at H
       have A7 := A_ A70
       clear A70
       by_cases c8 : t139 = true
       ·
        subst c8
        have H1 := H; rw [if_pos rfl] at H1
        clear H
        have H := H1
        clear H1
        have H' := A_ H
        clear H
        try go_wp2
        have _ := A_ (below_drew1 HB.out)
        clear HB
        rename_i HB
        have p137 : 0 ≤ (x5_1 : Int) := of_decide_eq_true (by assumption)
        have q137 : x5_1 < (l0.length : Int) := of_decide_eq_true (by assumption)
        obtain ⟨ad137, e137, hx137_0, hx137_1, hx137_2, hx137_3, hx137_4⟩ := at_T89 HR0.out x5_1 p137 q137
        have hw137_4 := hx137_4
        have hw137_3 := hx137_3
        have hw137_2 := hx137_2
        have hw137_1 := hx137_1
        have hw137_0 := hx137_0
        cases e137
        replace hx137_0 := cel HB.out hx137_0
        replace hx137_1 := cel HB.out hx137_1
        replace hx137_2 := cel HB.out hx137_2
        replace hx137_3 := cel HB.out hx137_3
        replace hx137_4 := cel HB.out hx137_4
        replace p137 := eq_true p137
        replace q137 := eq_true q137
        have p138 : 0 ≤ (x5_1 : Int) := of_decide_eq_true (by assumption)
        have q138 : x5_1 < (l1.length : Int) := of_decide_eq_true (by assumption)
        obtain ⟨ad138, e138, hx138_0, hx138_1, hx138_2, hx138_3, hx138_4⟩ := at_T89 HR1.out x5_1 p138 q138
        have hw138_4 := hx138_4
        have hw138_3 := hx138_3
        have hw138_2 := hx138_2
        have hw138_1 := hx138_1
        have hw138_0 := hx138_0
        cases e138
        replace hx138_0 := cel HB.out hx138_0
        replace hx138_1 := cel HB.out hx138_1
        replace hx138_2 := cel HB.out hx138_2
        replace hx138_3 := cel HB.out hx138_3
        replace hx138_4 := cel HB.out hx138_4
        replace p138 := eq_true p138
        replace q138 := eq_true q138
        refine start_ (n := 10) (S := fun w' => w'.cell? (ad137.add ((x5_1).toNat * 5)) = some (.int .i8 ((rd_T89 l0 x5_1).f0)) ∧ w'.cell? ⟨(ad137.add ((x5_1).toNat * 5)).block, (ad137.add ((x5_1).toNat * 5)).off + 1, none⟩ = some (.int .i8 ((rd_T89 l0 x5_1).f1)) ∧ w'.cell? ⟨(ad137.add ((x5_1).toNat * 5)).block, (ad137.add ((x5_1).toNat * 5)).off + 2, none⟩ = some (.int .i16 ((rd_T89 l0 x5_1).f2.f0)) ∧ w'.cell? ⟨(ad137.add ((x5_1).toNat * 5)).block, (ad137.add ((x5_1).toNat * 5)).off + 3, none⟩ = some (.int .i16 ((rd_T89 l0 x5_1).f2.f1)) ∧ w'.cell? ⟨(ad137.add ((x5_1).toNat * 5)).block, (ad137.add ((x5_1).toNat * 5)).off + 4, none⟩ = some (.int .i16 ((rd_T89 l0 x5_1).f2.f2)) ∧ w'.cell? (ad138.add ((x5_1).toNat * 5)) = some (.int .i8 ((rd_T89 l1 x5_1).f0)) ∧ w'.cell? ⟨(ad138.add ((x5_1).toNat * 5)).block, (ad138.add ((x5_1).toNat * 5)).off + 1, none⟩ = some (.int .i8 ((rd_T89 l1 x5_1).f1)) ∧ w'.cell? ⟨(ad138.add ((x5_1).toNat * 5)).block, (ad138.add ((x5_1).toNat * 5)).off + 2, none⟩ = some (.int .i16 ((rd_T89 l1 x5_1).f2.f0)) ∧ w'.cell? ⟨(ad138.add ((x5_1).toNat * 5)).block, (ad138.add ((x5_1).toNat * 5)).off + 3, none⟩ = some (.int .i16 ((rd_T89 l1 x5_1).f2.f1)) ∧ w'.cell? ⟨(ad138.add ((x5_1).toNat * 5)).block, (ad138.add ((x5_1).toNat * 5)).off + 4, none⟩ = some (.int .i16 ((rd_T89 l1 x5_1).f2.f2))) (ds := []) #[false, false, false, false, false, false, false, false, false, false] (by kernel_rfl) rfl rfl ⟨(cel HB.out hw137_0 :), (cel HB.out hw137_1 :), (cel HB.out hw137_2 :), (cel HB.out hw137_3 :), (cel HB.out hw137_4 :), (cel HB.out hw138_0 :), (cel HB.out hw138_1 :), (cel HB.out hw138_2 :), (cel HB.out hw138_3 :), (cel HB.out hw138_4 :)⟩ (fun hHeld => ?_); refine with_tabW laws_eqForkS.tab6 laws_eqForkS.bits6 (fun HT_ HW_ => ?_)
        generalize wr.drew = w9 at HB hx137_0 hx137_1 hx137_2 hx137_3 hx137_4 hx138_0 hx138_1 hx138_2 hx138_3 hx138_4 hHeld ⊢
        refine pure_ (i := 0) (N := some 17) (v := ?_) (a' := ?_) #[true, false, false, false, false, false, false, false, false, false] rfl rfl (any_of HT_.out (by kernel_rfl)) (fun _ _ _ h => h) (Or.inl ⟨by rfl, ?_⟩) ?_ ?_
        rotate_left
        ·
         intro w'
         go_simp
         with_reducible rfl
        rotate_left
        ·
         simp only [Act.put, sA_, sB_, sC_, i64_w, i32_w]
         rfl
        refine pure_ (i := 1) (N := some 18) (v := ?_) (a' := ?_) #[true, true, false, false, false, false, false, false, false, false] rfl rfl (any_of HT_.out (by kernel_rfl)) (fun _ _ _ h => h) (Or.inl ⟨by rfl, ?_⟩) ?_ ?_
        rotate_left
        ·
         intro w'
         go_simp
         with_reducible rfl
        rotate_left
        ·
         simp only [Act.put, sA_, sB_, sC_, i64_w, i32_w]
         rfl
        refine pure_ (i := 2) (N := some 19) (v := ?_) (a' := ?_) #[true, true, true, false, false, false, false, false, false, false] rfl rfl (any_of HT_.out (by kernel_rfl)) (fun _ _ _ h => h) (Or.inl ⟨by rfl, ?_⟩) ?_ ?_
        rotate_left
        ·
         intro w'
         go_simp
         with_reducible rfl
        rotate_left
        ·
         simp only [Act.put, sA_, sB_, sC_, i64_w, i32_w]
         rfl
        refine pure_ (i := 4) (N := some 21) (v := ?_) (a' := ?_) #[true, true, true, false, true, false, false, false, false, false] rfl rfl (any_of HT_.out (by kernel_rfl)) (fun _ _ _ h => h) (Or.inl ⟨by rfl, ?_⟩) ?_ ?_
        rotate_left
        ·
         intro w'
         go_simp
         with_reducible rfl
        rotate_left
        ·
         simp only [Act.put, sA_, sB_, sC_, i64_w, i32_w]
         rfl
        refine pure_ (i := 5) (N := some 22) (v := ?_) (a' := ?_) #[true, true, true, false, true, true, false, false, false, false] rfl rfl (any_of HT_.out (by kernel_rfl)) (fun _ _ _ h => h) (Or.inl ⟨by rfl, ?_⟩) ?_ ?_
        rotate_left
        ·
         intro w'
         go_simp
         with_reducible rfl
        rotate_left
        ·
         simp only [Act.put, sA_, sB_, sC_, i64_w, i32_w]
         rfl
        refine pure_ (i := 6) (N := some 23) (v := ?_) (a' := ?_) #[true, true, true, false, true, true, true, false, false, false] rfl rfl (any_of HT_.out (by kernel_rfl)) (fun _ _ _ h => h) (Or.inl ⟨by rfl, ?_⟩) ?_ ?_
        rotate_left
        ·
         intro w'
         go_simp
         with_reducible rfl
        rotate_left
        ·
         simp only [Act.put, sA_, sB_, sC_, i64_w, i32_w]
         rfl
        refine take_ (i := 3) (N := some 20) (v := ?_) (a' := ?_) #[true, true, true, true, true, true, true, false, false, false] rfl rfl (take_ofW HT_.out HW_.out (by kernel_rfl)) (fun _ _ _ h => h) (Or.inl ⟨by rfl, ?_⟩) hHeld ?_ ?_
        rotate_left
        ·
         rintro w' ⟨s0, s1, s2, s3, s4, s5, s6, s7, s8, s9⟩
         go_simp
         with_reducible rfl
        rotate_left
        ·
         simp only [Act.put, sA_, sB_, sC_, i64_w, i32_w]
         rfl
        refine take_ (i := 7) (N := some 24) (v := ?_) (a' := ?_) #[true, true, true, true, true, true, true, true, false, false] rfl rfl (take_ofW HT_.out HW_.out (by kernel_rfl)) (fun _ _ _ h => h) (Or.inl ⟨by rfl, ?_⟩) hHeld ?_ ?_
        rotate_left
        ·
         rintro w' ⟨s0, s1, s2, s3, s4, s5, s6, s7, s8, s9⟩
         go_simp
         with_reducible rfl
        rotate_left
        ·
         simp only [Act.put, sA_, sB_, sC_, i64_w, i32_w]
         rfl
        refine one_ (i := 8) (N := some 25) #[true, true, true, true, true, true, true, true, true, false] rfl rfl (one_of HT_.out (by kernel_rfl)) (by decide) (fun K hK => ?_)
        refine goes_ Try.func116 (by kernel_rfl) rfl #[.agg #[.int .i8 ((rd_T89 l0 x5_1).f0), .int .i8 ((rd_T89 l0 x5_1).f1), .int .i16 ((rd_T89 l0 x5_1).f2.f0), .int .i16 ((rd_T89 l0 x5_1).f2.f1), .int .i16 ((rd_T89 l0 x5_1).f2.f2)], .agg #[.int .i8 ((rd_T89 l1 x5_1).f0), .int .i8 ((rd_T89 l1 x5_1).f1), .int .i16 ((rd_T89 l1 x5_1).f2.f0), .int .i16 ((rd_T89 l1 x5_1).f2.f1), .int .i16 ((rd_T89 l1 x5_1).f2.f2)]] (by rfl) rfl rfl z1_7_ ?_
        with_reducible refine (laws_eqFork.calls k1 ((rd_T89 l0 x5_1).f0) ((rd_T89 l0 x5_1).f1) ((rd_T89 l0 x5_1).f2.f0) ((rd_T89 l0 x5_1).f2.f1) ((rd_T89 l0 x5_1).f2.f2) ((rd_T89 l1 x5_1).f0) ((rd_T89 l1 x5_1).f1) ((rd_T89 l1 x5_1).f2.f0) ((rd_T89 l1 x5_1).f2.f1) ((rd_T89 l1 x5_1).f2.f2) true _ A7.out).mono ?_
        rintro e w10 ⟨rfl, hb⟩
        refine ⟨_, rfl, ?_⟩
        have _ := A_ (below_step z1_1_ hb)
        clear HB
        rename_i HB
        (try clear hb)
        (try clear hb2)
        (try clear hk)
        (try clear hi)
        refine hK.out _ _ ⟨(cel HB.out hw137_0 :), (cel HB.out hw137_1 :), (cel HB.out hw137_2 :), (cel HB.out hw137_3 :), (cel HB.out hw137_4 :), (cel HB.out hw138_0 :), (cel HB.out hw138_1 :), (cel HB.out hw138_2 :), (cel HB.out hw138_3 :), (cel HB.out hw138_4 :)⟩ (fun hHeld => ?_)
        clear hK K
        refine norm_ (a' := ?_) ?_ ?_
        rotate_left
        ·
         show Act.put _ (some 25) _ = _
         simp only [Act.put, sA_, sB_, sC_, i64_w, i32_w]
         rfl
        refine pure_ (i := 9) (N := some 26) (v := ?_) (a' := ?_) #[true, true, true, true, true, true, true, true, true, true] rfl rfl (any_of HT_.out (by kernel_rfl)) (fun _ _ _ h => h) (Or.inl ⟨by rfl, ?_⟩) ?_ ?_
        rotate_left
        ·
         intro w'
         go_simp
         with_reducible rfl
        rotate_left
        ·
         simp only [Act.put, sA_, sB_, sC_, i64_w, i32_w]
         rfl
        refine done_ (done_of HT_.out (by kernel_rfl)) ?_
        try go_wp2
        go_roundg k1
        case measure => have := HK1.out; omega
        case rel => exact ⟨(wrap64 (x5_1 + 1)), z1_12_, H', ⟨(by have := HK1.out; omega)⟩, ⟨z1_1_⟩⟩
       ·
        replace c8 := Bool.eq_false_iff.mpr c8
        subst c8
        have H1 := H; rw [if_neg (show ¬ (false = true) by decide)] at H1
        clear H
        have H := H1
        clear H1
        obtain rfl := Option.some.inj H
        try go_wp2
        have _ := A_ (below_drew1 HB.out)
        clear HB
        rename_i HB
        have p137 : 0 ≤ (x5_1 : Int) := of_decide_eq_true (by assumption)
        have q137 : x5_1 < (l0.length : Int) := of_decide_eq_true (by assumption)
        obtain ⟨ad137, e137, hx137_0, hx137_1, hx137_2, hx137_3, hx137_4⟩ := at_T89 HR0.out x5_1 p137 q137
        have hw137_4 := hx137_4
        have hw137_3 := hx137_3
        have hw137_2 := hx137_2
        have hw137_1 := hx137_1
        have hw137_0 := hx137_0
        cases e137
        replace hx137_0 := cel HB.out hx137_0
        replace hx137_1 := cel HB.out hx137_1
        replace hx137_2 := cel HB.out hx137_2
        replace hx137_3 := cel HB.out hx137_3
        replace hx137_4 := cel HB.out hx137_4
        replace p137 := eq_true p137
        replace q137 := eq_true q137
        have p138 : 0 ≤ (x5_1 : Int) := of_decide_eq_true (by assumption)
        have q138 : x5_1 < (l1.length : Int) := of_decide_eq_true (by assumption)
        obtain ⟨ad138, e138, hx138_0, hx138_1, hx138_2, hx138_3, hx138_4⟩ := at_T89 HR1.out x5_1 p138 q138
        have hw138_4 := hx138_4
        have hw138_3 := hx138_3
        have hw138_2 := hx138_2
        have hw138_1 := hx138_1
        have hw138_0 := hx138_0
        cases e138
        replace hx138_0 := cel HB.out hx138_0
        replace hx138_1 := cel HB.out hx138_1
        replace hx138_2 := cel HB.out hx138_2
        replace hx138_3 := cel HB.out hx138_3
        replace hx138_4 := cel HB.out hx138_4
        replace p138 := eq_true p138
        replace q138 := eq_true q138
        refine start_ (n := 10) (S := fun w' => w'.cell? (ad137.add ((x5_1).toNat * 5)) = some (.int .i8 ((rd_T89 l0 x5_1).f0)) ∧ w'.cell? ⟨(ad137.add ((x5_1).toNat * 5)).block, (ad137.add ((x5_1).toNat * 5)).off + 1, none⟩ = some (.int .i8 ((rd_T89 l0 x5_1).f1)) ∧ w'.cell? ⟨(ad137.add ((x5_1).toNat * 5)).block, (ad137.add ((x5_1).toNat * 5)).off + 2, none⟩ = some (.int .i16 ((rd_T89 l0 x5_1).f2.f0)) ∧ w'.cell? ⟨(ad137.add ((x5_1).toNat * 5)).block, (ad137.add ((x5_1).toNat * 5)).off + 3, none⟩ = some (.int .i16 ((rd_T89 l0 x5_1).f2.f1)) ∧ w'.cell? ⟨(ad137.add ((x5_1).toNat * 5)).block, (ad137.add ((x5_1).toNat * 5)).off + 4, none⟩ = some (.int .i16 ((rd_T89 l0 x5_1).f2.f2)) ∧ w'.cell? (ad138.add ((x5_1).toNat * 5)) = some (.int .i8 ((rd_T89 l1 x5_1).f0)) ∧ w'.cell? ⟨(ad138.add ((x5_1).toNat * 5)).block, (ad138.add ((x5_1).toNat * 5)).off + 1, none⟩ = some (.int .i8 ((rd_T89 l1 x5_1).f1)) ∧ w'.cell? ⟨(ad138.add ((x5_1).toNat * 5)).block, (ad138.add ((x5_1).toNat * 5)).off + 2, none⟩ = some (.int .i16 ((rd_T89 l1 x5_1).f2.f0)) ∧ w'.cell? ⟨(ad138.add ((x5_1).toNat * 5)).block, (ad138.add ((x5_1).toNat * 5)).off + 3, none⟩ = some (.int .i16 ((rd_T89 l1 x5_1).f2.f1)) ∧ w'.cell? ⟨(ad138.add ((x5_1).toNat * 5)).block, (ad138.add ((x5_1).toNat * 5)).off + 4, none⟩ = some (.int .i16 ((rd_T89 l1 x5_1).f2.f2))) (ds := []) #[false, false, false, false, false, false, false, false, false, false] (by kernel_rfl) rfl rfl ⟨(cel HB.out hw137_0 :), (cel HB.out hw137_1 :), (cel HB.out hw137_2 :), (cel HB.out hw137_3 :), (cel HB.out hw137_4 :), (cel HB.out hw138_0 :), (cel HB.out hw138_1 :), (cel HB.out hw138_2 :), (cel HB.out hw138_3 :), (cel HB.out hw138_4 :)⟩ (fun hHeld => ?_); refine with_tabW laws_eqForkS.tab6 laws_eqForkS.bits6 (fun HT_ HW_ => ?_)
        generalize wr.drew = w11 at HB hx137_0 hx137_1 hx137_2 hx137_3 hx137_4 hx138_0 hx138_1 hx138_2 hx138_3 hx138_4 hHeld ⊢
        refine pure_ (i := 0) (N := some 17) (v := ?_) (a' := ?_) #[true, false, false, false, false, false, false, false, false, false] rfl rfl (any_of HT_.out (by kernel_rfl)) (fun _ _ _ h => h) (Or.inl ⟨by rfl, ?_⟩) ?_ ?_
        rotate_left
        ·
         intro w'
         go_simp
         with_reducible rfl
        rotate_left
        ·
         simp only [Act.put, sA_, sB_, sC_, i64_w, i32_w]
         rfl
        refine pure_ (i := 1) (N := some 18) (v := ?_) (a' := ?_) #[true, true, false, false, false, false, false, false, false, false] rfl rfl (any_of HT_.out (by kernel_rfl)) (fun _ _ _ h => h) (Or.inl ⟨by rfl, ?_⟩) ?_ ?_
        rotate_left
        ·
         intro w'
         go_simp
         with_reducible rfl
        rotate_left
        ·
         simp only [Act.put, sA_, sB_, sC_, i64_w, i32_w]
         rfl
        refine pure_ (i := 2) (N := some 19) (v := ?_) (a' := ?_) #[true, true, true, false, false, false, false, false, false, false] rfl rfl (any_of HT_.out (by kernel_rfl)) (fun _ _ _ h => h) (Or.inl ⟨by rfl, ?_⟩) ?_ ?_
        rotate_left
        ·
         intro w'
         go_simp
         with_reducible rfl
        rotate_left
        ·
         simp only [Act.put, sA_, sB_, sC_, i64_w, i32_w]
         rfl
        refine pure_ (i := 4) (N := some 21) (v := ?_) (a' := ?_) #[true, true, true, false, true, false, false, false, false, false] rfl rfl (any_of HT_.out (by kernel_rfl)) (fun _ _ _ h => h) (Or.inl ⟨by rfl, ?_⟩) ?_ ?_
        rotate_left
        ·
         intro w'
         go_simp
         with_reducible rfl
        rotate_left
        ·
         simp only [Act.put, sA_, sB_, sC_, i64_w, i32_w]
         rfl
        refine pure_ (i := 5) (N := some 22) (v := ?_) (a' := ?_) #[true, true, true, false, true, true, false, false, false, false] rfl rfl (any_of HT_.out (by kernel_rfl)) (fun _ _ _ h => h) (Or.inl ⟨by rfl, ?_⟩) ?_ ?_
        rotate_left
        ·
         intro w'
         go_simp
         with_reducible rfl
        rotate_left
        ·
         simp only [Act.put, sA_, sB_, sC_, i64_w, i32_w]
         rfl
        refine pure_ (i := 6) (N := some 23) (v := ?_) (a' := ?_) #[true, true, true, false, true, true, true, false, false, false] rfl rfl (any_of HT_.out (by kernel_rfl)) (fun _ _ _ h => h) (Or.inl ⟨by rfl, ?_⟩) ?_ ?_
        rotate_left
        ·
         intro w'
         go_simp
         with_reducible rfl
        rotate_left
        ·
         simp only [Act.put, sA_, sB_, sC_, i64_w, i32_w]
         rfl
        refine take_ (i := 3) (N := some 20) (v := ?_) (a' := ?_) #[true, true, true, true, true, true, true, false, false, false] rfl rfl (take_ofW HT_.out HW_.out (by kernel_rfl)) (fun _ _ _ h => h) (Or.inl ⟨by rfl, ?_⟩) hHeld ?_ ?_
        rotate_left
        ·
         rintro w' ⟨s0, s1, s2, s3, s4, s5, s6, s7, s8, s9⟩
         go_simp
         with_reducible rfl
        rotate_left
        ·
         simp only [Act.put, sA_, sB_, sC_, i64_w, i32_w]
         rfl
        refine take_ (i := 7) (N := some 24) (v := ?_) (a' := ?_) #[true, true, true, true, true, true, true, true, false, false] rfl rfl (take_ofW HT_.out HW_.out (by kernel_rfl)) (fun _ _ _ h => h) (Or.inl ⟨by rfl, ?_⟩) hHeld ?_ ?_
        rotate_left
        ·
         rintro w' ⟨s0, s1, s2, s3, s4, s5, s6, s7, s8, s9⟩
         go_simp
         with_reducible rfl
        rotate_left
        ·
         simp only [Act.put, sA_, sB_, sC_, i64_w, i32_w]
         rfl
        refine one_ (i := 8) (N := some 25) #[true, true, true, true, true, true, true, true, true, false] rfl rfl (one_of HT_.out (by kernel_rfl)) (by decide) (fun K hK => ?_)
        refine goes_ Try.func116 (by kernel_rfl) rfl #[.agg #[.int .i8 ((rd_T89 l0 x5_1).f0), .int .i8 ((rd_T89 l0 x5_1).f1), .int .i16 ((rd_T89 l0 x5_1).f2.f0), .int .i16 ((rd_T89 l0 x5_1).f2.f1), .int .i16 ((rd_T89 l0 x5_1).f2.f2)], .agg #[.int .i8 ((rd_T89 l1 x5_1).f0), .int .i8 ((rd_T89 l1 x5_1).f1), .int .i16 ((rd_T89 l1 x5_1).f2.f0), .int .i16 ((rd_T89 l1 x5_1).f2.f1), .int .i16 ((rd_T89 l1 x5_1).f2.f2)]] (by rfl) rfl rfl z1_7_ ?_
        with_reducible refine (laws_eqFork.calls k1 ((rd_T89 l0 x5_1).f0) ((rd_T89 l0 x5_1).f1) ((rd_T89 l0 x5_1).f2.f0) ((rd_T89 l0 x5_1).f2.f1) ((rd_T89 l0 x5_1).f2.f2) ((rd_T89 l1 x5_1).f0) ((rd_T89 l1 x5_1).f1) ((rd_T89 l1 x5_1).f2.f0) ((rd_T89 l1 x5_1).f2.f1) ((rd_T89 l1 x5_1).f2.f2) false _ A7.out).mono ?_
        rintro e w12 ⟨rfl, hb⟩
        refine ⟨_, rfl, ?_⟩
        have _ := A_ (below_step z1_1_ hb)
        clear HB
        rename_i HB
        (try clear hb)
        (try clear hb2)
        (try clear hk)
        (try clear hi)
        refine hK.out _ _ ⟨(cel HB.out hw137_0 :), (cel HB.out hw137_1 :), (cel HB.out hw137_2 :), (cel HB.out hw137_3 :), (cel HB.out hw137_4 :), (cel HB.out hw138_0 :), (cel HB.out hw138_1 :), (cel HB.out hw138_2 :), (cel HB.out hw138_3 :), (cel HB.out hw138_4 :)⟩ (fun hHeld => ?_)
        clear hK K
        refine norm_ (a' := ?_) ?_ ?_
        rotate_left
        ·
         show Act.put _ (some 25) _ = _
         simp only [Act.put, sA_, sB_, sC_, i64_w, i32_w]
         rfl
        refine pure_ (i := 9) (N := some 26) (v := ?_) (a' := ?_) #[true, true, true, true, true, true, true, true, true, true] rfl rfl (any_of HT_.out (by kernel_rfl)) (fun _ _ _ h => h) (Or.inl ⟨by rfl, ?_⟩) ?_ ?_
        rotate_left
        ·
         intro w'
         go_simp
         with_reducible rfl
        rotate_left
        ·
         simp only [Act.put, sA_, sB_, sC_, i64_w, i32_w]
         rfl
        refine done_ (done_of HT_.out (by kernel_rfl)) ?_
        try go_wp2
        go_ret
        exact ⟨z1_5_, z1_1_⟩
      ·
       rw [if_neg c6] at H
       exact absurd H (by simp)
     ·
      rw [if_neg c5] at H
      exact absurd H (by simp)
    ·
     rw [if_neg c4] at H
     have c4b0 := decide_eq_false c4
     clear c4
     obtain rfl := Option.some.inj H
     go_wp2
     go_ret
     exact ⟨z1_5_, z1_1_⟩
 ·
  rw [if_neg c3] at H
  have c3b0 : ((l0.length : Int) == (l1.length : Int)) = false := beq_eq_false_iff_ne.mpr c3
  have c3b1 : ((l0.length : Int) != (l1.length : Int)) = true := bne_iff_ne.mpr c3
  have c3b2 : (l0.length == l1.length) = false := by first | simpa using c3 | (simp at c3 ⊢; omega)
  obtain rfl := Option.some.inj H
  go_enter Try.func64, Try.ntmps64
  go_wp2
  go_ret
  exact ⟨z1_5_, z1_1_⟩
end Go.Proofs.Ytpfnohdnaocpdaa.PT

import Derived.Test.YtpfnohdnaocpdaaPTx0
import Derived.Test.YtpfnohdnaocpdaaPTx1
import Derived.Test.YtpfnohdnaocpdaaPTx4
import Derived.Test.YtpfnohdnaocpdaaPTx5
namespace Go.Proofs.Ytpfnohdnaocpdaa.PT
open Go.RowKit Go.Proofs.YtpfnohdnaocpdaaW.PrintWords Go.Proofs.YtpfnohdnaocpdaaW.PrintLast Go.Proofs.YtpfnohdnaocpdaaW.PrintMore Go.Proofs.YtpfnohdnaocpdaaRP
attribute [local go_sem] max2_int min2_int max_two min_two max_three min_three max_four min_four Go.Proofs.YtpfnohdnaocpdaaRP.max_eight Go.Proofs.YtpfnohdnaocpdaaRP.tmod_len   -- for this text's walks alone
set_option linter.unusedVariables false
set_option linter.unusedSimpArgs false
theorem z6_1_ {P : Prop} (h : P := by (with_reducible repeat (first | refine blk_drewN ?_ _ | refine blk_drew ?_ | refine blk_alloc ?_ _)); exact BK310.out) : P := h
theorem z6_2_ {P : Prop} (h : P := by repeat (first | (with_reducible first | exact HB.out | apply below_alloc | apply pw_below_drewN | apply below_drew1 | refine below_set ?_ GE310.out | refine below_set ?_ GE318.out | refine below_set ?_ GE322.out | refine below_set ?_ GE326.out) | exact HB.out)) : P := h
theorem z6_3_ {P : Prop} (h : P := by repeat (first | (with_reducible first | exact HB.out | apply below_alloc | apply pw_below_drewN | apply below_drew1 | refine below_set ?_ GE310.out) | exact HB.out)) : P := h
theorem z6_4_ {P : Prop} (h : P := by (try simp only [List.map_toArray, List.map_cons, List.map_nil]); first | done | rfl | (simp only [List.length_drop, List.length_take]; rfl)) : P := h
theorem z6_5_ {P : Prop} (h : P := by (with_reducible repeat (first | refine blk_drewN ?_ _ | refine blk_drew ?_ | refine blk_alloc ?_ _)); exact BK318.out) : P := h
theorem z6_6_ {P : Prop} (h : P := by repeat (first | (with_reducible first | exact HB.out | apply below_alloc | apply pw_below_drewN | apply below_drew1 | refine below_set ?_ GE310.out | refine below_set ?_ GE318.out) | exact HB.out)) : P := h
theorem z6_7_ {P : Prop} (h : P := by (with_reducible repeat (first | refine blk_drewN ?_ _ | refine blk_drew ?_ | refine blk_alloc ?_ _)); exact BK322.out) : P := h
theorem z6_8_ {P : Prop} (h : P := by repeat (first | (with_reducible first | exact HB.out | apply below_alloc | apply pw_below_drewN | apply below_drew1 | refine below_set ?_ GE310.out | refine below_set ?_ GE318.out | refine below_set ?_ GE322.out) | exact HB.out)) : P := h
theorem z6_9_ {P : Prop} (h : P := by repeat (first | (with_reducible first | exact HB.out | apply below_alloc | apply pw_below_drewN | apply below_drew1) | exact HB.out)) : P := h
theorem z6_10_ {P : Prop} (h : P := by (with_reducible repeat (first | refine blk_drewN ?_ _ | refine blk_drew ?_ | refine blk_alloc ?_ _)); refine blk_put (cs := #[.int .i64 t323, .int .i64 0]) ?_ 1 _ rfl; (with_reducible repeat (first | refine blk_drewN ?_ _ | refine blk_drew ?_ | refine blk_alloc ?_ _)); refine blk_put (cs := #[.int .i64 0, .int .i64 0]) ?_ 0 _ rfl; (with_reducible repeat (first | refine blk_drewN ?_ _ | refine blk_drew ?_ | refine blk_alloc ?_ _)); exact BK326.out) : P := h
theorem z6_11_ {P : Prop} (h : P := by (with_reducible repeat (first | refine blk_drewN ?_ _ | refine blk_drew ?_ | refine blk_alloc ?_ _)); refine blk_far ?_ NB322_326.out _; (with_reducible repeat (first | refine blk_drewN ?_ _ | refine blk_drew ?_ | refine blk_alloc ?_ _)); refine blk_far ?_ NB322_326.out _; (with_reducible repeat (first | refine blk_drewN ?_ _ | refine blk_drew ?_ | refine blk_alloc ?_ _)); exact BK322.out) : P := h
theorem z6_12_ {P : Prop} (h : P := by (with_reducible repeat (first | refine blk_drewN ?_ _ | refine blk_drew ?_ | refine blk_alloc ?_ _)); refine blk_far ?_ NB318_326.out _; (with_reducible repeat (first | refine blk_drewN ?_ _ | refine blk_drew ?_ | refine blk_alloc ?_ _)); refine blk_far ?_ NB318_326.out _; (with_reducible repeat (first | refine blk_drewN ?_ _ | refine blk_drew ?_ | refine blk_alloc ?_ _)); exact BK318.out) : P := h
theorem z6_13_ {P : Prop} (h : P := by (with_reducible repeat (first | refine blk_drewN ?_ _ | refine blk_drew ?_ | refine blk_alloc ?_ _)); refine blk_far ?_ NB310_326.out _; (with_reducible repeat (first | refine blk_drewN ?_ _ | refine blk_drew ?_ | refine blk_alloc ?_ _)); refine blk_far ?_ NB310_326.out _; (with_reducible repeat (first | refine blk_drewN ?_ _ | refine blk_drew ?_ | refine blk_alloc ?_ _)); exact BK310.out) : P := h
theorem z6_14_ {P : Prop} (h : P := by (with_reducible repeat (first | refine blk_drewN ?_ _ | refine blk_drew ?_ | refine blk_alloc ?_ _)); exact BK326.out) : P := h
theorem z6_15_ {P : Prop} (h : P := by (with_reducible repeat (first | apply Kd.R_alloc | apply Kd.R_drewN | apply Kd.R_drew)); exact (Kd.R_mono (Kd.R_far (p := ⟨gb326, 1, none⟩) (Kd.R_far (p := ⟨gb326, 0, none⟩) (Kd.R_types HO321.out BK326.out (by decide)) (fun _ hk => hk.2) (.int .i64 t323)) (fun _ hk => hk.2) (.int .i64 t324)) (fun _ h_ => h_.1))) : P := h
theorem z6_16_ {P : Prop} (h : P := by (with_reducible repeat (first | apply Kd.R_alloc | apply Kd.R_drewN | apply Kd.R_drew)); exact (Kd.R_mono (Kd.R_far (p := ⟨gb326, 1, none⟩) (Kd.R_far (p := ⟨gb326, 0, none⟩) (Kd.R_types HO314.out BK326.out (by decide)) (fun _ hk => hk.2) (.int .i64 t323)) (fun _ hk => hk.2) (.int .i64 t324)) (fun _ h_ => h_.1))) : P := h
theorem z6_17_ {P : Prop} (h : P := by (with_reducible repeat (first | apply Kd.R_alloc | apply Kd.R_drewN | apply Kd.R_drew)); exact (Kd.R_mono (Kd.R_far (p := ⟨gb318, 1, none⟩) (Kd.R_far (p := ⟨gb318, 0, none⟩) (Kd.R_types HO314.out BK318.out (by decide)) (fun _ hk => hk.2) (.int .i64 t315)) (fun _ hk => hk.2) (.int .i64 t316)) (fun _ h_ => h_.1))) : P := h
theorem z6_18_ {P : Prop} (h : P := by (with_reducible repeat (first | apply Kd.R_alloc | apply Kd.R_drewN | apply Kd.R_drew)); exact HO314.out) : P := h
theorem z6_19_ {P : Prop} (h : P := by (with_reducible repeat (first | apply Kd.R_alloc | apply Kd.R_drewN | apply Kd.R_drew)); exact (Kd.R_mono (Kd.R_far (p := ⟨gb322, 0, none⟩) (Kd.R_types HO321.out BK322.out (by decide)) (fun _ hk => hk.2) (.slice Ao26 t319.length co26)) (fun _ h_ => h_.1))) : P := h
theorem z6_20_ {P : Prop} (h : P := by (with_reducible repeat (first | apply Kd.R_alloc | apply Kd.R_drewN | apply Kd.R_drew)); exact HO_323000.out) : P := h
theorem z6_21_ {P : Prop} (h : P := by (with_reducible repeat (first | apply Kd.R_alloc | apply Kd.R_drewN | apply Kd.R_drew)); exact Kd.R_mono HO321.out (fun _ hk => trivial)) : P := h
theorem z6_22_ {P : Prop} (h : P := by (with_reducible repeat (first | apply Kd.R_alloc | apply Kd.R_drewN | apply Kd.R_drew)); exact HO321.out) : P := h
theorem z6_23_ {P : Prop} (h : P := by first | rfl | (simp [errW_none, errW_some] <;> rfl) | (simp [*, errW_none, errW_some] <;> rfl)) : P := h
/-! ### laws_FnExactMeanOf: function 13 -/
def laws_FnExactMeanOf.j0 : Nat → Bool → List (S158) → List (S89) → Option (Bool)
 | 0, _, _, _ => none
 | k + 1, x39, x311000, x323000 => if x39 = true then (some false) else ((laws_toTree.f k x311000).bind fun t328 => ((laws_eqTree.f k x323000 t328).bind fun t331 => (if t331 = true then (some true) else (some false))))
def laws_FnExactMeanOf.f (k : Nat) (l0_0 : List (S158)) (a1 : Int) : Option (Bool) := (laws_szTree.f l0_0 1048576).bind fun t311 => (if t311 < 0 then (some true) else ((laws_toTree.f k l0_0).bind fun t312 => ((spec_MeanOf.f k t312 a1).bind fun bt315 => ((laws_toTree.f k l0_0).bind fun t319 => ((impl_MeanOf.f k t319 a1).bind fun bt323 => ((laws_eqRatio.f bt323.1 bt323.2.1 bt315.1 bt315.2.1).bind fun t327 => (if t327 = true then (laws_FnExactMeanOf.j0 k (bt323.2.2 != bt315.2.2) l0_0 t319) else (laws_FnExactMeanOf.j0 k true l0_0 t319))))))))
theorem laws_FnExactMeanOf.mono_l : ∀ k, (∀ y0 y1 y2, LeO (laws_FnExactMeanOf.j0 k y0 y1 y2) (laws_FnExactMeanOf.j0 (k + 1) y0 y1 y2))
 | 0 => fun _ _ _ r h => by simp [laws_FnExactMeanOf.j0] at h
 | k + 1 => by
  have ih0 := laws_FnExactMeanOf.mono_l k
  ·
   intro y0 y1 y2
   unfold laws_FnExactMeanOf.j0
   repeat' first
   | (with_reducible exact ih0 _ _ _)
   | (with_reducible exact impl_MeanOf.mono _ _ _)
   | (with_reducible exact laws_eqTree.mono _ _ _)
   | (with_reducible exact laws_toTree.mono _ _)
   | (with_reducible exact spec_MeanOf.mono _ _ _)
   | (with_reducible exact LeO.refl _)
   | (with_reducible exact LeO.none _)
   | (with_reducible refine LeO.ite ?_ ?_)
   | (with_reducible refine LeO.bind ?_ (fun _ => ?_))
   | exact ih0 _ _ _
   | exact LeO.none _
   | refine LeO.ite ?_ ?_
   | refine LeO.bind ?_ (fun _ => ?_)
theorem laws_FnExactMeanOf.mono : ∀ a0 a1 k, LeO (laws_FnExactMeanOf.f k a0 a1) (laws_FnExactMeanOf.f (k + 1) a0 a1) := by
 intro a0 a1 k
 have ih0 := laws_FnExactMeanOf.mono_l k
 unfold laws_FnExactMeanOf.f
 repeat' first
   | (with_reducible exact ih0 _ _ _)
   | (with_reducible exact impl_MeanOf.mono _ _ _)
   | (with_reducible exact laws_eqTree.mono _ _ _)
   | (with_reducible exact laws_toTree.mono _ _)
   | (with_reducible exact spec_MeanOf.mono _ _ _)
   | (with_reducible exact LeO.refl _)
   | (with_reducible exact LeO.none _)
   | (with_reducible refine LeO.ite ?_ ?_)
   | (with_reducible refine LeO.bind ?_ (fun _ => ?_))
   | exact ih0 _ _ _
   | exact LeO.none _
   | refine LeO.ite ?_ ?_
   | refine LeO.bind ?_ (fun _ => ?_)
set_option maxHeartbeats 8000000 in
set_option maxRecDepth 100000 in
theorem laws_FnExactMeanOf.calls (k : Nat) (A0_0 : Option Addr) (c0_0 : Nat) (l0_0 : List (S158)) (a1 : Int) (w : World) (hr0_0 : Kd.C k158 w A0_0 l0_0.length l0_0) (hc0_0 : l0_0.length ≤ c0_0) (h : laws_FnExactMeanOf.f k l0_0 a1 = some true) :
  Calls Try.prog 13 #[.agg #[.slice A0_0 l0_0.length c0_0], .int .i64 a1] w fun e w' => e = .returned (.bool true) ∧ Below w.heap.size w w' := by
 have hu24 := Try.underlying24
 have hu71 := Try.underlying71
 have hu34 := Try.underlying34
 have HR0_0 := A_ hr0_0
 have HC0_0 := A_ hc0_0
 clear hr0_0 hc0_0
 have HB := A_ (Below.refl w.heap.size w)
 have H : ((laws_szTree.f l0_0 1048576).bind fun t311 => (if t311 < 0 then (some true) else ((laws_toTree.f k l0_0).bind fun t312 => ((spec_MeanOf.f k t312 a1).bind fun bt315 => ((laws_toTree.f k l0_0).bind fun t319 => ((impl_MeanOf.f k t319 a1).bind fun bt323 => ((laws_eqRatio.f bt323.1 bt323.2.1 bt315.1 bt315.2.1).bind fun t327 => (if t327 = true then (laws_FnExactMeanOf.j0 k (bt323.2.2 != bt315.2.2) l0_0 t319) else (laws_FnExactMeanOf.j0 k true l0_0 t319))))))))) = some true := h
 clear h
 replace H := Option.bind_eq_some_iff.mp H
 obtain ⟨t311, A30, H⟩ := H
 try dsimp only at H
 have A3 := A_ A30
 clear A30
 by_cases c4 : t311 < 0
 ·
  rw [if_pos c4] at H
  have c4b0 := decide_eq_true c4
  clear c4
  clear H
  go_enter Try.func13, Try.ntmps13
  go_wp2_with (first | ((with_reducible refine gate_dst (N := 2) rfl ?_); refine box_event ?hg (N := 2) ?hd (cs := #[.slice A0_0 l0_0.length c0_0]) (t := 24) ?hr ?_; (case hd => rfl); (case hg => rfl); (case hr => first | (go_simp; done) | (go_simp; rfl)); intro gb310 hg w5 hbox hb; have _ := A_ (below_step z6_9_ hb); have _ := A_ (hbox); have _ := A_ ((by rw [hg]; exact (below_size z6_9_) : w.heap.size ≤ gb310)); have _ := A_ ((by rw [hg]; exact (below_size z6_9_) : w.heap.size ≤ gb310)); clear HB; rename_i HB BK310 GW310 GE310; clear hb hbox hg; have hcz6_0 : w5.cell? ⟨gb310, 0, none⟩ = some (.slice A0_0 l0_0.length c0_0) := (blk_cell BK310.out 0).trans rfl; have hfz6_0 := blk_frozen BK310.out 0) | ((with_reducible refine gate_callee (f := 14) rfl ?_); refine goesL_ (some 13) rfl rfl Try.func14 (by kernel_rfl) rfl #[.agg #[.slice A0_0 l0_0.length c0_0], .int .i64 1048576] rfl z6_4_ ?_; (with_reducible refine (laws_szTree.calls _ _ l0_0 1048576 t311 _ ?side1 ?side2 A3.out).mono ?_); (case side1 => have hx_ := (Kd.C_below HR0_0.out HB.out); exact kc_); (case side2 => exact HC0_0.out); rintro e w7 ⟨rfl, hb⟩; refine ⟨_, rfl, ?_⟩; have _ := A_ (blk_below (g := gb310) (o := .cells #[.slice A0_0 l0_0.length c0_0] 24 (0, 0)) z6_1_ hb); have _ := A_ (below_step z6_3_ hb); clear BK310 HB; rename_i BK310 HB; (try clear hb)))
  go_ret
  exact ⟨z6_23_, z6_3_⟩
 ·
  rw [if_neg c4] at H
  have c4b0 := decide_eq_false c4
  clear c4
  replace H := Option.bind_eq_some_iff.mp H
  obtain ⟨t312, A80, H⟩ := H
  try dsimp only at H
  have A8 := A_ A80
  clear A80
  replace H := Option.bind_eq_some_iff.mp H
  obtain ⟨⟨t315, t316, t317⟩, A90, H⟩ := H
  try dsimp only at H
  have A9 := A_ A90
  clear A90
  replace H := Option.bind_eq_some_iff.mp H
  obtain ⟨t319, A100, H⟩ := H
  try dsimp only at H
  have A10 := A_ A100
  clear A100
  replace H := Option.bind_eq_some_iff.mp H
  obtain ⟨⟨t323, t324, t325⟩, A110, H⟩ := H
  try dsimp only at H
  have A11 := A_ A110
  clear A110
  have HC12 := A_ H
  clear H
  go_enter Try.func13, Try.ntmps13
  go_upto_region 8 with (first | ((with_reducible refine gate_dst (N := 2) rfl ?_); refine box_event ?hg (N := 2) ?hd (cs := #[.slice A0_0 l0_0.length c0_0]) (t := 24) ?hr ?_; (case hd => rfl); (case hg => rfl); (case hr => first | (go_simp; done) | (go_simp; rfl)); intro gb310 hg w13 hbox hb; have _ := A_ (below_step z6_9_ hb); have _ := A_ (hbox); have _ := A_ ((by rw [hg]; exact (below_size z6_9_) : w.heap.size ≤ gb310)); have _ := A_ ((by rw [hg]; exact (below_size z6_9_) : w.heap.size ≤ gb310)); clear HB; rename_i HB BK310 GW310 GE310; clear hb hbox hg; have hcz14_0 : w13.cell? ⟨gb310, 0, none⟩ = some (.slice A0_0 l0_0.length c0_0) := (blk_cell BK310.out 0).trans rfl; have hfz14_0 := blk_frozen BK310.out 0) | ((with_reducible refine gate_callee (f := 14) rfl ?_); refine goesL_ (some 13) rfl rfl Try.func14 (by kernel_rfl) rfl #[.agg #[.slice A0_0 l0_0.length c0_0], .int .i64 1048576] rfl z6_4_ ?_; (with_reducible refine (laws_szTree.calls _ _ l0_0 1048576 t311 _ ?side1 ?side2 A3.out).mono ?_); (case side1 => have hx_ := (Kd.C_below HR0_0.out HB.out); exact kc_); (case side2 => exact HC0_0.out); rintro e w15 ⟨rfl, hb⟩; refine ⟨_, rfl, ?_⟩; have _ := A_ (blk_below (g := gb310) (o := .cells #[.slice A0_0 l0_0.length c0_0] 24 (0, 0)) z6_1_ hb); have _ := A_ (below_step z6_3_ hb); clear BK310 HB; rename_i BK310 HB; (try clear hb); have hcz16_0 : w15.cell? ⟨gb310, 0, none⟩ = some (.slice A0_0 l0_0.length c0_0) := (blk_cell BK310.out 0).trans rfl; have hfz16_0 := blk_frozen BK310.out 0) | ((with_reducible refine gate_callee (f := 17) rfl ?_); refine goesL_ (some 18) rfl rfl Try.func17 (by kernel_rfl) rfl #[.agg #[.slice A0_0 l0_0.length c0_0]] rfl z6_4_ ?_; (with_reducible refine (laws_toTree.calls k _ _ l0_0 t312 _ ?side1 ?side2 A8.out).mono ?_); (case side1 => have hx_ := (Kd.C_below HR0_0.out HB.out); exact kc_); (case side2 => exact HC0_0.out); rintro e w17 ⟨v313, rfl, ho0, hb⟩; refine ⟨_, rfl, ?_⟩; have _ := A_ (Kd.R_lower ho0 (below_size z6_3_)); have _ := A_ (blk_below (g := gb310) (o := .cells #[.slice A0_0 l0_0.length c0_0] 24 (0, 0)) z6_1_ hb); have _ := A_ (below_step z6_3_ hb); clear BK310 HB; rename_i HO314 BK310 HB; (try clear hb); (try clear ho0); obtain ⟨Ao18, co18, eo18⟩ := Kd.R_slice HO314.out; subst eo18) | ((with_reducible refine gate_callee (f := 51) rfl ?_); refine goesL_ (some 20) rfl rfl Try.func51 (by kernel_rfl) rfl #[.agg #[.slice Ao18 t312.length co18], .int .i64 a1] rfl z6_4_ ?_; (with_reducible refine (spec_MeanOf.calls k _ _ t312 a1 t315 t316 t317 _ ?side1 ?side2 A9.out).mono ?_); (case side1 => have hx_ := (Kd.R_reads' HO314.out).2.2; exact kc_); (case side2 => exact (Kd.R_reads' HO314.out).2.1); rintro e w19 ⟨rfl, hb⟩; refine ⟨_, rfl, ?_⟩; have _ := A_ (Kd.R_below z6_18_ hb); have _ := A_ (blk_below (g := gb310) (o := .cells #[.slice A0_0 l0_0.length c0_0] 24 (0, 0)) z6_1_ hb); have _ := A_ (below_step z6_3_ hb); clear HO314 BK310 HB; rename_i HO314 BK310 HB; (try clear hb)) | ((with_reducible refine gate_dst (N := 6) rfl ?_); refine box_event ?hg (N := 6) ?hd (cs := #[.int .i64 0, .int .i64 0]) (t := 71) ?hr ?_; (case hd => rfl); (case hg => rfl); (case hr => first | (go_simp; done) | (go_simp; rfl)); intro gb318 hg w20 hbox hb; have _ := A_ (Kd.R_below z6_18_ hb); have _ := A_ (blk_below (g := gb310) (o := .cells #[.slice A0_0 l0_0.length c0_0] 24 (0, 0)) z6_1_ hb); have _ := A_ (below_step z6_3_ hb); have _ := A_ (hbox); have _ := A_ ((by rw [hg]; exact (below_size z6_3_) : w.heap.size ≤ gb318)); have _ := A_ ((by rw [hg]; exact (below_size z6_3_) : w.heap.size ≤ gb318)); have _ := A_ ((by rw [hg]; exact Nat.ne_of_lt (blk_lt (g := gb310) (o := .cells #[.slice A0_0 l0_0.length c0_0] 24 (0, 0)) z6_1_) : gb310 ≠ gb318)); have _ := A_ ((by rw [hg]; exact Nat.ne_of_gt (blk_lt (g := gb310) (o := .cells #[.slice A0_0 l0_0.length c0_0] 24 (0, 0)) z6_1_) : gb318 ≠ gb310)); clear HO314 BK310 HB; rename_i HO314 BK310 HB BK318 GW318 GE318 NB310_318 NB318_310; clear hb hbox hg; have hnb21 := NB318_310.out; have hnc21 := NB310_318.out; obtain ⟨hcz22_0, hcz22_1⟩ := bc2 BK318.out; obtain ⟨hfz22_0, hfz22_1⟩ := bf2 BK318.out; have hcz23_0 : w20.cell? ⟨gb310, 0, none⟩ = some (.slice A0_0 l0_0.length c0_0) := (blk_cell BK310.out 0).trans rfl; have hfz23_0 := blk_frozen BK310.out 0) | ((with_reducible refine gate_callee (f := 17) rfl ?_); refine goesL_ (some 24) rfl rfl Try.func17 (by kernel_rfl) rfl #[.agg #[.slice A0_0 l0_0.length c0_0]] rfl z6_4_ ?_; (with_reducible refine (laws_toTree.calls k _ _ l0_0 t319 _ ?side1 ?side2 A10.out).mono ?_); (case side1 => exact Kd.C_below HR0_0.out z6_6_); (case side2 => exact HC0_0.out); rintro e w24 ⟨v320, rfl, ho0, hb⟩; refine ⟨_, rfl, ?_⟩; have _ := A_ (Kd.R_elder' z6_17_ (Kd.R_base ho0) hb); have _ := A_ (Kd.R_lower (Kd.R_new' ho0 (Kd.R_lt z6_17_)) (below_size z6_6_)); have _ := A_ (blk_below (g := gb310) (o := .cells #[.slice A0_0 l0_0.length c0_0] 24 (0, 0)) (by (with_reducible repeat (first | refine blk_drewN ?_ _ | refine blk_drew ?_ | refine blk_alloc ?_ _)); refine blk_far ?_ NB310_318.out _; (with_reducible repeat (first | refine blk_drewN ?_ _ | refine blk_drew ?_ | refine blk_alloc ?_ _)); refine blk_far ?_ NB310_318.out _; (with_reducible repeat (first | refine blk_drewN ?_ _ | refine blk_drew ?_ | refine blk_alloc ?_ _)); exact BK310.out) hb); have _ := A_ (blk_below (g := gb318) (o := .cells #[.int .i64 t315, .int .i64 t316] 71 (0, 0)) (by (with_reducible repeat (first | refine blk_drewN ?_ _ | refine blk_drew ?_ | refine blk_alloc ?_ _)); refine blk_put (cs := #[.int .i64 t315, .int .i64 0]) ?_ 1 _ rfl; (with_reducible repeat (first | refine blk_drewN ?_ _ | refine blk_drew ?_ | refine blk_alloc ?_ _)); refine blk_put (cs := #[.int .i64 0, .int .i64 0]) ?_ 0 _ rfl; (with_reducible repeat (first | refine blk_drewN ?_ _ | refine blk_drew ?_ | refine blk_alloc ?_ _)); exact BK318.out) hb); have _ := A_ (below_step z6_6_ hb); clear HO314 BK310 BK318 HB; rename_i HO314 HO321 BK310 BK318 HB; (try clear hb); (try clear ho0)) | ((with_reducible refine gate_dst (N := 8) rfl ?_); refine box_event ?hg (N := 8) ?hd (cs := #[.slice none 0 0]) (t := 34) ?hr ?_; (case hd => rfl); (case hg => rfl); (case hr => first | (go_simp; done) | (go_simp; rfl)); intro gb322 hg w25 hbox hb; have _ := A_ (Kd.R_below z6_18_ hb); have _ := A_ (Kd.R_below z6_22_ hb); have _ := A_ (blk_below (g := gb310) (o := .cells #[.slice A0_0 l0_0.length c0_0] 24 (0, 0)) z6_1_ hb); have _ := A_ (blk_below (g := gb318) (o := .cells #[.int .i64 t315, .int .i64 t316] 71 (0, 0)) z6_5_ hb); have _ := A_ (below_step z6_6_ hb); have _ := A_ (hbox); have _ := A_ ((by rw [hg]; exact (below_size z6_6_) : w.heap.size ≤ gb322)); have _ := A_ ((by rw [hg]; exact (below_size z6_6_) : w.heap.size ≤ gb322)); have _ := A_ ((by rw [hg]; exact Nat.ne_of_lt (blk_lt (g := gb310) (o := .cells #[.slice A0_0 l0_0.length c0_0] 24 (0, 0)) z6_1_) : gb310 ≠ gb322)); have _ := A_ ((by rw [hg]; exact Nat.ne_of_gt (blk_lt (g := gb310) (o := .cells #[.slice A0_0 l0_0.length c0_0] 24 (0, 0)) z6_1_) : gb322 ≠ gb310)); have _ := A_ ((by rw [hg]; exact Nat.ne_of_lt (blk_lt (g := gb318) (o := .cells #[.int .i64 t315, .int .i64 t316] 71 (0, 0)) z6_5_) : gb318 ≠ gb322)); have _ := A_ ((by rw [hg]; exact Nat.ne_of_gt (blk_lt (g := gb318) (o := .cells #[.int .i64 t315, .int .i64 t316] 71 (0, 0)) z6_5_) : gb322 ≠ gb318)); clear HO314 HO321 BK310 BK318 HB; rename_i HO314 HO321 BK310 BK318 HB BK322 GW322 GE322 NB310_322 NB322_310 NB318_322 NB322_318; clear hb hbox hg; obtain ⟨Ao26, co26, eo26⟩ := Kd.R_slice HO321.out; subst eo26; have hnb27 := NB322_310.out; have hnc27 := NB310_322.out; have hnb28 := NB322_318.out; have hnc28 := NB318_322.out; have hcz29_0 : w25.cell? ⟨gb322, 0, none⟩ = some (.slice none 0 0) := (blk_cell BK322.out 0).trans rfl; have hfz29_0 := blk_frozen BK322.out 0) | ((with_reducible refine gate_callee (f := 52) rfl ?_); refine goesL_ (some 28) rfl rfl Try.func52 (by kernel_rfl) rfl #[.agg #[.slice Ao26 t319.length co26], .int .i64 a1] rfl z6_4_ ?_; (with_reducible refine (impl_MeanOf.calls k _ _ t319 a1 t323 t324 t325 _ ?side1 ?side2 A11.out).mono ?_); (case side1 => refine (Kd.R_reads' (e := 89) (base := w.heap.size) (ok := fun k_ => (True ∧ some k_ ≠ (.slice Ao18 t312.length co18 : Value).ownBlock)) (n := t319.length) (c := co26) ?_).2.2; exact z6_19_); (case side2 => exact (Kd.R_reads' HO321.out).2.1); rintro e w30 ⟨rfl, hb⟩; refine ⟨_, rfl, ?_⟩; have _ := A_ (Kd.R_below (by (with_reducible repeat (first | apply Kd.R_alloc | apply Kd.R_drewN | apply Kd.R_drew)); exact (Kd.R_mono (Kd.R_far (p := ⟨gb322, 0, none⟩) (Kd.R_types HO314.out BK322.out (by decide)) (fun _ hk => hk.2) (.slice Ao26 t319.length co26)) (fun _ h_ => h_.1))) hb); have _ := A_ (Kd.R_below z6_19_ hb); have _ := A_ (blk_below (g := gb310) (o := .cells #[.slice A0_0 l0_0.length c0_0] 24 (0, 0)) (by (with_reducible repeat (first | refine blk_drewN ?_ _ | refine blk_drew ?_ | refine blk_alloc ?_ _)); refine blk_far ?_ NB310_322.out _; (with_reducible repeat (first | refine blk_drewN ?_ _ | refine blk_drew ?_ | refine blk_alloc ?_ _)); exact BK310.out) hb); have _ := A_ (blk_below (g := gb318) (o := .cells #[.int .i64 t315, .int .i64 t316] 71 (0, 0)) (by (with_reducible repeat (first | refine blk_drewN ?_ _ | refine blk_drew ?_ | refine blk_alloc ?_ _)); refine blk_far ?_ NB318_322.out _; (with_reducible repeat (first | refine blk_drewN ?_ _ | refine blk_drew ?_ | refine blk_alloc ?_ _)); exact BK318.out) hb); have _ := A_ (blk_below (g := gb322) (o := .cells #[.slice Ao26 t319.length co26] 34 (0, 0)) (by (with_reducible repeat (first | refine blk_drewN ?_ _ | refine blk_drew ?_ | refine blk_alloc ?_ _)); refine blk_put (cs := #[.slice none 0 0]) ?_ 0 _ rfl; (with_reducible repeat (first | refine blk_drewN ?_ _ | refine blk_drew ?_ | refine blk_alloc ?_ _)); exact BK322.out) hb); have _ := A_ (below_step z6_8_ hb); clear HO314 HO321 BK310 BK318 BK322 HB; rename_i HO314 HO321 BK310 BK318 BK322 HB; (try clear hb)) | ((with_reducible refine gate_dst (N := 9) rfl ?_); refine box_event ?hg (N := 9) ?hd (cs := #[.int .i64 0, .int .i64 0]) (t := 71) ?hr ?_; (case hd => rfl); (case hg => rfl); (case hr => first | (go_simp; done) | (go_simp; rfl)); intro gb326 hg w31 hbox hb; have _ := A_ (Kd.R_below z6_18_ hb); have _ := A_ (Kd.R_below z6_22_ hb); have _ := A_ (blk_below (g := gb310) (o := .cells #[.slice A0_0 l0_0.length c0_0] 24 (0, 0)) z6_1_ hb); have _ := A_ (blk_below (g := gb318) (o := .cells #[.int .i64 t315, .int .i64 t316] 71 (0, 0)) z6_5_ hb); have _ := A_ (blk_below (g := gb322) (o := .cells #[.slice Ao26 t319.length co26] 34 (0, 0)) z6_7_ hb); have _ := A_ (below_step z6_8_ hb); have _ := A_ (hbox); have _ := A_ ((by rw [hg]; exact (below_size z6_8_) : w.heap.size ≤ gb326)); have _ := A_ ((by rw [hg]; exact (below_size z6_8_) : w.heap.size ≤ gb326)); have _ := A_ ((by rw [hg]; exact Nat.ne_of_lt (blk_lt (g := gb310) (o := .cells #[.slice A0_0 l0_0.length c0_0] 24 (0, 0)) z6_1_) : gb310 ≠ gb326)); have _ := A_ ((by rw [hg]; exact Nat.ne_of_gt (blk_lt (g := gb310) (o := .cells #[.slice A0_0 l0_0.length c0_0] 24 (0, 0)) z6_1_) : gb326 ≠ gb310)); have _ := A_ ((by rw [hg]; exact Nat.ne_of_lt (blk_lt (g := gb318) (o := .cells #[.int .i64 t315, .int .i64 t316] 71 (0, 0)) z6_5_) : gb318 ≠ gb326)); have _ := A_ ((by rw [hg]; exact Nat.ne_of_gt (blk_lt (g := gb318) (o := .cells #[.int .i64 t315, .int .i64 t316] 71 (0, 0)) z6_5_) : gb326 ≠ gb318)); have _ := A_ ((by rw [hg]; exact Nat.ne_of_lt (blk_lt (g := gb322) (o := .cells #[.slice Ao26 t319.length co26] 34 (0, 0)) z6_7_) : gb322 ≠ gb326)); have _ := A_ ((by rw [hg]; exact Nat.ne_of_gt (blk_lt (g := gb322) (o := .cells #[.slice Ao26 t319.length co26] 34 (0, 0)) z6_7_) : gb326 ≠ gb322)); clear HO314 HO321 BK310 BK318 BK322 HB; rename_i HO314 HO321 BK310 BK318 BK322 HB BK326 GW326 GE326 NB310_326 NB326_310 NB318_326 NB326_318 NB322_326 NB326_322; clear hb hbox hg; have hnb32 := NB326_310.out; have hnc32 := NB310_326.out; have hnb33 := NB326_318.out; have hnc33 := NB318_326.out; have hnb34 := NB326_322.out; have hnc34 := NB322_326.out; obtain ⟨hcz35_0, hcz35_1⟩ := bc2 BK326.out; obtain ⟨hfz35_0, hfz35_1⟩ := bf2 BK326.out))
  (try simp only [Act.put, sA_, sB_, sC_])
  go_cut [39] (fun v39 wc => ∃ (kq : Nat) (x39_11 : Bool), v39 = .bool x39_11 ∧ Aside0 (laws_FnExactMeanOf.j0 kq x39_11 l0_0 t319 = some true) ∧ Aside0 (kq ≤ k) ∧ Aside0 (Kd.R k89 89 wc w.heap.size (fun _ => True) (.slice Ao26 t319.length co26) t319) ∧ Aside0 (wc.heap[gb310]? = some (.cells #[(.slice A0_0 l0_0.length c0_0)] 24 (0, 0))) ∧ Aside0 (wc.heap[gb318]? = some (.cells #[.int .i64 t315, .int .i64 t316] 71 (0, 0))) ∧ Aside0 (wc.heap[gb322]? = some (.cells #[(.slice Ao26 t319.length co26)] 34 (0, 0))) ∧ Aside0 (wc.heap[gb326]? = some (.cells #[.int .i64 t323, .int .i64 t324] 71 (0, 0))) ∧ Aside0 (Below w.heap.size w wc))
  case first =>
   have H := HC12.out
   clear HC12
   replace H := Option.bind_eq_some_iff.mp H
   obtain ⟨t327, A360, H⟩ := H
   try dsimp only at H
   have A36 := A_ A360
   clear A360
   by_cases c37 : t327 = true
   ·
    subst c37
    have H1 : (laws_FnExactMeanOf.j0 k (t325 != t317) l0_0 t319) = some true := by first | (rw [if_pos rfl] at H; exact H) | rfl
    clear H
    have H := H1
    clear H1
    have H' := A_ H
    clear H
    have hnb38 := NB326_310.out
    have hnc38 := NB310_326.out
    have hnb39 := NB326_318.out
    have hnc39 := NB318_326.out
    have hnb40 := NB326_322.out
    have hnc40 := NB322_326.out
    obtain ⟨hcz41_0, hcz41_1⟩ := bc2 BK326.out
    obtain ⟨hfz41_0, hfz41_1⟩ := bf2 BK326.out
    have hnb42 := NB318_310.out
    have hnc42 := NB310_318.out
    have hnb43 := NB318_322.out
    have hnc43 := NB322_318.out
    obtain ⟨hcz44_0, hcz44_1⟩ := bc2 BK318.out
    obtain ⟨hfz44_0, hfz44_1⟩ := bf2 BK318.out
    go_wp2_with (first | ((with_reducible refine gate_callee (f := 53) rfl ?_); refine goesL_ (some 33) rfl rfl Try.func53 (by kernel_rfl) rfl #[.agg #[.int .i64 t323, .int .i64 t324], .agg #[.int .i64 t315, .int .i64 t316]] rfl z6_4_ ?_; (with_reducible refine (laws_eqRatio.calls t323 t324 t315 t316 true _ A36.out).mono ?_); rintro e w45 ⟨rfl, hb⟩; refine ⟨_, rfl, ?_⟩; have _ := A_ (Kd.R_below z6_16_ hb); have _ := A_ (Kd.R_below z6_15_ hb); have _ := A_ (blk_below (g := gb310) (o := .cells #[.slice A0_0 l0_0.length c0_0] 24 (0, 0)) z6_13_ hb); have _ := A_ (blk_below (g := gb318) (o := .cells #[.int .i64 t315, .int .i64 t316] 71 (0, 0)) z6_12_ hb); have _ := A_ (blk_below (g := gb322) (o := .cells #[.slice Ao26 t319.length co26] 34 (0, 0)) z6_11_ hb); have _ := A_ (blk_below (g := gb326) (o := .cells #[.int .i64 t323, .int .i64 t324] 71 (0, 0)) z6_10_ hb); have _ := A_ (below_step z6_2_ hb); clear HO314 HO321 BK310 BK318 BK322 BK326 HB; rename_i HO314 HO321 BK310 BK318 BK322 BK326 HB; (try clear hb)))
    go_meet
    case rel => exact ⟨_, ((t325 != t317)), (by first | rfl | (simp; done) | (simp [*]; done) | (simp [isE_]; done)), H', ⟨(by first | omega | exact Nat.le_refl _)⟩, ⟨z6_21_⟩, ⟨z6_1_⟩, ⟨z6_5_⟩, ⟨z6_7_⟩, ⟨z6_14_⟩, ⟨z6_2_⟩⟩
   ·
    replace c37 := Bool.eq_false_iff.mpr c37
    subst c37
    have H1 : (laws_FnExactMeanOf.j0 k true l0_0 t319) = some true := by first | (rw [if_neg (show ¬ (false = true) by decide)] at H; exact H) | rfl
    clear H
    have H := H1
    clear H1
    have H' := A_ H
    clear H
    have hnb46 := NB326_310.out
    have hnc46 := NB310_326.out
    have hnb47 := NB326_318.out
    have hnc47 := NB318_326.out
    have hnb48 := NB326_322.out
    have hnc48 := NB322_326.out
    obtain ⟨hcz49_0, hcz49_1⟩ := bc2 BK326.out
    obtain ⟨hfz49_0, hfz49_1⟩ := bf2 BK326.out
    have hnb50 := NB318_310.out
    have hnc50 := NB310_318.out
    have hnb51 := NB318_322.out
    have hnc51 := NB322_318.out
    obtain ⟨hcz52_0, hcz52_1⟩ := bc2 BK318.out
    obtain ⟨hfz52_0, hfz52_1⟩ := bf2 BK318.out
    go_wp2_with (first | ((with_reducible refine gate_callee (f := 53) rfl ?_); refine goesL_ (some 33) rfl rfl Try.func53 (by kernel_rfl) rfl #[.agg #[.int .i64 t323, .int .i64 t324], .agg #[.int .i64 t315, .int .i64 t316]] rfl z6_4_ ?_; (with_reducible refine (laws_eqRatio.calls t323 t324 t315 t316 false _ A36.out).mono ?_); rintro e w53 ⟨rfl, hb⟩; refine ⟨_, rfl, ?_⟩; have _ := A_ (Kd.R_below z6_16_ hb); have _ := A_ (Kd.R_below z6_15_ hb); have _ := A_ (blk_below (g := gb310) (o := .cells #[.slice A0_0 l0_0.length c0_0] 24 (0, 0)) z6_13_ hb); have _ := A_ (blk_below (g := gb318) (o := .cells #[.int .i64 t315, .int .i64 t316] 71 (0, 0)) z6_12_ hb); have _ := A_ (blk_below (g := gb322) (o := .cells #[.slice Ao26 t319.length co26] 34 (0, 0)) z6_11_ hb); have _ := A_ (blk_below (g := gb326) (o := .cells #[.int .i64 t323, .int .i64 t324] 71 (0, 0)) z6_10_ hb); have _ := A_ (below_step z6_2_ hb); clear HO314 HO321 BK310 BK318 BK322 BK326 HB; rename_i HO314 HO321 BK310 BK318 BK322 BK326 HB; (try clear hb)))
    go_meet
    case rel => exact ⟨_, (true), (by first | rfl | (simp; done) | (simp [*]; done) | (simp [isE_]; done)), H', ⟨(by first | omega | exact Nat.le_refl _)⟩, ⟨z6_21_⟩, ⟨z6_1_⟩, ⟨z6_5_⟩, ⟨z6_7_⟩, ⟨z6_14_⟩, ⟨z6_2_⟩⟩
  case rest =>
   clear HC12
   try clear c1
   try clear c2
   try clear p2
   try clear c3
   try clear c4
   try clear c4b0
   try clear c5
   try clear c13
   try clear c14
   try clear c17
   try clear c21
   try clear c27
   try clear c28
   try clear c32
   try clear c33
   try clear c34
   try clear c37
   try clear c38
   try clear c39
   try clear c40
   try clear c42
   try clear c43
   try clear c46
   try clear c47
   try clear c48
   try clear c50
   try clear c51
   try clear c52
   try clear c53
   try clear hcz14_0
   try clear hcz16_0
   try clear hcz22_0
   try clear hcz22_1
   try clear hcz23_0
   try clear hcz29_0
   try clear hcz35_0
   try clear hcz35_1
   try clear hcz41_0
   try clear hcz41_1
   try clear hcz44_0
   try clear hcz44_1
   try clear hcz49_0
   try clear hcz49_1
   try clear hcz52_0
   try clear hcz52_1
   try clear hcz6_0
   try clear hfz14_0
   try clear hfz16_0
   try clear hfz22_0
   try clear hfz22_1
   try clear hfz23_0
   try clear hfz29_0
   try clear hfz35_0
   try clear hfz35_1
   try clear hfz41_0
   try clear hfz41_1
   try clear hfz44_0
   try clear hfz44_1
   try clear hfz49_0
   try clear hfz49_1
   try clear hfz52_0
   try clear hfz52_1
   try clear hfz6_0
   obtain ⟨kq, x39_11, rfl, HA, HJ11, HO_323000, BK310, BK318, BK322, BK326, HB⟩ := hcut
   cases kq with
   | zero => exact absurd HA.out (by simp [laws_FnExactMeanOf.j0])
   | succ kj11 =>
    have H := HA.out
    clear HA
    simp only [laws_FnExactMeanOf.j0] at H
    by_cases c54 : x39_11 = true
    ·
     subst c54
     have H1 : (some false) = some true := by first | (rw [if_pos rfl] at H; exact H) | rfl
     clear H
     have H := H1
     clear H1
     exact absurd H (by decide)
    ·
     replace c54 := Bool.eq_false_iff.mpr c54
     subst c54
     have H1 : ((laws_toTree.f kj11 l0_0).bind fun t328 => ((laws_eqTree.f kj11 t319 t328).bind fun t331 => (if t331 = true then (some true) else (some false)))) = some true := by first | (rw [if_neg (show ¬ (false = true) by decide)] at H; exact H) | rfl
     clear H
     have H := H1
     clear H1
     replace H := Option.bind_eq_some_iff.mp H
     obtain ⟨t328, A550, H⟩ := H
     try dsimp only at H
     have A55 := A_ A550
     clear A550
     replace H := Option.bind_eq_some_iff.mp H
     obtain ⟨t331, A560, H⟩ := H
     try dsimp only at H
     have A56 := A_ A560
     clear A560
     by_cases c57 : t331 = true
     ·
      subst c57
      have H1 : (some true) = some true := by first | (rw [if_pos rfl] at H; exact H) | rfl
      clear H
      have H := H1
      clear H1
      clear H
      try go_wp2
      have _ := A_ (Kd.R_drew HO_323000.out)
      have _ := A_ (blk_drew BK310.out)
      have _ := A_ (blk_drew BK318.out)
      have _ := A_ (blk_drew BK322.out)
      have _ := A_ (blk_drew BK326.out)
      have _ := A_ (below_drew1 HB.out)
      clear HO_323000 BK310 BK318 BK322 BK326 HB
      rename_i HO_323000 BK310 BK318 BK322 BK326 HB
      refine start_ (n := 5) (S := fun w' => w'.cell? ⟨gb322, 0, none⟩ = some (.slice Ao26 t319.length co26) ∧ w'.cell? ⟨gb310, 0, none⟩ = some (.slice A0_0 l0_0.length c0_0)) (ds := []) #[false, false, false, false, false] (by kernel_rfl) rfl rfl ⟨(blk_cell BK322.out 0).trans rfl, (blk_cell BK310.out 0).trans rfl⟩ (fun hHeld => ?_)
      generalize wc.drew = w58 at HO_323000 BK310 BK318 BK322 BK326 HB hHeld ⊢
      refine take_ (i := 0) (N := some 40) (v := ?_) (a' := ?_) #[true, false, false, false, false] rfl rfl (by kernel_rfl) (fun _ _ _ h => h) (Or.inl ⟨by rfl, ?_⟩) hHeld ?_ ?_
      rotate_left
      ·
       rintro w' ⟨s0, s1⟩
       go_simp
       with_reducible rfl
      rotate_left
      ·
       simp only [Act.put, sA_, sB_, sC_, i64_w, i32_w]
       rfl
      refine take_ (i := 1) (N := some 41) (v := ?_) (a' := ?_) #[true, true, false, false, false] rfl rfl (by kernel_rfl) (fun _ _ _ h => h) (Or.inl ⟨by rfl, ?_⟩) hHeld ?_ ?_
      rotate_left
      ·
       rintro w' ⟨s0, s1⟩
       go_simp
       with_reducible rfl
      rotate_left
      ·
       simp only [Act.put, sA_, sB_, sC_, i64_w, i32_w]
       rfl
      refine one_ (i := 2) (N := some 42) #[true, true, true, false, false] rfl rfl (by kernel_rfl) (by decide) (fun K hK => ?_)
      refine goes_ Try.func17 (by kernel_rfl) rfl #[.agg #[.slice A0_0 l0_0.length c0_0]] (by rfl) rfl rfl z6_4_ ?_
      with_reducible refine (laws_toTree.calls kj11 _ _ l0_0 t328 _ ?side1 ?side2 A55.out).mono ?_
      (case side1 => have hx_ := (Kd.C_below HR0_0.out HB.out); exact kc_)
      (case side2 => exact HC0_0.out)
      rintro e w59 ⟨v329, rfl, ho0, hb⟩
      refine ⟨_, rfl, ?_⟩
      have _ := A_ (Kd.R_elder' z6_20_ (Kd.R_base ho0) hb)
      have _ := A_ (Kd.R_lower (Kd.R_new' ho0 (Kd.R_lt z6_20_)) (below_size z6_2_))
      have _ := A_ (blk_below (g := gb310) (o := .cells #[.slice A0_0 l0_0.length c0_0] 24 (0, 0)) z6_1_ hb)
      have _ := A_ (blk_below (g := gb318) (o := .cells #[.int .i64 t315, .int .i64 t316] 71 (0, 0)) z6_5_ hb)
      have _ := A_ (blk_below (g := gb322) (o := .cells #[.slice Ao26 t319.length co26] 34 (0, 0)) z6_7_ hb)
      have _ := A_ (blk_below (g := gb326) (o := .cells #[.int .i64 t323, .int .i64 t324] 71 (0, 0)) z6_14_ hb)
      have _ := A_ (below_step z6_2_ hb)
      clear HO_323000 BK310 BK318 BK322 BK326 HB
      rename_i HO_323000 HO330 BK310 BK318 BK322 BK326 HB
      (try clear hb)
      (try clear hb2)
      (try clear hk)
      (try clear hi)
      (try clear ho0)
      obtain ⟨Ao60, co60, eo60⟩ := Kd.R_slice HO330.out
      (first | subst eo60 | (injection eo60 with f1_ f2_ f3_; have f4_ := f1_.symm; have f5_ := f3_.symm; clear f1_ f2_ f3_; subst f4_; subst f5_))
      refine hK.out _ _ ⟨(blk_cell BK322.out 0).trans rfl, (blk_cell BK310.out 0).trans rfl⟩ (fun hHeld => ?_)
      clear hK K
      refine norm_ (a' := ?_) ?_ ?_
      rotate_left
      ·
       show Act.put _ (some 42) _ = _
       simp only [Act.put, sA_, sB_, sC_, i64_w, i32_w]
       rfl
      refine one_ (i := 3) (N := some 43) #[true, true, true, true, false] rfl rfl (by kernel_rfl) (by decide) (fun K hK => ?_)
      refine goes_ Try.func21 (by kernel_rfl) rfl #[.agg #[.slice Ao26 t319.length co26], .agg #[.slice Ao60 t328.length co60]] (by rfl) rfl rfl z6_4_ ?_
      with_reducible refine (laws_eqTree.calls kj11 _ _ t319 _ _ t328 true _ ?side1 ?side2 ?side3 ?side4 A56.out).mono ?_
      (case side1 => have hx_ := (Kd.R_reads' HO_323000.out).2.2; exact kc_)
      (case side2 => exact (Kd.R_reads' HO_323000.out).2.1)
      (case side3 => have hx_ := (Kd.R_reads' HO330.out).2.2; exact kc_)
      (case side4 => exact (Kd.R_reads' HO330.out).2.1)
      rintro e w61 ⟨rfl, hb⟩
      refine ⟨_, rfl, ?_⟩
      have _ := A_ (Kd.R_below z6_20_ hb)
      have _ := A_ (Kd.R_below (by (with_reducible repeat (first | apply Kd.R_alloc | apply Kd.R_drewN | apply Kd.R_drew)); exact HO330.out) hb)
      have _ := A_ (blk_below (g := gb310) (o := .cells #[.slice A0_0 l0_0.length c0_0] 24 (0, 0)) z6_1_ hb)
      have _ := A_ (blk_below (g := gb318) (o := .cells #[.int .i64 t315, .int .i64 t316] 71 (0, 0)) z6_5_ hb)
      have _ := A_ (blk_below (g := gb322) (o := .cells #[.slice Ao26 t319.length co26] 34 (0, 0)) z6_7_ hb)
      have _ := A_ (blk_below (g := gb326) (o := .cells #[.int .i64 t323, .int .i64 t324] 71 (0, 0)) z6_14_ hb)
      have _ := A_ (below_step z6_2_ hb)
      clear HO_323000 HO330 BK310 BK318 BK322 BK326 HB
      rename_i HO_323000 HO330 BK310 BK318 BK322 BK326 HB
      (try clear hb)
      (try clear hb2)
      (try clear hk)
      (try clear hi)
      refine hK.out _ _ ⟨(blk_cell BK322.out 0).trans rfl, (blk_cell BK310.out 0).trans rfl⟩ (fun hHeld => ?_)
      clear hK K
      refine norm_ (a' := ?_) ?_ ?_
      rotate_left
      ·
       show Act.put _ (some 43) _ = _
       simp only [Act.put, sA_, sB_, sC_, i64_w, i32_w]
       rfl
      refine pure_ (i := 4) (N := some 44) (v := ?_) (a' := ?_) #[true, true, true, true, true] rfl rfl (by kernel_rfl) (fun _ _ _ h => h) (Or.inl ⟨by rfl, ?_⟩) ?_ ?_
      rotate_left
      ·
       intro w'
       go_simp
       with_reducible rfl
      rotate_left
      ·
       simp only [Act.put, sA_, sB_, sC_, i64_w, i32_w]
       rfl
      refine done_ (by kernel_rfl) ?_
      try go_wp2
      go_ret
      exact ⟨z6_23_, z6_2_⟩
     ·
      replace c57 := Bool.eq_false_iff.mpr c57
      subst c57
      have H1 : (some false) = some true := by first | (rw [if_neg (show ¬ (false = true) by decide)] at H; exact H) | rfl
      clear H
      have H := H1
      clear H1
      exact absurd H (by decide)
end Go.Proofs.Ytpfnohdnaocpdaa.PT

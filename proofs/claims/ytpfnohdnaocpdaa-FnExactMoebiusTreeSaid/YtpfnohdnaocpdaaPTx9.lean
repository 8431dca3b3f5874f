import Derived.Test.YtpfnohdnaocpdaaPTx0
import Derived.Test.YtpfnohdnaocpdaaPTmoebius
import Derived.Test.YtpfnohdnaocpdaaPTx1
import Derived.Test.YtpfnohdnaocpdaaPTx7
namespace Go.Proofs.Ytpfnohdnaocpdaa.PT
open Go.RowKit Go.Proofs.YtpfnohdnaocpdaaW.PrintWords Go.Proofs.YtpfnohdnaocpdaaW.PrintLast Go.Proofs.YtpfnohdnaocpdaaW.PrintMore Go.Proofs.YtpfnohdnaocpdaaRP
attribute [local go_sem] max2_int min2_int max_two min_two max_three min_three max_four min_four Go.Proofs.YtpfnohdnaocpdaaRP.max_eight Go.Proofs.YtpfnohdnaocpdaaRP.tmod_len   -- for this text's walks alone
set_option linter.unusedVariables false
set_option linter.unusedSimpArgs false
theorem z9_1_ {P : Prop} (h : P := by (with_reducible repeat (first | refine blk_drewN ?_ _ | refine blk_drew ?_ | refine blk_alloc ?_ _)); exact BK302.out) : P := h
theorem z9_2_ {P : Prop} (h : P := by repeat (first | (with_reducible first | exact HB.out | apply below_alloc | apply pw_below_drewN | apply below_drew1 | refine below_set ?_ GE302.out | refine below_set ?_ GE311.out | refine below_set ?_ GE320.out) | exact HB.out)) : P := h
theorem z9_3_ {P : Prop} (h : P := by (with_reducible repeat (first | refine blk_drewN ?_ _ | refine blk_drew ?_ | refine blk_alloc ?_ _)); exact BK311.out) : P := h
theorem z9_4_ {P : Prop} (h : P := by (try simp only [List.map_toArray, List.map_cons, List.map_nil]); first | done | rfl | (simp only [List.length_drop, List.length_take]; rfl)) : P := h
theorem z9_5_ {P : Prop} (h : P := by repeat (first | (with_reducible first | exact HB.out | apply below_alloc | apply pw_below_drewN | apply below_drew1 | refine below_set ?_ GE302.out | refine below_set ?_ GE311.out | refine below_set ?_ GE320.out | refine below_set ?_ GE333.out) | exact HB.out)) : P := h
theorem z9_6_ {P : Prop} (h : P := by (with_reducible repeat (first | refine blk_drewN ?_ _ | refine blk_drew ?_ | refine blk_alloc ?_ _)); exact BK320.out) : P := h
theorem z9_7_ {P : Prop} (h : P := by repeat (first | (with_reducible first | exact HB.out | apply below_alloc | apply pw_below_drewN | apply below_drew1 | refine below_set ?_ GE302.out | refine below_set ?_ GE311.out) | exact HB.out)) : P := h
theorem z9_8_ {P : Prop} (h : P := by repeat (first | (with_reducible first | exact HB.out | apply below_alloc | apply pw_below_drewN | apply below_drew1 | refine below_set ?_ GE302.out) | exact HB.out)) : P := h
theorem z9_9_ {P : Prop} (h : P := by (with_reducible repeat (first | apply Kd.R_alloc | apply Kd.R_drewN | apply Kd.R_drew)); exact (Kd.R_mono (Kd.R_far (p := ⟨gb333, 0, none⟩) (Kd.R_types HO_312000.out BK333.out (by decide)) (fun _ hk => hk.2) (.slice Ao56 t329.length co56)) (fun _ h_ => h_.1))) : P := h
theorem z9_10_ {P : Prop} (h : P := by (with_reducible repeat (first | apply Kd.R_alloc | apply Kd.R_drewN | apply Kd.R_drew)); exact (Kd.R_mono (Kd.R_far (p := ⟨gb333, 0, none⟩) (Kd.R_types HO331.out BK333.out (by decide)) (fun _ hk => hk.2) (.slice Ao56 t329.length co56)) (fun _ h_ => h_.1))) : P := h
theorem z9_11_ {P : Prop} (h : P := by (with_reducible repeat (first | apply Kd.R_alloc | apply Kd.R_drewN | apply Kd.R_drew)); exact (Kd.R_mono (Kd.R_far (p := ⟨gb320, 0, none⟩) (Kd.R_types HO318.out BK320.out (by decide)) (fun _ hk => hk.2) (.slice Ao19 t316.length co19)) (fun _ h_ => h_.1))) : P := h
theorem z9_12_ {P : Prop} (h : P := by (with_reducible repeat (first | apply Kd.R_alloc | apply Kd.R_drewN | apply Kd.R_drew)); exact (Kd.R_mono (Kd.R_far (p := ⟨gb320, 0, none⟩) (Kd.R_types HO309.out BK320.out (by decide)) (fun _ hk => hk.2) (.slice Ao19 t316.length co19)) (fun _ h_ => h_.1))) : P := h
theorem z9_13_ {P : Prop} (h : P := by (with_reducible repeat (first | apply Kd.R_alloc | apply Kd.R_drewN | apply Kd.R_drew)); exact HO_321000.out) : P := h
theorem z9_14_ {P : Prop} (h : P := by (with_reducible repeat (first | apply Kd.R_alloc | apply Kd.R_drewN | apply Kd.R_drew)); exact HO_312000.out) : P := h
theorem z9_15_ {P : Prop} (h : P := by (with_reducible repeat (first | apply Kd.R_alloc | apply Kd.R_drewN | apply Kd.R_drew)); exact HO309.out) : P := h
theorem z9_16_ {P : Prop} (h : P := by (with_reducible repeat (first | refine blk_drewN ?_ _ | refine blk_drew ?_ | refine blk_alloc ?_ _)); refine blk_put (cs := #[.slice none 0 0]) ?_ 0 _ rfl; (with_reducible repeat (first | refine blk_drewN ?_ _ | refine blk_drew ?_ | refine blk_alloc ?_ _)); exact BK333.out) : P := h
theorem z9_17_ {P : Prop} (h : P := by (with_reducible repeat (first | refine blk_drewN ?_ _ | refine blk_drew ?_ | refine blk_alloc ?_ _)); refine blk_put (cs := #[.slice none 0 0]) ?_ 0 _ rfl; (with_reducible repeat (first | refine blk_drewN ?_ _ | refine blk_drew ?_ | refine blk_alloc ?_ _)); exact BK320.out) : P := h
theorem z9_18_ {P : Prop} (h : P := by repeat (first | (with_reducible first | exact HB.out | apply below_alloc | apply pw_below_drewN | apply below_drew1) | exact HB.out)) : P := h
theorem z9_19_ {P : Prop} (h : P := by (with_reducible repeat (first | apply Kd.R_alloc | apply Kd.R_drewN | apply Kd.R_drew)); exact (Kd.R_mono (Kd.R_far (p := ⟨gb333, 0, none⟩) (Kd.R_types HO_321000.out BK333.out (by decide)) (fun _ hk => hk.2) (.slice Ao56 t329.length co56)) (fun _ h_ => h_.1))) : P := h
theorem z9_20_ {P : Prop} (h : P := by (with_reducible repeat (first | refine blk_drewN ?_ _ | refine blk_drew ?_ | refine blk_alloc ?_ _)); refine blk_far ?_ NB320_333.out _; (with_reducible repeat (first | refine blk_drewN ?_ _ | refine blk_drew ?_ | refine blk_alloc ?_ _)); exact BK320.out) : P := h
theorem z9_21_ {P : Prop} (h : P := by (with_reducible repeat (first | refine blk_drewN ?_ _ | refine blk_drew ?_ | refine blk_alloc ?_ _)); refine blk_far ?_ NB311_333.out _; (with_reducible repeat (first | refine blk_drewN ?_ _ | refine blk_drew ?_ | refine blk_alloc ?_ _)); exact BK311.out) : P := h
theorem z9_22_ {P : Prop} (h : P := by (with_reducible repeat (first | refine blk_drewN ?_ _ | refine blk_drew ?_ | refine blk_alloc ?_ _)); refine blk_far ?_ NB311_320.out _; (with_reducible repeat (first | refine blk_drewN ?_ _ | refine blk_drew ?_ | refine blk_alloc ?_ _)); exact BK311.out) : P := h
theorem z9_23_ {P : Prop} (h : P := by (with_reducible repeat (first | refine blk_drewN ?_ _ | refine blk_drew ?_ | refine blk_alloc ?_ _)); refine blk_far ?_ NB302_333.out _; (with_reducible repeat (first | refine blk_drewN ?_ _ | refine blk_drew ?_ | refine blk_alloc ?_ _)); exact BK302.out) : P := h
theorem z9_24_ {P : Prop} (h : P := by (with_reducible repeat (first | refine blk_drewN ?_ _ | refine blk_drew ?_ | refine blk_alloc ?_ _)); refine blk_far ?_ NB302_320.out _; (with_reducible repeat (first | refine blk_drewN ?_ _ | refine blk_drew ?_ | refine blk_alloc ?_ _)); exact BK302.out) : P := h
theorem z9_25_ {P : Prop} (h : P := by (with_reducible repeat (first | refine blk_drewN ?_ _ | refine blk_drew ?_ | refine blk_alloc ?_ _)); exact BK333.out) : P := h
theorem z9_26_ {P : Prop} (h : P := by first | rfl | (simp; done) | (simp [*]; done) | (simp [isE_]; done)) : P := h
theorem z9_27_ {P : Prop} (h : P := by (with_reducible repeat (first | apply Kd.R_alloc | apply Kd.R_drewN | apply Kd.R_drew)); exact Kd.R_mono HO331.out (fun _ hk => ⟨hk.1.2, hk.2⟩)) : P := h
theorem z9_28_ {P : Prop} (h : P := by (with_reducible repeat (first | apply Kd.R_alloc | apply Kd.R_drewN | apply Kd.R_drew)); exact Kd.R_mono HO318.out (fun _ hk => hk.2)) : P := h
theorem z9_29_ {P : Prop} (h : P := by (with_reducible repeat (first | apply Kd.R_alloc | apply Kd.R_drewN | apply Kd.R_drew)); exact Kd.R_mono HO309.out (fun _ hk => hk.2)) : P := h
/-! ### laws_FnExactMoebiusTree: function 10 -/
mutual
def laws_FnExactMoebiusTree.j0 : Nat → Int → Bool → Int → Int → Int → Int → List (S89) → List (S89) → Option (Bool)
 | 0, _, _, _, _, _, _, _, _ => none
 | k + 1, x4, x31, x303000, x303001, x303002, x303003, x312000, x321000 => if x31 = true then (some false) else ((laws_markTree.f k x321000 1).bind fun bt322 => ((laws_heldTree.f k bt322.2 1).bind fun t324 => (if t324 < 0 then (some false) else (if t324 = bt322.1 then ((laws_toMoebius.f x303000 x303001 x303002 x303003).bind fun bt325 => ((impl_MoebiusTree.f k bt325.1 bt325.2.1 bt325.2.2.1 bt325.2.2.2).bind fun bt329 => ((laws_eqTree.f k bt329.1 x312000).bind fun t334 => (if t334 = true then (laws_FnExactMoebiusTree.j1 k bt322.1 (bt329.2 != x4) bt322.2) else (laws_FnExactMoebiusTree.j1 k bt322.1 true bt322.2))))) else (some false)))))
def laws_FnExactMoebiusTree.j1 : Nat → Int → Bool → List (S89) → Option (Bool)
 | 0, _, _, _ => none
 | k + 1, x7, x57, x321000 => if x57 = true then (some false) else ((laws_heldTree.f k x321000 1).bind fun t335 => (if t335 < 0 then (some false) else (if t335 = x7 then (some true) else (some false))))
end
def laws_FnExactMoebiusTree.f (k : Nat) (a0_0 : Int) (a0_1 : Int) (a0_2 : Int) (a0_3 : Int) : Option (Bool) := (laws_toMoebius.f a0_0 a0_1 a0_2 a0_3).bind fun bt303 => ((spec_MoebiusTree.f k bt303.1 bt303.2.1 bt303.2.2.1 bt303.2.2.2).bind fun bt307 => ((laws_toMoebius.f a0_0 a0_1 a0_2 a0_3).bind fun bt312 => ((impl_MoebiusTree.f k bt312.1 bt312.2.1 bt312.2.2.1 bt312.2.2.2).bind fun bt316 => ((laws_eqTree.f k bt316.1 bt307.1).bind fun t321 => (if t321 = true then (laws_FnExactMoebiusTree.j0 k bt307.2 (bt316.2 != bt307.2) a0_0 a0_1 a0_2 a0_3 bt307.1 bt316.1) else (laws_FnExactMoebiusTree.j0 k bt307.2 true a0_0 a0_1 a0_2 a0_3 bt307.1 bt316.1))))))
theorem laws_FnExactMoebiusTree.mono_l : ∀ k, (∀ y0 y1 y2 y3 y4 y5 y6 y7, LeO (laws_FnExactMoebiusTree.j0 k y0 y1 y2 y3 y4 y5 y6 y7) (laws_FnExactMoebiusTree.j0 (k + 1) y0 y1 y2 y3 y4 y5 y6 y7)) ∧ (∀ y0 y1 y2, LeO (laws_FnExactMoebiusTree.j1 k y0 y1 y2) (laws_FnExactMoebiusTree.j1 (k + 1) y0 y1 y2))
 | 0 => ⟨fun _ _ _ _ _ _ _ _ r h => by simp [laws_FnExactMoebiusTree.j0] at h, fun _ _ _ r h => by simp [laws_FnExactMoebiusTree.j1] at h⟩
 | k + 1 => by
  obtain ⟨ih0, ih1⟩ := laws_FnExactMoebiusTree.mono_l k
  refine ⟨?_, ?_⟩
  ·
   intro y0 y1 y2 y3 y4 y5 y6 y7
   unfold laws_FnExactMoebiusTree.j0
   repeat' first
   | (with_reducible exact ih0 _ _ _ _ _ _ _ _)
   | (with_reducible exact ih1 _ _ _)
   | (with_reducible exact impl_MoebiusTree.mono _ _ _ _ _)
   | (with_reducible exact laws_eqTree.mono _ _ _)
   | (with_reducible exact laws_heldTree.mono _ _ _)
   | (with_reducible exact laws_markTree.mono _ _ _)
   | (with_reducible exact spec_MoebiusTree.mono _ _ _ _ _)
   | (with_reducible exact LeO.refl _)
   | (with_reducible exact LeO.none _)
   | (with_reducible refine LeO.ite ?_ ?_)
   | (with_reducible refine LeO.bind ?_ (fun _ => ?_))
   | exact ih0 _ _ _ _ _ _ _ _
   | exact ih1 _ _ _
   | exact LeO.none _
   | refine LeO.ite ?_ ?_
   | refine LeO.bind ?_ (fun _ => ?_)
  ·
   intro y0 y1 y2
   unfold laws_FnExactMoebiusTree.j1
   repeat' first
   | (with_reducible exact ih0 _ _ _ _ _ _ _ _)
   | (with_reducible exact ih1 _ _ _)
   | (with_reducible exact impl_MoebiusTree.mono _ _ _ _ _)
   | (with_reducible exact laws_eqTree.mono _ _ _)
   | (with_reducible exact laws_heldTree.mono _ _ _)
   | (with_reducible exact laws_markTree.mono _ _ _)
   | (with_reducible exact spec_MoebiusTree.mono _ _ _ _ _)
   | (with_reducible exact LeO.refl _)
   | (with_reducible exact LeO.none _)
   | (with_reducible refine LeO.ite ?_ ?_)
   | (with_reducible refine LeO.bind ?_ (fun _ => ?_))
   | exact ih0 _ _ _ _ _ _ _ _
   | exact ih1 _ _ _
   | exact LeO.none _
   | refine LeO.ite ?_ ?_
   | refine LeO.bind ?_ (fun _ => ?_)
theorem laws_FnExactMoebiusTree.mono : ∀ a0 a1 a2 a3 k, LeO (laws_FnExactMoebiusTree.f k a0 a1 a2 a3) (laws_FnExactMoebiusTree.f (k + 1) a0 a1 a2 a3) := by
 intro a0 a1 a2 a3 k
 obtain ⟨ih0, ih1⟩ := laws_FnExactMoebiusTree.mono_l k
 unfold laws_FnExactMoebiusTree.f
 repeat' first
   | (with_reducible exact ih0 _ _ _ _ _ _ _ _)
   | (with_reducible exact ih1 _ _ _)
   | (with_reducible exact impl_MoebiusTree.mono _ _ _ _ _)
   | (with_reducible exact laws_eqTree.mono _ _ _)
   | (with_reducible exact laws_heldTree.mono _ _ _)
   | (with_reducible exact laws_markTree.mono _ _ _)
   | (with_reducible exact spec_MoebiusTree.mono _ _ _ _ _)
   | (with_reducible exact LeO.refl _)
   | (with_reducible exact LeO.none _)
   | (with_reducible refine LeO.ite ?_ ?_)
   | (with_reducible refine LeO.bind ?_ (fun _ => ?_))
   | exact ih0 _ _ _ _ _ _ _ _
   | exact ih1 _ _ _
   | exact LeO.none _
   | refine LeO.ite ?_ ?_
   | refine LeO.bind ?_ (fun _ => ?_)
set_option maxHeartbeats 8000000 in
set_option maxRecDepth 100000 in
theorem laws_FnExactMoebiusTree.calls (k : Nat) (a0_0 : Int) (a0_1 : Int) (a0_2 : Int) (a0_3 : Int) (w : World) (h : laws_FnExactMoebiusTree.f k a0_0 a0_1 a0_2 a0_3 = some true) :
  Calls Try.prog 10 #[.agg #[.int .i64 a0_0, .int .i64 a0_1, .int .i64 a0_2, .int .i64 a0_3]] w fun e w' => e = .returned (.bool true) ∧ Below w.heap.size w w' := by
 have hu58 := Try.underlying58
 have hu34 := Try.underlying34
 have HB := A_ (Below.refl w.heap.size w)
 have H : ((laws_toMoebius.f a0_0 a0_1 a0_2 a0_3).bind fun bt303 => ((spec_MoebiusTree.f k bt303.1 bt303.2.1 bt303.2.2.1 bt303.2.2.2).bind fun bt307 => ((laws_toMoebius.f a0_0 a0_1 a0_2 a0_3).bind fun bt312 => ((impl_MoebiusTree.f k bt312.1 bt312.2.1 bt312.2.2.1 bt312.2.2.2).bind fun bt316 => ((laws_eqTree.f k bt316.1 bt307.1).bind fun t321 => (if t321 = true then (laws_FnExactMoebiusTree.j0 k bt307.2 (bt316.2 != bt307.2) a0_0 a0_1 a0_2 a0_3 bt307.1 bt316.1) else (laws_FnExactMoebiusTree.j0 k bt307.2 true a0_0 a0_1 a0_2 a0_3 bt307.1 bt316.1))))))) = some true := h
 clear h
 replace H := Option.bind_eq_some_iff.mp H
 obtain ⟨⟨t303, t304, t305, t306⟩, A20, H⟩ := H
 try dsimp only at H
 have A2 := A_ A20
 clear A20
 replace H := Option.bind_eq_some_iff.mp H
 obtain ⟨⟨t307, t310⟩, A30, H⟩ := H
 try dsimp only at H
 have A3 := A_ A30
 clear A30
 replace H := Option.bind_eq_some_iff.mp H
 obtain ⟨⟨t312, t313, t314, t315⟩, A40, H⟩ := H
 try dsimp only at H
 have A4 := A_ A40
 clear A40
 replace H := Option.bind_eq_some_iff.mp H
 obtain ⟨⟨t316, t319⟩, A50, H⟩ := H
 try dsimp only at H
 have A5 := A_ A50
 clear A50
 have HC6 := A_ H
 clear H
 go_enter Try.func10, Try.ntmps10
 go_upto_region 3 with (first | ((with_reducible refine gate_dst (N := 1) rfl ?_); refine box_event ?hg (N := 1) ?hd (cs := #[.int .i64 a0_0, .int .i64 a0_1, .int .i64 a0_2, .int .i64 a0_3]) (t := 58) ?hr ?_; (case hd => rfl); (case hg => rfl); (case hr => first | (go_simp; done) | (go_simp; rfl)); intro gb302 hg w7 hbox hb; have _ := A_ (below_step z9_18_ hb); have _ := A_ (hbox); have _ := A_ ((by rw [hg]; exact (below_size z9_18_) : w.heap.size ≤ gb302)); have _ := A_ ((by rw [hg]; exact (below_size z9_18_) : w.heap.size ≤ gb302)); clear HB; rename_i HB BK302 GW302 GE302; clear hb hbox hg; obtain ⟨hcz8_0, hcz8_1, hcz8_2, hcz8_3⟩ := bc4 BK302.out; obtain ⟨hfz8_0, hfz8_1, hfz8_2, hfz8_3⟩ := bf4 BK302.out) | ((with_reducible refine gate_callee (f := 41) rfl ?_); refine goesL_ (some 13) rfl rfl Try.func41 (by kernel_rfl) rfl #[.agg #[.int .i64 a0_0, .int .i64 a0_1, .int .i64 a0_2, .int .i64 a0_3]] rfl z9_4_ ?_; (with_reducible refine (laws_toMoebius.calls a0_0 a0_1 a0_2 a0_3 t303 t304 t305 t306 _ A2.out).mono ?_); rintro e w9 ⟨rfl, hb⟩; refine ⟨_, rfl, ?_⟩; have _ := A_ (blk_below (g := gb302) (o := .cells #[.int .i64 a0_0, .int .i64 a0_1, .int .i64 a0_2, .int .i64 a0_3] 58 (0, 0)) z9_1_ hb); have _ := A_ (below_step z9_8_ hb); clear BK302 HB; rename_i BK302 HB; (try clear hb)) | ((with_reducible refine gate_callee (f := 40) rfl ?_); refine goesL_ (some 14) rfl rfl Try.func40 (by kernel_rfl) rfl #[.agg #[.int .i64 t303, .int .i64 t304, .int .i64 t305, .int .i64 t306]] rfl z9_4_ ?_; (with_reducible refine (spec_MoebiusTree.calls k t303 t304 t305 t306 t307 t310 _ A3.out).mono ?_); rintro e w10 ⟨v308, rfl, ho0, hb⟩; refine ⟨_, rfl, ?_⟩; have _ := A_ (Kd.R_lower ho0 (below_size z9_8_)); have _ := A_ (blk_below (g := gb302) (o := .cells #[.int .i64 a0_0, .int .i64 a0_1, .int .i64 a0_2, .int .i64 a0_3] 58 (0, 0)) z9_1_ hb); have _ := A_ (below_step z9_8_ hb); clear BK302 HB; rename_i HO309 BK302 HB; (try clear hb); (try clear ho0)) | ((with_reducible refine gate_dst (N := 3) rfl ?_); refine box_event ?hg (N := 3) ?hd (cs := #[.slice none 0 0]) (t := 34) ?hr ?_; (case hd => rfl); (case hg => rfl); (case hr => first | (go_simp; done) | (go_simp; rfl)); intro gb311 hg w11 hbox hb; have _ := A_ (Kd.R_below z9_15_ hb); have _ := A_ (blk_below (g := gb302) (o := .cells #[.int .i64 a0_0, .int .i64 a0_1, .int .i64 a0_2, .int .i64 a0_3] 58 (0, 0)) z9_1_ hb); have _ := A_ (below_step z9_8_ hb); have _ := A_ (hbox); have _ := A_ ((by rw [hg]; exact (below_size z9_8_) : w.heap.size ≤ gb311)); have _ := A_ ((by rw [hg]; exact (below_size z9_8_) : w.heap.size ≤ gb311)); have _ := A_ ((by rw [hg]; exact Nat.ne_of_lt (blk_lt (g := gb302) (o := .cells #[.int .i64 a0_0, .int .i64 a0_1, .int .i64 a0_2, .int .i64 a0_3] 58 (0, 0)) z9_1_) : gb302 ≠ gb311)); have _ := A_ ((by rw [hg]; exact Nat.ne_of_gt (blk_lt (g := gb302) (o := .cells #[.int .i64 a0_0, .int .i64 a0_1, .int .i64 a0_2, .int .i64 a0_3] 58 (0, 0)) z9_1_) : gb311 ≠ gb302)); clear HO309 BK302 HB; rename_i HO309 BK302 HB BK311 GW311 GE311 NB302_311 NB311_302; clear hb hbox hg; obtain ⟨Ao12, co12, eo12⟩ := Kd.R_slice HO309.out; subst eo12; have hnb13 := NB311_302.out; have hnc13 := NB302_311.out; have hcz14_0 : w11.cell? ⟨gb311, 0, none⟩ = some (.slice none 0 0) := (blk_cell BK311.out 0).trans rfl; have hfz14_0 := blk_frozen BK311.out 0; obtain ⟨hcz15_0, hcz15_1, hcz15_2, hcz15_3⟩ := bc4 BK302.out; obtain ⟨hfz15_0, hfz15_1, hfz15_2, hfz15_3⟩ := bf4 BK302.out) | ((with_reducible refine gate_callee (f := 41) rfl ?_); refine goesL_ (some 19) rfl rfl Try.func41 (by kernel_rfl) rfl #[.agg #[.int .i64 a0_0, .int .i64 a0_1, .int .i64 a0_2, .int .i64 a0_3]] rfl z9_4_ ?_; (with_reducible refine (laws_toMoebius.calls a0_0 a0_1 a0_2 a0_3 t312 t313 t314 t315 _ A4.out).mono ?_); rintro e w16 ⟨rfl, hb⟩; refine ⟨_, rfl, ?_⟩; have _ := A_ (Kd.R_below (by (with_reducible repeat (first | apply Kd.R_alloc | apply Kd.R_drewN | apply Kd.R_drew)); exact (Kd.R_mono (Kd.R_far (p := ⟨gb311, 0, none⟩) (Kd.R_types HO309.out BK311.out (by decide)) (fun _ hk => hk.2) (.slice Ao12 t307.length co12)) (fun _ h_ => h_.1))) hb); have _ := A_ (blk_below (g := gb302) (o := .cells #[.int .i64 a0_0, .int .i64 a0_1, .int .i64 a0_2, .int .i64 a0_3] 58 (0, 0)) (by (with_reducible repeat (first | refine blk_drewN ?_ _ | refine blk_drew ?_ | refine blk_alloc ?_ _)); refine blk_far ?_ NB302_311.out _; (with_reducible repeat (first | refine blk_drewN ?_ _ | refine blk_drew ?_ | refine blk_alloc ?_ _)); exact BK302.out) hb); have _ := A_ (blk_below (g := gb311) (o := .cells #[.slice Ao12 t307.length co12] 34 (0, 0)) (by (with_reducible repeat (first | refine blk_drewN ?_ _ | refine blk_drew ?_ | refine blk_alloc ?_ _)); refine blk_put (cs := #[.slice none 0 0]) ?_ 0 _ rfl; (with_reducible repeat (first | refine blk_drewN ?_ _ | refine blk_drew ?_ | refine blk_alloc ?_ _)); exact BK311.out) hb); have _ := A_ (below_step z9_7_ hb); clear HO309 BK302 BK311 HB; rename_i HO309 BK302 BK311 HB; (try clear hb)) | ((with_reducible refine gate_callee (f := 42) rfl ?_); refine goesL_ (some 20) rfl rfl Try.func42 (by kernel_rfl) rfl #[.agg #[.int .i64 t312, .int .i64 t313, .int .i64 t314, .int .i64 t315]] rfl z9_4_ ?_; (with_reducible refine (impl_MoebiusTree.calls k t312 t313 t314 t315 t316 t319 _ A5.out).mono ?_); rintro e w17 ⟨v317, rfl, ho0, hb⟩; refine ⟨_, rfl, ?_⟩; have _ := A_ (Kd.R_elder' z9_15_ (Kd.R_base ho0) hb); have _ := A_ (Kd.R_lower (Kd.R_new' ho0 (Kd.R_lt z9_15_)) (below_size z9_7_)); have _ := A_ (blk_below (g := gb302) (o := .cells #[.int .i64 a0_0, .int .i64 a0_1, .int .i64 a0_2, .int .i64 a0_3] 58 (0, 0)) z9_1_ hb); have _ := A_ (blk_below (g := gb311) (o := .cells #[.slice Ao12 t307.length co12] 34 (0, 0)) z9_3_ hb); have _ := A_ (below_step z9_7_ hb); clear HO309 BK302 BK311 HB; rename_i HO309 HO318 BK302 BK311 HB; (try clear hb); (try clear ho0)) | ((with_reducible refine gate_dst (N := 5) rfl ?_); refine box_event ?hg (N := 5) ?hd (cs := #[.slice none 0 0]) (t := 34) ?hr ?_; (case hd => rfl); (case hg => rfl); (case hr => first | (go_simp; done) | (go_simp; rfl)); intro gb320 hg w18 hbox hb; have _ := A_ (Kd.R_below z9_15_ hb); have _ := A_ (Kd.R_below (by (with_reducible repeat (first | apply Kd.R_alloc | apply Kd.R_drewN | apply Kd.R_drew)); exact HO318.out) hb); have _ := A_ (blk_below (g := gb302) (o := .cells #[.int .i64 a0_0, .int .i64 a0_1, .int .i64 a0_2, .int .i64 a0_3] 58 (0, 0)) z9_1_ hb); have _ := A_ (blk_below (g := gb311) (o := .cells #[.slice Ao12 t307.length co12] 34 (0, 0)) z9_3_ hb); have _ := A_ (below_step z9_7_ hb); have _ := A_ (hbox); have _ := A_ ((by rw [hg]; exact (below_size z9_7_) : w.heap.size ≤ gb320)); have _ := A_ ((by rw [hg]; exact (below_size z9_7_) : w.heap.size ≤ gb320)); have _ := A_ ((by rw [hg]; exact Nat.ne_of_lt (blk_lt (g := gb302) (o := .cells #[.int .i64 a0_0, .int .i64 a0_1, .int .i64 a0_2, .int .i64 a0_3] 58 (0, 0)) z9_1_) : gb302 ≠ gb320)); have _ := A_ ((by rw [hg]; exact Nat.ne_of_gt (blk_lt (g := gb302) (o := .cells #[.int .i64 a0_0, .int .i64 a0_1, .int .i64 a0_2, .int .i64 a0_3] 58 (0, 0)) z9_1_) : gb320 ≠ gb302)); have _ := A_ ((by rw [hg]; exact Nat.ne_of_lt (blk_lt (g := gb311) (o := .cells #[.slice Ao12 t307.length co12] 34 (0, 0)) z9_3_) : gb311 ≠ gb320)); have _ := A_ ((by rw [hg]; exact Nat.ne_of_gt (blk_lt (g := gb311) (o := .cells #[.slice Ao12 t307.length co12] 34 (0, 0)) z9_3_) : gb320 ≠ gb311)); clear HO309 HO318 BK302 BK311 HB; rename_i HO309 HO318 BK302 BK311 HB BK320 GW320 GE320 NB302_320 NB320_302 NB311_320 NB320_311; clear hb hbox hg; obtain ⟨Ao19, co19, eo19⟩ := Kd.R_slice HO318.out; subst eo19; have hnb20 := NB320_302.out; have hnc20 := NB302_320.out; have hnb21 := NB320_311.out; have hnc21 := NB311_320.out; have hcz22_0 : w18.cell? ⟨gb320, 0, none⟩ = some (.slice none 0 0) := (blk_cell BK320.out 0).trans rfl; have hfz22_0 := blk_frozen BK320.out 0))
 (try simp only [Act.put, sA_, sB_, sC_])
 go_cut [31] (fun v31 wc => ∃ (kq : Nat) (x31_5 : Bool), v31 = .bool x31_5 ∧ Aside0 (laws_FnExactMoebiusTree.j0 kq t310 x31_5 a0_0 a0_1 a0_2 a0_3 t307 t316 = some true) ∧ Aside0 (kq ≤ k) ∧ Aside0 (Kd.R k89 89 wc w.heap.size (fun k_ => some k_ ≠ ((.slice Ao19 t316.length co19) : Value).ownBlock) (.slice Ao12 t307.length co12) t307) ∧ Aside0 (Kd.R k89 89 wc w.heap.size (fun k_ => some k_ ≠ ((.slice Ao12 t307.length co12) : Value).ownBlock) (.slice Ao19 t316.length co19) t316) ∧ Aside0 (wc.heap[gb302]? = some (.cells #[.int .i64 a0_0, .int .i64 a0_1, .int .i64 a0_2, .int .i64 a0_3] 58 (0, 0))) ∧ Aside0 (wc.heap[gb311]? = some (.cells #[(.slice Ao12 t307.length co12)] 34 (0, 0))) ∧ Aside0 (wc.heap[gb320]? = some (.cells #[(.slice Ao19 t316.length co19)] 34 (0, 0))) ∧ Aside0 (Below w.heap.size w wc))
 case first =>
  have H := HC6.out
  clear HC6
  replace H := Option.bind_eq_some_iff.mp H
  obtain ⟨t321, A230, H⟩ := H
  try dsimp only at H
  have A23 := A_ A230
  clear A230
  by_cases c24 : t321 = true
  ·
   subst c24
   have H1 : (laws_FnExactMoebiusTree.j0 k t310 (t319 != t310) a0_0 a0_1 a0_2 a0_3 t307 t316) = some true := by first | (rw [if_pos rfl] at H; exact H) | rfl
   clear H
   have H := H1
   clear H1
   have H' := A_ H
   clear H
   have hnb25 := NB320_302.out
   have hnc25 := NB302_320.out
   have hnb26 := NB320_311.out
   have hnc26 := NB311_320.out
   have hcz27_0 : w18.cell? ⟨gb320, 0, none⟩ = some (.slice none 0 0) := (blk_cell BK320.out 0).trans rfl
   have hfz27_0 := blk_frozen BK320.out 0
   have hnb28 := NB311_302.out
   have hnc28 := NB302_311.out
   have hcz29_0 : w18.cell? ⟨gb311, 0, none⟩ = some (.slice Ao12 t307.length co12) := (blk_cell BK311.out 0).trans rfl
   have hfz29_0 := blk_frozen BK311.out 0
   go_wp2_with (first | ((with_reducible refine gate_callee (f := 21) rfl ?_); refine goesL_ (some 25) rfl rfl Try.func21 (by kernel_rfl) rfl #[.agg #[.slice Ao19 t316.length co19], .agg #[.slice Ao12 t307.length co12]] rfl z9_4_ ?_; (with_reducible refine (laws_eqTree.calls k _ _ t316 _ _ t307 true _ ?side1 ?side2 ?side3 ?side4 A23.out).mono ?_); (case side1 => refine (Kd.R_reads' (e := 89) (base := w.heap.size) (ok := fun k_ => (True ∧ some k_ ≠ (.slice Ao12 t307.length co12 : Value).ownBlock)) (n := t316.length) (c := co19) ?_).2.2; exact z9_11_); (case side2 => exact (Kd.R_reads' HO318.out).2.1); (case side3 => refine (Kd.R_reads' (e := 89) (base := w.heap.size) (ok := fun k_ => (True ∧ some k_ ≠ (.slice Ao19 t316.length co19 : Value).ownBlock)) (n := t307.length) (c := co12) ?_).2.2; exact z9_12_); (case side4 => exact (Kd.R_reads' HO309.out).2.1); rintro e w30 ⟨rfl, hb⟩; refine ⟨_, rfl, ?_⟩; have _ := A_ (Kd.R_below z9_12_ hb); have _ := A_ (Kd.R_below z9_11_ hb); have _ := A_ (blk_below (g := gb302) (o := .cells #[.int .i64 a0_0, .int .i64 a0_1, .int .i64 a0_2, .int .i64 a0_3] 58 (0, 0)) z9_24_ hb); have _ := A_ (blk_below (g := gb311) (o := .cells #[.slice Ao12 t307.length co12] 34 (0, 0)) z9_22_ hb); have _ := A_ (blk_below (g := gb320) (o := .cells #[.slice Ao19 t316.length co19] 34 (0, 0)) z9_17_ hb); have _ := A_ (below_step z9_2_ hb); clear HO309 HO318 BK302 BK311 BK320 HB; rename_i HO309 HO318 BK302 BK311 BK320 HB; (try clear hb)))
   go_meet
   case rel => exact ⟨_, ((t319 != t310)), z9_26_, H', ⟨(by first | omega | exact Nat.le_refl _)⟩, ⟨z9_29_⟩, ⟨z9_28_⟩, ⟨z9_1_⟩, ⟨z9_3_⟩, ⟨z9_6_⟩, ⟨z9_2_⟩⟩
  ·
   replace c24 := Bool.eq_false_iff.mpr c24
   subst c24
   have H1 : (laws_FnExactMoebiusTree.j0 k t310 true a0_0 a0_1 a0_2 a0_3 t307 t316) = some true := by first | (rw [if_neg (show ¬ (false = true) by decide)] at H; exact H) | rfl
   clear H
   have H := H1
   clear H1
   have H' := A_ H
   clear H
   have hnb31 := NB320_302.out
   have hnc31 := NB302_320.out
   have hnb32 := NB320_311.out
   have hnc32 := NB311_320.out
   have hcz33_0 : w18.cell? ⟨gb320, 0, none⟩ = some (.slice none 0 0) := (blk_cell BK320.out 0).trans rfl
   have hfz33_0 := blk_frozen BK320.out 0
   have hnb34 := NB311_302.out
   have hnc34 := NB302_311.out
   have hcz35_0 : w18.cell? ⟨gb311, 0, none⟩ = some (.slice Ao12 t307.length co12) := (blk_cell BK311.out 0).trans rfl
   have hfz35_0 := blk_frozen BK311.out 0
   go_wp2_with (first | ((with_reducible refine gate_callee (f := 21) rfl ?_); refine goesL_ (some 25) rfl rfl Try.func21 (by kernel_rfl) rfl #[.agg #[.slice Ao19 t316.length co19], .agg #[.slice Ao12 t307.length co12]] rfl z9_4_ ?_; (with_reducible refine (laws_eqTree.calls k _ _ t316 _ _ t307 false _ ?side1 ?side2 ?side3 ?side4 A23.out).mono ?_); (case side1 => refine (Kd.R_reads' (e := 89) (base := w.heap.size) (ok := fun k_ => (True ∧ some k_ ≠ (.slice Ao12 t307.length co12 : Value).ownBlock)) (n := t316.length) (c := co19) ?_).2.2; exact z9_11_); (case side2 => exact (Kd.R_reads' HO318.out).2.1); (case side3 => refine (Kd.R_reads' (e := 89) (base := w.heap.size) (ok := fun k_ => (True ∧ some k_ ≠ (.slice Ao19 t316.length co19 : Value).ownBlock)) (n := t307.length) (c := co12) ?_).2.2; exact z9_12_); (case side4 => exact (Kd.R_reads' HO309.out).2.1); rintro e w36 ⟨rfl, hb⟩; refine ⟨_, rfl, ?_⟩; have _ := A_ (Kd.R_below z9_12_ hb); have _ := A_ (Kd.R_below z9_11_ hb); have _ := A_ (blk_below (g := gb302) (o := .cells #[.int .i64 a0_0, .int .i64 a0_1, .int .i64 a0_2, .int .i64 a0_3] 58 (0, 0)) z9_24_ hb); have _ := A_ (blk_below (g := gb311) (o := .cells #[.slice Ao12 t307.length co12] 34 (0, 0)) z9_22_ hb); have _ := A_ (blk_below (g := gb320) (o := .cells #[.slice Ao19 t316.length co19] 34 (0, 0)) z9_17_ hb); have _ := A_ (below_step z9_2_ hb); clear HO309 HO318 BK302 BK311 BK320 HB; rename_i HO309 HO318 BK302 BK311 BK320 HB; (try clear hb)))
   go_meet
   case rel => exact ⟨_, (true), z9_26_, H', ⟨(by first | omega | exact Nat.le_refl _)⟩, ⟨z9_29_⟩, ⟨z9_28_⟩, ⟨z9_1_⟩, ⟨z9_3_⟩, ⟨z9_6_⟩, ⟨z9_2_⟩⟩
 case rest =>
  clear HC6
  try clear c1
  try clear c2
  try clear p2
  try clear c3
  try clear c4
  try clear c10
  try clear c13
  try clear c20
  try clear c21
  try clear c24
  try clear c25
  try clear c26
  try clear c28
  try clear c31
  try clear c32
  try clear c34
  try clear hcz14_0
  try clear hcz15_0
  try clear hcz15_1
  try clear hcz15_2
  try clear hcz15_3
  try clear hcz22_0
  try clear hcz27_0
  try clear hcz29_0
  try clear hcz33_0
  try clear hcz35_0
  try clear hcz8_0
  try clear hcz8_1
  try clear hcz8_2
  try clear hcz8_3
  try clear hfz14_0
  try clear hfz15_0
  try clear hfz15_1
  try clear hfz15_2
  try clear hfz15_3
  try clear hfz22_0
  try clear hfz27_0
  try clear hfz29_0
  try clear hfz33_0
  try clear hfz35_0
  try clear hfz8_0
  try clear hfz8_1
  try clear hfz8_2
  try clear hfz8_3
  obtain ⟨kq, x31_5, rfl, HA, HJ5, HO_312000, HO_321000, BK302, BK311, BK320, HB⟩ := hcut
  cases kq with
  | zero => exact absurd HA.out (by simp [laws_FnExactMoebiusTree.j0])
  | succ kj5 =>
   have H := HA.out
   clear HA
   simp only [laws_FnExactMoebiusTree.j0] at H
   by_cases c37 : x31_5 = true
   ·
    subst c37
    have H1 : (some false) = some true := by first | (rw [if_pos rfl] at H; exact H) | rfl
    clear H
    have H := H1
    clear H1
    exact absurd H (by decide)
   ·
    replace c37 := Bool.eq_false_iff.mpr c37
    subst c37
    have H1 : ((laws_markTree.f kj5 t316 1).bind fun bt322 => ((laws_heldTree.f kj5 bt322.2 1).bind fun t324 => (if t324 < 0 then (some false) else (if t324 = bt322.1 then ((laws_toMoebius.f a0_0 a0_1 a0_2 a0_3).bind fun bt325 => ((impl_MoebiusTree.f kj5 bt325.1 bt325.2.1 bt325.2.2.1 bt325.2.2.2).bind fun bt329 => ((laws_eqTree.f kj5 bt329.1 t307).bind fun t334 => (if t334 = true then (laws_FnExactMoebiusTree.j1 kj5 bt322.1 (bt329.2 != t310) bt322.2) else (laws_FnExactMoebiusTree.j1 kj5 bt322.1 true bt322.2))))) else (some false))))) = some true := by first | (rw [if_neg (show ¬ (false = true) by decide)] at H; exact H) | rfl
    clear H
    have H := H1
    clear H1
    replace H := Option.bind_eq_some_iff.mp H
    obtain ⟨⟨t322, t323⟩, A380, H⟩ := H
    try dsimp only at H
    have A38 := A_ A380
    clear A380
    replace H := Option.bind_eq_some_iff.mp H
    obtain ⟨t324, A390, H⟩ := H
    try dsimp only at H
    have A39 := A_ A390
    clear A390
    by_cases c40 : t324 < 0
    ·
     rw [if_pos c40] at H
     have c40b0 := decide_eq_true c40
     clear c40
     exact absurd H (by decide)
    ·
     rw [if_neg c40] at H
     have c40b0 := decide_eq_false c40
     clear c40
     by_cases c41 : t324 = t322
     ·
      rw [if_pos c41] at H
      have c41b0 := beq_iff_eq.mpr c41
      have c41b1 := bne_eq_false_iff_eq.mpr c41
      clear c41
      replace H := Option.bind_eq_some_iff.mp H
      obtain ⟨⟨t325, t326, t327, t328⟩, A420, H⟩ := H
      try dsimp only at H
      have A42 := A_ A420
      clear A420
      replace H := Option.bind_eq_some_iff.mp H
      obtain ⟨⟨t329, t332⟩, A430, H⟩ := H
      try dsimp only at H
      have A43 := A_ A430
      clear A430
      have HC44 := A_ H
      clear H
      have hnb45 := NB320_302.out
      have hnc45 := NB302_320.out
      have hnb46 := NB320_311.out
      have hnc46 := NB311_320.out
      have hcz47_0 : wc.cell? ⟨gb320, 0, none⟩ = some (.slice Ao19 t316.length co19) := (blk_cell BK320.out 0).trans rfl
      have hfz47_0 := blk_frozen BK320.out 0
      go_upto_region 14 with (first | ((with_reducible refine gate_callee (f := 23) rfl ?_); refine goesL_ (some 34) rfl rfl Try.func23 (by kernel_rfl) rfl #[.agg #[.slice Ao19 t316.length co19], .int .i64 1] rfl z9_4_ ?_; (with_reducible refine (laws_markTree.calls kj5 (fun k_ => some k_ = (.slice Ao19 t316.length co19 : Value).ownBlock) (.slice Ao19 t316.length co19) t316 1 t322 t323 w _ ?side1 ?side2 A38.out).mono ?_); (case side1 => repeat (first | (with_reducible first | exact HB.out | apply below_alloc | apply pw_below_drewN | apply below_drew1 | refine below_set ?_ GE302.out | refine below_set ?_ GE311.out | refine below_set ?_ GE320.out) | exact HB.out)); (case side2 => exact Kd.R_tight rfl HO_321000.out); rintro e w48 ⟨rfl, hy0, hb, hkp⟩; refine ⟨_, rfl, ?_⟩; have _ := A_ (Kd.R_mono (ok' := fun k_ => some k_ ≠ (.slice Ao19 t316.length co19 : Value).ownBlock) (Kd.R_keptB (HO_312000.out) hkp (fun k_ hk_ hs_ => (hk_) hs_)) (fun k_ hk_ => hk_.1)); have _ := A_ (Kd.R_reok rfl hy0 (fun k_ e_ => HO_321000.out.1 k_ e_)); have _ := A_ (blk_kept z9_1_ hkp (fun hs_ => (fun e_ => (Kd.R_ne HO_321000.out BK302.out (by decide)) e_) hs_)); have _ := A_ (blk_kept z9_3_ hkp (fun hs_ => (fun e_ => (Kd.R_ne HO_321000.out BK311.out (by decide)) e_) hs_)); have _ := A_ (blk_kept z9_6_ hkp (fun hs_ => (fun e_ => (Kd.R_ne HO_321000.out BK320.out (by decide)) e_) hs_)); have _ := A_ (hb); clear HO_312000 HO_321000 BK302 BK311 BK320 HB; rename_i HO_312000 HO_321000 BK302 BK311 BK320 HB; (try clear hb); (try clear hkp); (try clear hy0); have hcz49_0 : w48.cell? ⟨gb320, 0, none⟩ = some (.slice Ao19 t316.length co19) := (blk_cell BK320.out 0).trans rfl; have hfz49_0 := blk_frozen BK320.out 0) | ((with_reducible refine gate_callee (f := 31) rfl ?_); refine goesL_ (some 37) rfl rfl Try.func31 (by kernel_rfl) rfl #[.agg #[.slice Ao19 t323.length co19], .int .i64 1] rfl (by (try simp only [List.map_toArray, List.map_cons, List.map_nil]); first | done | (rw [show t323.length = t316.length from (Kd.R_reads' HO_321000.out).1.symm] <;> rfl) | rfl | (simp only [List.length_drop, List.length_take]; rfl)) ?_; (with_reducible refine (laws_heldTree.calls kj5 _ _ t323 1 t324 _ ?side1 ?side2 A39.out).mono ?_); (case side1 => have hx_ := (Kd.R_reads' HO_321000.out).2.2; exact kc_); (case side2 => rw [show t323.length = t316.length from (Kd.R_reads' HO_321000.out).1.symm]; exact (Kd.R_reads' HO_321000.out).2.1); rintro e w50 ⟨rfl, hb⟩; refine ⟨_, rfl, ?_⟩; have _ := A_ (Kd.R_below z9_14_ hb); have _ := A_ (Kd.R_below z9_13_ hb); have _ := A_ (blk_below (g := gb302) (o := .cells #[.int .i64 a0_0, .int .i64 a0_1, .int .i64 a0_2, .int .i64 a0_3] 58 (0, 0)) z9_1_ hb); have _ := A_ (blk_below (g := gb311) (o := .cells #[.slice Ao12 t307.length co12] 34 (0, 0)) z9_3_ hb); have _ := A_ (blk_below (g := gb320) (o := .cells #[.slice Ao19 t316.length co19] 34 (0, 0)) z9_6_ hb); have _ := A_ (below_step z9_2_ hb); clear HO_312000 HO_321000 BK302 BK311 BK320 HB; rename_i HO_312000 HO_321000 BK302 BK311 BK320 HB; (try clear hb); have hnb51 := NB302_311.out; have hnc51 := NB311_302.out; obtain ⟨hcz52_0, hcz52_1, hcz52_2, hcz52_3⟩ := bc4 BK302.out; obtain ⟨hfz52_0, hfz52_1, hfz52_2, hfz52_3⟩ := bf4 BK302.out) | ((with_reducible refine gate_callee (f := 41) rfl ?_); refine goesL_ (some 45) rfl rfl Try.func41 (by kernel_rfl) rfl #[.agg #[.int .i64 a0_0, .int .i64 a0_1, .int .i64 a0_2, .int .i64 a0_3]] rfl z9_4_ ?_; (with_reducible refine (laws_toMoebius.calls a0_0 a0_1 a0_2 a0_3 t325 t326 t327 t328 _ A42.out).mono ?_); rintro e w53 ⟨rfl, hb⟩; refine ⟨_, rfl, ?_⟩; have _ := A_ (Kd.R_below z9_14_ hb); have _ := A_ (Kd.R_below z9_13_ hb); have _ := A_ (blk_below (g := gb302) (o := .cells #[.int .i64 a0_0, .int .i64 a0_1, .int .i64 a0_2, .int .i64 a0_3] 58 (0, 0)) z9_1_ hb); have _ := A_ (blk_below (g := gb311) (o := .cells #[.slice Ao12 t307.length co12] 34 (0, 0)) z9_3_ hb); have _ := A_ (blk_below (g := gb320) (o := .cells #[.slice Ao19 t316.length co19] 34 (0, 0)) z9_6_ hb); have _ := A_ (below_step z9_2_ hb); clear HO_312000 HO_321000 BK302 BK311 BK320 HB; rename_i HO_312000 HO_321000 BK302 BK311 BK320 HB; (try clear hb)) | ((with_reducible refine gate_callee (f := 42) rfl ?_); refine goesL_ (some 46) rfl rfl Try.func42 (by kernel_rfl) rfl #[.agg #[.int .i64 t325, .int .i64 t326, .int .i64 t327, .int .i64 t328]] rfl z9_4_ ?_; (with_reducible refine (impl_MoebiusTree.calls kj5 t325 t326 t327 t328 t329 t332 _ A43.out).mono ?_); rintro e w54 ⟨v330, rfl, ho0, hb⟩; refine ⟨_, rfl, ?_⟩; have _ := A_ (Kd.R_elder' z9_14_ (Kd.R_base ho0) hb); have _ := A_ (Kd.R_elder' z9_13_ (Kd.R_base ho0) hb); have _ := A_ (Kd.R_lower (Kd.R_new' (Kd.R_new' ho0 (Kd.R_lt z9_14_)) (Kd.R_lt z9_13_)) (below_size z9_2_)); have _ := A_ (blk_below (g := gb302) (o := .cells #[.int .i64 a0_0, .int .i64 a0_1, .int .i64 a0_2, .int .i64 a0_3] 58 (0, 0)) z9_1_ hb); have _ := A_ (blk_below (g := gb311) (o := .cells #[.slice Ao12 t307.length co12] 34 (0, 0)) z9_3_ hb); have _ := A_ (blk_below (g := gb320) (o := .cells #[.slice Ao19 t316.length co19] 34 (0, 0)) z9_6_ hb); have _ := A_ (below_step z9_2_ hb); clear HO_312000 HO_321000 BK302 BK311 BK320 HB; rename_i HO_312000 HO_321000 HO331 BK302 BK311 BK320 HB; (try clear hb); (try clear ho0)) | ((with_reducible refine gate_dst (N := 9) rfl ?_); refine box_event ?hg (N := 9) ?hd (cs := #[.slice none 0 0]) (t := 34) ?hr ?_; (case hd => rfl); (case hg => rfl); (case hr => first | (go_simp; done) | (go_simp; rfl)); intro gb333 hg w55 hbox hb; have _ := A_ (Kd.R_below z9_14_ hb); have _ := A_ (Kd.R_below z9_13_ hb); have _ := A_ (Kd.R_below (by (with_reducible repeat (first | apply Kd.R_alloc | apply Kd.R_drewN | apply Kd.R_drew)); exact HO331.out) hb); have _ := A_ (blk_below (g := gb302) (o := .cells #[.int .i64 a0_0, .int .i64 a0_1, .int .i64 a0_2, .int .i64 a0_3] 58 (0, 0)) z9_1_ hb); have _ := A_ (blk_below (g := gb311) (o := .cells #[.slice Ao12 t307.length co12] 34 (0, 0)) z9_3_ hb); have _ := A_ (blk_below (g := gb320) (o := .cells #[.slice Ao19 t316.length co19] 34 (0, 0)) z9_6_ hb); have _ := A_ (below_step z9_2_ hb); have _ := A_ (hbox); have _ := A_ ((by rw [hg]; exact (below_size z9_2_) : w.heap.size ≤ gb333)); have _ := A_ ((by rw [hg]; exact (below_size z9_2_) : w.heap.size ≤ gb333)); have _ := A_ ((by rw [hg]; exact Nat.ne_of_lt (blk_lt (g := gb302) (o := .cells #[.int .i64 a0_0, .int .i64 a0_1, .int .i64 a0_2, .int .i64 a0_3] 58 (0, 0)) z9_1_) : gb302 ≠ gb333)); have _ := A_ ((by rw [hg]; exact Nat.ne_of_gt (blk_lt (g := gb302) (o := .cells #[.int .i64 a0_0, .int .i64 a0_1, .int .i64 a0_2, .int .i64 a0_3] 58 (0, 0)) z9_1_) : gb333 ≠ gb302)); have _ := A_ ((by rw [hg]; exact Nat.ne_of_lt (blk_lt (g := gb311) (o := .cells #[.slice Ao12 t307.length co12] 34 (0, 0)) z9_3_) : gb311 ≠ gb333)); have _ := A_ ((by rw [hg]; exact Nat.ne_of_gt (blk_lt (g := gb311) (o := .cells #[.slice Ao12 t307.length co12] 34 (0, 0)) z9_3_) : gb333 ≠ gb311)); have _ := A_ ((by rw [hg]; exact Nat.ne_of_lt (blk_lt (g := gb320) (o := .cells #[.slice Ao19 t316.length co19] 34 (0, 0)) z9_6_) : gb320 ≠ gb333)); have _ := A_ ((by rw [hg]; exact Nat.ne_of_gt (blk_lt (g := gb320) (o := .cells #[.slice Ao19 t316.length co19] 34 (0, 0)) z9_6_) : gb333 ≠ gb320)); clear HO_312000 HO_321000 HO331 BK302 BK311 BK320 HB; rename_i HO_312000 HO_321000 HO331 BK302 BK311 BK320 HB BK333 GW333 GE333 NB302_333 NB333_302 NB311_333 NB333_311 NB320_333 NB333_320; clear hb hbox hg; obtain ⟨Ao56, co56, eo56⟩ := Kd.R_slice HO331.out; subst eo56; have hnb57 := NB333_302.out; have hnc57 := NB302_333.out; have hnb58 := NB333_311.out; have hnc58 := NB311_333.out; have hnb59 := NB333_320.out; have hnc59 := NB320_333.out; have hcz60_0 : w55.cell? ⟨gb333, 0, none⟩ = some (.slice none 0 0) := (blk_cell BK333.out 0).trans rfl; have hfz60_0 := blk_frozen BK333.out 0))
      (try simp only [Act.put, sA_, sB_, sC_])
      go_cut [57] (fun v57 wc => ∃ (kq : Nat) (x57_43 : Bool), v57 = .bool x57_43 ∧ Aside0 (laws_FnExactMoebiusTree.j1 kq t322 x57_43 t323 = some true) ∧ Aside0 (kq ≤ kj5) ∧ Aside0 (Kd.R k89 89 wc w.heap.size (fun k_ => some k_ ≠ ((.slice Ao19 t316.length co19) : Value).ownBlock ∧ some k_ ≠ ((.slice Ao56 t329.length co56) : Value).ownBlock) (.slice Ao12 t307.length co12) t307) ∧ Aside0 (Kd.R k89 89 wc w.heap.size (fun k_ => some k_ ≠ ((.slice Ao12 t307.length co12) : Value).ownBlock ∧ some k_ ≠ ((.slice Ao56 t329.length co56) : Value).ownBlock) (.slice Ao19 t316.length co19) t323) ∧ Aside0 (Kd.R k89 89 wc w.heap.size (fun k_ => some k_ ≠ ((.slice Ao12 t307.length co12) : Value).ownBlock ∧ some k_ ≠ ((.slice Ao19 t316.length co19) : Value).ownBlock) (.slice Ao56 t329.length co56) t329) ∧ Aside0 (wc.heap[gb302]? = some (.cells #[.int .i64 a0_0, .int .i64 a0_1, .int .i64 a0_2, .int .i64 a0_3] 58 (0, 0))) ∧ Aside0 (wc.heap[gb311]? = some (.cells #[(.slice Ao12 t307.length co12)] 34 (0, 0))) ∧ Aside0 (wc.heap[gb320]? = some (.cells #[(.slice Ao19 t316.length co19)] 34 (0, 0))) ∧ Aside0 (wc.heap[gb333]? = some (.cells #[(.slice Ao56 t329.length co56)] 34 (0, 0))) ∧ Aside0 (Below w.heap.size w wc))
      case first =>
       have H := HC44.out
       clear HC44
       replace H := Option.bind_eq_some_iff.mp H
       obtain ⟨t334, A610, H⟩ := H
       try dsimp only at H
       have A61 := A_ A610
       clear A610
       by_cases c62 : t334 = true
       ·
        subst c62
        have H1 : (laws_FnExactMoebiusTree.j1 kj5 t322 (t332 != t310) t323) = some true := by first | (rw [if_pos rfl] at H; exact H) | rfl
        clear H
        have H := H1
        clear H1
        have H' := A_ H
        clear H
        have hnb63 := NB333_302.out
        have hnc63 := NB302_333.out
        have hnb64 := NB333_311.out
        have hnc64 := NB311_333.out
        have hnb65 := NB333_320.out
        have hnc65 := NB320_333.out
        have hcz66_0 : w55.cell? ⟨gb333, 0, none⟩ = some (.slice none 0 0) := (blk_cell BK333.out 0).trans rfl
        have hfz66_0 := blk_frozen BK333.out 0
        have hnb67 := NB311_302.out
        have hnc67 := NB302_311.out
        have hnb68 := NB311_320.out
        have hnc68 := NB320_311.out
        have hcz69_0 : w55.cell? ⟨gb311, 0, none⟩ = some (.slice Ao12 t307.length co12) := (blk_cell BK311.out 0).trans rfl
        have hfz69_0 := blk_frozen BK311.out 0
        go_wp2_with (first | ((with_reducible refine gate_callee (f := 21) rfl ?_); refine goesL_ (some 51) rfl rfl Try.func21 (by kernel_rfl) rfl #[.agg #[.slice Ao56 t329.length co56], .agg #[.slice Ao12 t307.length co12]] rfl z9_4_ ?_; (with_reducible refine (laws_eqTree.calls kj5 _ _ t329 _ _ t307 true _ ?side1 ?side2 ?side3 ?side4 A61.out).mono ?_); (case side1 => refine (Kd.R_reads' (e := 89) (base := w.heap.size) (ok := fun k_ => ((True ∧ some k_ ≠ (.slice Ao12 t307.length co12 : Value).ownBlock) ∧ some k_ ≠ (.slice Ao19 t316.length co19 : Value).ownBlock)) (n := t329.length) (c := co56) ?_).2.2; exact z9_10_); (case side2 => exact (Kd.R_reads' HO331.out).2.1); (case side3 => refine (Kd.R_reads' (e := 89) (base := w.heap.size) (ok := fun k_ => (some k_ ≠ (.slice Ao19 t316.length co19 : Value).ownBlock ∧ some k_ ≠ (.slice Ao56 t329.length co56 : Value).ownBlock)) (n := t307.length) (c := co12) ?_).2.2; exact z9_9_); (case side4 => exact (Kd.R_reads' HO_312000.out).2.1); rintro e w70 ⟨rfl, hb⟩; refine ⟨_, rfl, ?_⟩; have _ := A_ (Kd.R_below z9_9_ hb); have _ := A_ (Kd.R_below z9_19_ hb); have _ := A_ (Kd.R_below z9_10_ hb); have _ := A_ (blk_below (g := gb302) (o := .cells #[.int .i64 a0_0, .int .i64 a0_1, .int .i64 a0_2, .int .i64 a0_3] 58 (0, 0)) z9_23_ hb); have _ := A_ (blk_below (g := gb311) (o := .cells #[.slice Ao12 t307.length co12] 34 (0, 0)) z9_21_ hb); have _ := A_ (blk_below (g := gb320) (o := .cells #[.slice Ao19 t316.length co19] 34 (0, 0)) z9_20_ hb); have _ := A_ (blk_below (g := gb333) (o := .cells #[.slice Ao56 t329.length co56] 34 (0, 0)) z9_16_ hb); have _ := A_ (below_step z9_5_ hb); clear HO_312000 HO_321000 HO331 BK302 BK311 BK320 BK333 HB; rename_i HO_312000 HO_321000 HO331 BK302 BK311 BK320 BK333 HB; (try clear hb)))
        go_meet
        case rel => exact ⟨_, ((t332 != t310)), z9_26_, H', ⟨(by have := HJ5.out; first | omega | exact Nat.le_refl _)⟩, ⟨z9_14_⟩, ⟨z9_13_⟩, ⟨z9_27_⟩, ⟨z9_1_⟩, ⟨z9_3_⟩, ⟨z9_6_⟩, ⟨z9_25_⟩, ⟨z9_5_⟩⟩
       ·
        replace c62 := Bool.eq_false_iff.mpr c62
        subst c62
        have H1 : (laws_FnExactMoebiusTree.j1 kj5 t322 true t323) = some true := by first | (rw [if_neg (show ¬ (false = true) by decide)] at H; exact H) | rfl
        clear H
        have H := H1
        clear H1
        have H' := A_ H
        clear H
        have hnb71 := NB333_302.out
        have hnc71 := NB302_333.out
        have hnb72 := NB333_311.out
        have hnc72 := NB311_333.out
        have hnb73 := NB333_320.out
        have hnc73 := NB320_333.out
        have hcz74_0 : w55.cell? ⟨gb333, 0, none⟩ = some (.slice none 0 0) := (blk_cell BK333.out 0).trans rfl
        have hfz74_0 := blk_frozen BK333.out 0
        have hnb75 := NB311_302.out
        have hnc75 := NB302_311.out
        have hnb76 := NB311_320.out
        have hnc76 := NB320_311.out
        have hcz77_0 : w55.cell? ⟨gb311, 0, none⟩ = some (.slice Ao12 t307.length co12) := (blk_cell BK311.out 0).trans rfl
        have hfz77_0 := blk_frozen BK311.out 0
        go_wp2_with (first | ((with_reducible refine gate_callee (f := 21) rfl ?_); refine goesL_ (some 51) rfl rfl Try.func21 (by kernel_rfl) rfl #[.agg #[.slice Ao56 t329.length co56], .agg #[.slice Ao12 t307.length co12]] rfl z9_4_ ?_; (with_reducible refine (laws_eqTree.calls kj5 _ _ t329 _ _ t307 false _ ?side1 ?side2 ?side3 ?side4 A61.out).mono ?_); (case side1 => refine (Kd.R_reads' (e := 89) (base := w.heap.size) (ok := fun k_ => ((True ∧ some k_ ≠ (.slice Ao12 t307.length co12 : Value).ownBlock) ∧ some k_ ≠ (.slice Ao19 t316.length co19 : Value).ownBlock)) (n := t329.length) (c := co56) ?_).2.2; exact z9_10_); (case side2 => exact (Kd.R_reads' HO331.out).2.1); (case side3 => refine (Kd.R_reads' (e := 89) (base := w.heap.size) (ok := fun k_ => (some k_ ≠ (.slice Ao19 t316.length co19 : Value).ownBlock ∧ some k_ ≠ (.slice Ao56 t329.length co56 : Value).ownBlock)) (n := t307.length) (c := co12) ?_).2.2; exact z9_9_); (case side4 => exact (Kd.R_reads' HO_312000.out).2.1); rintro e w78 ⟨rfl, hb⟩; refine ⟨_, rfl, ?_⟩; have _ := A_ (Kd.R_below z9_9_ hb); have _ := A_ (Kd.R_below z9_19_ hb); have _ := A_ (Kd.R_below z9_10_ hb); have _ := A_ (blk_below (g := gb302) (o := .cells #[.int .i64 a0_0, .int .i64 a0_1, .int .i64 a0_2, .int .i64 a0_3] 58 (0, 0)) z9_23_ hb); have _ := A_ (blk_below (g := gb311) (o := .cells #[.slice Ao12 t307.length co12] 34 (0, 0)) z9_21_ hb); have _ := A_ (blk_below (g := gb320) (o := .cells #[.slice Ao19 t316.length co19] 34 (0, 0)) z9_20_ hb); have _ := A_ (blk_below (g := gb333) (o := .cells #[.slice Ao56 t329.length co56] 34 (0, 0)) z9_16_ hb); have _ := A_ (below_step z9_5_ hb); clear HO_312000 HO_321000 HO331 BK302 BK311 BK320 BK333 HB; rename_i HO_312000 HO_321000 HO331 BK302 BK311 BK320 BK333 HB; (try clear hb)))
        go_meet
        case rel => exact ⟨_, (true), z9_26_, H', ⟨(by have := HJ5.out; first | omega | exact Nat.le_refl _)⟩, ⟨z9_14_⟩, ⟨z9_13_⟩, ⟨z9_27_⟩, ⟨z9_1_⟩, ⟨z9_3_⟩, ⟨z9_6_⟩, ⟨z9_25_⟩, ⟨z9_5_⟩⟩
      case rest =>
       clear HC44
       try clear c1
       try clear c2
       try clear p2
       try clear c3
       try clear c4
       try clear c5
       try clear c6
       try clear c7
       try clear c10
       try clear c13
       try clear c20
       try clear c21
       try clear c23
       try clear c24
       try clear c25
       try clear c26
       try clear c28
       try clear c31
       try clear c32
       try clear c34
       try clear c37
       try clear c40
       try clear c40b0
       try clear c41
       try clear c41b0
       try clear c41b1
       try clear c42
       try clear c45
       try clear c46
       try clear c51
       try clear c57
       try clear c58
       try clear c59
       try clear c62
       try clear c63
       try clear c64
       try clear c65
       try clear c67
       try clear c68
       try clear c71
       try clear c72
       try clear c73
       try clear c75
       try clear c76
       try clear hcz14_0
       try clear hcz15_0
       try clear hcz15_1
       try clear hcz15_2
       try clear hcz15_3
       try clear hcz22_0
       try clear hcz27_0
       try clear hcz29_0
       try clear hcz33_0
       try clear hcz35_0
       try clear hcz47_0
       try clear hcz49_0
       try clear hcz52_0
       try clear hcz52_1
       try clear hcz52_2
       try clear hcz52_3
       try clear hcz60_0
       try clear hcz66_0
       try clear hcz69_0
       try clear hcz74_0
       try clear hcz77_0
       try clear hcz8_0
       try clear hcz8_1
       try clear hcz8_2
       try clear hcz8_3
       try clear hfz14_0
       try clear hfz15_0
       try clear hfz15_1
       try clear hfz15_2
       try clear hfz15_3
       try clear hfz22_0
       try clear hfz27_0
       try clear hfz29_0
       try clear hfz33_0
       try clear hfz35_0
       try clear hfz47_0
       try clear hfz49_0
       try clear hfz52_0
       try clear hfz52_1
       try clear hfz52_2
       try clear hfz52_3
       try clear hfz60_0
       try clear hfz66_0
       try clear hfz69_0
       try clear hfz74_0
       try clear hfz77_0
       try clear hfz8_0
       try clear hfz8_1
       try clear hfz8_2
       try clear hfz8_3
       try clear p2
       obtain ⟨kq, x57_43, rfl, HA, HJ43, HO_312000, HO_321000, HO_334000, BK302, BK311, BK320, BK333, HB⟩ := hcut
       have hl321000_43 := (Kd.R_reads' HO_321000.out).1
       rw [hl321000_43] at HO_321000
       (try simp only [hl321000_43])
       (try simp only [hl321000_43] at BK302)
       (try simp only [hl321000_43] at BK311)
       (try simp only [hl321000_43] at BK320)
       (try simp only [hl321000_43] at BK333)
       (try simp only [hl321000_43] at HO_312000)
       (try simp only [hl321000_43] at HO_334000)
       cases kq with
       | zero => exact absurd HA.out (by simp [laws_FnExactMoebiusTree.j1])
       | succ kj43 =>
        have H := HA.out
        clear HA
        simp only [laws_FnExactMoebiusTree.j1] at H
        by_cases c79 : x57_43 = true
        ·
         subst c79
         have H1 : (some false) = some true := by first | (rw [if_pos rfl] at H; exact H) | rfl
         clear H
         have H := H1
         clear H1
         exact absurd H (by decide)
        ·
         replace c79 := Bool.eq_false_iff.mpr c79
         subst c79
         have H1 : ((laws_heldTree.f kj43 t323 1).bind fun t335 => (if t335 < 0 then (some false) else (if t335 = t322 then (some true) else (some false)))) = some true := by first | (rw [if_neg (show ¬ (false = true) by decide)] at H; exact H) | rfl
         clear H
         have H := H1
         clear H1
         replace H := Option.bind_eq_some_iff.mp H
         obtain ⟨t335, A800, H⟩ := H
         try dsimp only at H
         have A80 := A_ A800
         clear A800
         by_cases c81 : t335 < 0
         ·
          rw [if_pos c81] at H
          have c81b0 := decide_eq_true c81
          clear c81
          exact absurd H (by decide)
         ·
          rw [if_neg c81] at H
          have c81b0 := decide_eq_false c81
          clear c81
          by_cases c82 : t335 = t322
          ·
           rw [if_pos c82] at H
           have c82b0 := beq_iff_eq.mpr c82
           have c82b1 := bne_eq_false_iff_eq.mpr c82
           clear c82
           clear H
           have hnb83 := NB320_302.out
           have hnc83 := NB302_320.out
           have hnb84 := NB320_311.out
           have hnc84 := NB311_320.out
           have hnb85 := NB320_333.out
           have hnc85 := NB333_320.out
           have hcz86_0 : wc.cell? ⟨gb320, 0, none⟩ = some (.slice Ao19 t323.length co19) := (blk_cell BK320.out 0).trans rfl
           have hfz86_0 := blk_frozen BK320.out 0
           go_wp2_with (first | ((with_reducible refine gate_callee (f := 31) rfl ?_); refine goesL_ (some 60) rfl rfl Try.func31 (by kernel_rfl) rfl #[.agg #[.slice Ao19 t323.length co19], .int .i64 1] rfl z9_4_ ?_; (with_reducible refine (laws_heldTree.calls kj43 _ _ t323 1 t335 _ ?side1 ?side2 A80.out).mono ?_); (case side1 => have hx_ := (Kd.R_reads' HO_321000.out).2.2; exact kc_); (case side2 => exact (Kd.R_reads' HO_321000.out).2.1); rintro e w87 ⟨rfl, hb⟩; refine ⟨_, rfl, ?_⟩; have _ := A_ (Kd.R_below z9_14_ hb); have _ := A_ (Kd.R_below z9_13_ hb); have _ := A_ (Kd.R_below (by (with_reducible repeat (first | apply Kd.R_alloc | apply Kd.R_drewN | apply Kd.R_drew)); exact HO_334000.out) hb); have _ := A_ (blk_below (g := gb302) (o := .cells #[.int .i64 a0_0, .int .i64 a0_1, .int .i64 a0_2, .int .i64 a0_3] 58 (0, 0)) z9_1_ hb); have _ := A_ (blk_below (g := gb311) (o := .cells #[.slice Ao12 t307.length co12] 34 (0, 0)) z9_3_ hb); have _ := A_ (blk_below (g := gb320) (o := .cells #[.slice Ao19 t323.length co19] 34 (0, 0)) z9_6_ hb); have _ := A_ (blk_below (g := gb333) (o := .cells #[.slice Ao56 t329.length co56] 34 (0, 0)) z9_25_ hb); have _ := A_ (below_step z9_5_ hb); clear HO_312000 HO_321000 HO_334000 BK302 BK311 BK320 BK333 HB; rename_i HO_312000 HO_321000 HO_334000 BK302 BK311 BK320 BK333 HB; (try clear hb)))
           go_ret
           exact ⟨(by first | rfl | (simp [errW_none, errW_some] <;> rfl) | (simp [*, errW_none, errW_some] <;> rfl)), z9_5_⟩
          ·
           rw [if_neg c82] at H
           have c82b0 : (t335 == t322) = false := beq_eq_false_iff_ne.mpr c82
           have c82b1 : (t335 != t322) = true := bne_iff_ne.mpr c82
           exact absurd H (by decide)
     ·
      rw [if_neg c41] at H
      have c41b0 : (t324 == t322) = false := beq_eq_false_iff_ne.mpr c41
      have c41b1 : (t324 != t322) = true := bne_iff_ne.mpr c41
      exact absurd H (by decide)
end Go.Proofs.Ytpfnohdnaocpdaa.PT

import Derived.Test.YtpfnohdnaocpdaaPTx0
import Derived.Test.YtpfnohdnaocpdaaPTleast
import Derived.Test.YtpfnohdnaocpdaaPTsLeast
import Derived.Test.YtpfnohdnaocpdaaPTvalidTree
import Derived.Test.YtpfnohdnaocpdaaPTx1
import Derived.Test.YtpfnohdnaocpdaaPTx2
import Derived.Test.YtpfnohdnaocpdaaPTx4
import Derived.Test.YtpfnohdnaocpdaaPTx5
namespace Go.Proofs.Ytpfnohdnaocpdaa.PT
open Go.RowKit Go.Proofs.YtpfnohdnaocpdaaW.PrintWords Go.Proofs.YtpfnohdnaocpdaaW.PrintLast Go.Proofs.YtpfnohdnaocpdaaW.PrintMore Go.Proofs.YtpfnohdnaocpdaaRP
attribute [local go_sem] max2_int min2_int max_two min_two max_three min_three max_four min_four Go.Proofs.YtpfnohdnaocpdaaRP.max_eight Go.Proofs.YtpfnohdnaocpdaaRP.tmod_len   -- for this text's walks alone
set_option linter.unusedVariables false
set_option linter.unusedSimpArgs false
theorem z6_1_ {P : Prop} (h : P := by (with_reducible repeat (first | refine blk_drewN ?_ _ | refine blk_drew ?_ | refine blk_alloc ?_ _)); exact BK264.out) : P := h
theorem z6_2_ {P : Prop} (h : P := by (try simp only [List.map_toArray, List.map_cons, List.map_nil]); first | done | rfl | (simp only [List.length_drop, List.length_take]; rfl)) : P := h
theorem z6_3_ {P : Prop} (h : P := by repeat (first | (with_reducible first | exact HB.out | apply below_alloc | apply pw_below_drewN | apply below_drew1 | refine below_set ?_ GE264.out | refine below_set ?_ GE265.out) | exact HB.out)) : P := h
theorem z6_4_ {P : Prop} (h : P := by repeat (first | (with_reducible first | exact HB.out | apply below_alloc | apply pw_below_drewN | apply below_drew1 | refine below_set ?_ GE264.out | refine below_set ?_ GE265.out | refine below_set ?_ GE279.out | refine below_set ?_ GE283.out) | exact HB.out)) : P := h
theorem z6_5_ {P : Prop} (h : P := by (with_reducible repeat (first | refine blk_drewN ?_ _ | refine blk_drew ?_ | refine blk_alloc ?_ _)); exact BK265.out) : P := h
theorem z6_6_ {P : Prop} (h : P := by repeat (first | (with_reducible first | exact HB.out | apply below_alloc | apply pw_below_drewN | apply below_drew1 | refine below_set ?_ GE253.out | refine below_set ?_ GE254.out) | exact HB.out)) : P := h
theorem z6_7_ {P : Prop} (h : P := by repeat (first | (with_reducible first | exact HB.out | apply below_alloc | apply pw_below_drewN | apply below_drew1) | exact HB.out)) : P := h
theorem z6_8_ {P : Prop} (h : P := by (with_reducible repeat (first | refine blk_drewN ?_ _ | refine blk_drew ?_ | refine blk_alloc ?_ _)); exact BK216.out) : P := h
theorem z6_9_ {P : Prop} (h : P := by repeat (first | (with_reducible first | exact HB.out | apply below_alloc | apply pw_below_drewN | apply below_drew1 | refine below_set ?_ GE216.out | refine below_set ?_ GE217.out) | exact HB.out)) : P := h
theorem z6_10_ {P : Prop} (h : P := by repeat (first | (with_reducible first | exact HB.out | apply below_alloc | apply pw_below_drewN | apply below_drew1 | refine below_set ?_ GE264.out) | exact HB.out)) : P := h
theorem z6_11_ {P : Prop} (h : P := by (with_reducible repeat (first | refine blk_drewN ?_ _ | refine blk_drew ?_ | refine blk_alloc ?_ _)); exact BK253.out) : P := h
theorem z6_12_ {P : Prop} (h : P := by repeat (first | (with_reducible first | exact HB.out | apply below_alloc | apply pw_below_drewN | apply below_drew1 | refine below_set ?_ GE264.out | refine below_set ?_ GE265.out | refine below_set ?_ GE279.out) | exact HB.out)) : P := h
theorem z6_13_ {P : Prop} (h : P := by repeat (first | (with_reducible first | exact HB.out | apply below_alloc | apply pw_below_drewN | apply below_drew1 | refine below_set ?_ GE216.out | refine below_set ?_ GE217.out | refine below_set ?_ GE226.out) | exact HB.out)) : P := h
theorem z6_14_ {P : Prop} (h : P := by (with_reducible repeat (first | refine blk_drewN ?_ _ | refine blk_drew ?_ | refine blk_alloc ?_ _)); exact BK217.out) : P := h
theorem z6_15_ {P : Prop} (h : P := by (with_reducible repeat (first | refine blk_drewN ?_ _ | refine blk_drew ?_ | refine blk_alloc ?_ _)); exact BK279.out) : P := h
theorem z6_16_ {P : Prop} (h : P := by (with_reducible repeat (first | refine blk_drewN ?_ _ | refine blk_drew ?_ | refine blk_alloc ?_ _)); exact BK254.out) : P := h
theorem z6_17_ {P : Prop} (h : P := by (with_reducible repeat (first | apply Kd.R_alloc | apply Kd.R_drewN | apply Kd.R_drew)); exact HO270.out) : P := h
theorem z6_18_ {P : Prop} (h : P := by (with_reducible repeat (first | refine blk_drewN ?_ _ | refine blk_drew ?_ | refine blk_alloc ?_ _)); exact BK283.out) : P := h
theorem z6_19_ {P : Prop} (h : P := by first | rfl | (simp [errW_none, errW_some] <;> rfl) | (simp [*, errW_none, errW_some] <;> rfl)) : P := h
theorem z6_20_ {P : Prop} (h : P := by (with_reducible repeat (first | apply Kd.R_alloc | apply Kd.R_drewN | apply Kd.R_drew)); exact HO_284000.out) : P := h
theorem z6_21_ {P : Prop} (h : P := by (with_reducible repeat (first | apply Kd.R_alloc | apply Kd.R_drewN | apply Kd.R_drew)); exact HO_280000.out) : P := h
theorem z6_22_ {P : Prop} (h : P := by (with_reducible repeat (first | apply Kd.R_alloc | apply Kd.R_drewN | apply Kd.R_drew)); exact HO273.out) : P := h
theorem z6_23_ {P : Prop} (h : P := by repeat (first | exact (Kd.C_below HR0_0.out HB.out) | (with_reducible refine Kd.C_alloc ?_ _) | (with_reducible refine Kd.C_drewN ?_ _) | (with_reducible refine Kd.C_drew ?_))) : P := h
theorem z6_24_ {P : Prop} (h : P := by first | rfl | (simp; done) | (simp [*]; done) | (simp [isE_]; done)) : P := h
theorem z6_25_ {P : Prop} (h : P := by repeat (first | (with_reducible first | exact HB.out | apply below_alloc | apply pw_below_drewN | apply below_drew1 | refine below_set ?_ GE253.out) | exact HB.out)) : P := h
theorem z6_26_ {P : Prop} (h : P := by repeat (first | (with_reducible first | exact HB.out | apply below_alloc | apply pw_below_drewN | apply below_drew1 | refine below_set ?_ GE216.out) | exact HB.out)) : P := h
theorem z6_27_ {P : Prop} (h : P := by (with_reducible repeat (first | apply Kd.R_alloc | apply Kd.R_drewN | apply Kd.R_drew)); exact HO288.out) : P := h
theorem z6_28_ {P : Prop} (h : P := by (with_reducible repeat (first | apply Kd.R_alloc | apply Kd.R_drewN | apply Kd.R_drew)); exact (Kd.R_mono (Kd.R_far (p := ⟨gb283, 0, none⟩) (Kd.R_types HO282.out BK283.out (by decide)) (fun _ hk => hk.2) (.slice Ao49 t280.length co49)) (fun _ h_ => h_.1))) : P := h
theorem z6_29_ {P : Prop} (h : P := by (with_reducible repeat (first | apply Kd.R_alloc | apply Kd.R_drewN | apply Kd.R_drew)); exact (Kd.R_mono (Kd.R_far (p := ⟨gb283, 0, none⟩) (Kd.R_types HO278.out BK283.out (by decide)) (fun _ hk => hk.2) (.slice Ao49 t280.length co49)) (fun _ h_ => h_.1))) : P := h
theorem z6_30_ {P : Prop} (h : P := by (with_reducible repeat (first | apply Kd.R_alloc | apply Kd.R_drewN | apply Kd.R_drew)); exact (Kd.R_mono (Kd.R_far (p := ⟨gb279, 0, none⟩) (Kd.R_types HO278.out BK279.out (by decide)) (fun _ hk => hk.2) (.slice Ao42 t276.length co42)) (fun _ h_ => h_.1))) : P := h
theorem z6_31_ {P : Prop} (h : P := by (with_reducible repeat (first | apply Kd.R_alloc | apply Kd.R_drewN | apply Kd.R_drew)); exact (Kd.R_mono (Kd.R_far (p := ⟨gb279, 0, none⟩) (Kd.R_types HO273.out BK279.out (by decide)) (fun _ hk => hk.2) (.slice Ao42 t276.length co42)) (fun _ h_ => h_.1))) : P := h
theorem z6_32_ {P : Prop} (h : P := by (with_reducible repeat (first | apply Kd.R_alloc | apply Kd.R_drewN | apply Kd.R_drew)); exact (Kd.R_mono (Kd.R_far (p := ⟨gb279, 0, none⟩) (Kd.R_types HO270.out BK279.out (by decide)) (fun _ hk => hk.2) (.slice Ao42 t276.length co42)) (fun _ h_ => h_.1))) : P := h
theorem z6_33_ {P : Prop} (h : P := by (with_reducible repeat (first | apply Kd.R_alloc | apply Kd.R_drewN | apply Kd.R_drew)); exact (Kd.R_mono (Kd.R_far (p := ⟨gb226, 0, none⟩) (Kd.R_types HO225.out BK226.out (by decide)) (fun _ hk => hk.2) (.slice Ao15 t223.length co15)) (fun _ h_ => h_.1))) : P := h
theorem z6_34_ {P : Prop} (h : P := by (with_reducible repeat (first | refine blk_drewN ?_ _ | refine blk_drew ?_ | refine blk_alloc ?_ _)); refine blk_far ?_ NB217_226.out _; (with_reducible repeat (first | refine blk_drewN ?_ _ | refine blk_drew ?_ | refine blk_alloc ?_ _)); exact BK217.out) : P := h
theorem z6_35_ {P : Prop} (h : P := by (with_reducible repeat (first | refine blk_drewN ?_ _ | refine blk_drew ?_ | refine blk_alloc ?_ _)); exact BK226.out) : P := h
theorem z6_36_ {P : Prop} (h : P := by (with_reducible repeat (first | apply Kd.R_alloc | apply Kd.R_drewN | apply Kd.R_drew)); exact HO259.out) : P := h
theorem z6_37_ {P : Prop} (h : P := by first | omega | exact Nat.le_refl _) : P := h
theorem z6_38_ {P : Prop} (h : P := by (with_reducible repeat (first | apply Kd.R_alloc | apply Kd.R_drewN | apply Kd.R_drew)); exact Kd.R_mono HO282.out (fun _ hk => hk.2)) : P := h
theorem z6_39_ {P : Prop} (h : P := by (with_reducible repeat (first | apply Kd.R_alloc | apply Kd.R_drewN | apply Kd.R_drew)); exact Kd.R_mono HO278.out (fun _ hk => hk.2)) : P := h
theorem z6_40_ {P : Prop} (h : P := by (with_reducible repeat (first | apply Kd.R_alloc | apply Kd.R_drewN | apply Kd.R_drew)); exact HO278.out) : P := h
theorem z6_41_ {P : Prop} (h : P := by (with_reducible repeat (first | apply Kd.R_alloc | apply Kd.R_drewN | apply Kd.R_drew)); exact HO225.out) : P := h
/-! ### spec_DoTheSame: function 36 -/
def spec_DoTheSame.j0 : Nat → Bool → List (S89) → List (S89) → Option (Bool × Int)
 | 0, _, _, _ => none
 | k + 1, x13, x217000, x218000 => if x13 = true then (some (false, 1)) else ((spec_l06Least.f k [(⟨x217000⟩ : S34)]).bind fun t223 => ((spec_l06Least.f k [(⟨x218000⟩ : S34)]).bind fun t228 => ((spec_l06Same.f k [(⟨t223⟩ : S34)] [(⟨t228⟩ : S34)]).bind fun t234 => (some (t234, 0)))))
def spec_DoTheSame.f (k : Nat) (l0_0 : List (S89)) (l1_0 : List (S89)) : Option (Bool × Int) := (spec_l06Ok.f k [(⟨l0_0⟩ : S34)]).bind fun t219 => (if t219 = true then ((spec_l06Ok.f k [(⟨l1_0⟩ : S34)]).bind fun t221 => (spec_DoTheSame.j0 k (!t221) l0_0 l1_0)) else (spec_DoTheSame.j0 k true l0_0 l1_0))
theorem spec_DoTheSame.mono_l : ∀ k, (∀ y0 y1 y2, LeO (spec_DoTheSame.j0 k y0 y1 y2) (spec_DoTheSame.j0 (k + 1) y0 y1 y2))
 | 0 => fun _ _ _ r h => by simp [spec_DoTheSame.j0] at h
 | k + 1 => by
  have ih0 := spec_DoTheSame.mono_l k
  ·
   intro y0 y1 y2
   unfold spec_DoTheSame.j0
   repeat' first
   | (with_reducible exact ih0 _ _ _)
   | (with_reducible exact spec_l06Least.mono _ _)
   | (with_reducible exact spec_l06Ok.mono _ _)
   | (with_reducible exact spec_l06Same.mono _ _ _)
   | (with_reducible exact LeO.refl _)
   | (with_reducible exact LeO.none _)
   | (with_reducible refine LeO.ite ?_ ?_)
   | (with_reducible refine LeO.bind ?_ (fun _ => ?_))
   | exact ih0 _ _ _
   | exact LeO.none _
   | refine LeO.ite ?_ ?_
   | refine LeO.bind ?_ (fun _ => ?_)
theorem spec_DoTheSame.mono : ∀ a0 a1 k, LeO (spec_DoTheSame.f k a0 a1) (spec_DoTheSame.f (k + 1) a0 a1) := by
 intro a0 a1 k
 have ih0 := spec_DoTheSame.mono_l k
 unfold spec_DoTheSame.f
 repeat' first
   | (with_reducible exact ih0 _ _ _)
   | (with_reducible exact spec_l06Least.mono _ _)
   | (with_reducible exact spec_l06Ok.mono _ _)
   | (with_reducible exact spec_l06Same.mono _ _ _)
   | (with_reducible exact LeO.refl _)
   | (with_reducible exact LeO.none _)
   | (with_reducible refine LeO.ite ?_ ?_)
   | (with_reducible refine LeO.bind ?_ (fun _ => ?_))
   | exact ih0 _ _ _
   | exact LeO.none _
   | refine LeO.ite ?_ ?_
   | refine LeO.bind ?_ (fun _ => ?_)
set_option maxHeartbeats 8000000 in
set_option maxRecDepth 100000 in
theorem spec_DoTheSame.calls (k : Nat) (A0_0 : Option Addr) (c0_0 : Nat) (l0_0 : List (S89)) (A1_0 : Option Addr) (c1_0 : Nat) (l1_0 : List (S89)) (r1 : Bool) (r2 : Int) (w : World) (hr0_0 : Kd.C k89 w A0_0 l0_0.length l0_0) (hc0_0 : l0_0.length ≤ c0_0) (hr1_0 : Kd.C k89 w A1_0 l1_0.length l1_0) (hc1_0 : l1_0.length ≤ c1_0) (h : spec_DoTheSame.f k l0_0 l1_0 = some (r1, r2)) :
  Calls Try.prog 36 #[.agg #[.slice A0_0 l0_0.length c0_0], .agg #[.slice A1_0 l1_0.length c1_0]] w fun e w' => e = .returned (.tuple #[.bool r1, .int .i64 r2]) ∧ Below w.heap.size w w' := by
 have hu34 := Try.underlying34
 have HR0_0 := A_ hr0_0
 have HC0_0 := A_ hc0_0
 clear hr0_0 hc0_0
 have HR1_0 := A_ hr1_0
 have HC1_0 := A_ hc1_0
 clear hr1_0 hc1_0
 have HB := A_ (Below.refl w.heap.size w)
 have H : ((spec_l06Ok.f k [(⟨l0_0⟩ : S34)]).bind fun t219 => (if t219 = true then ((spec_l06Ok.f k [(⟨l1_0⟩ : S34)]).bind fun t221 => (spec_DoTheSame.j0 k (!t221) l0_0 l1_0)) else (spec_DoTheSame.j0 k true l0_0 l1_0))) = some (r1, r2) := h
 clear h
 have HC3 := A_ H
 clear H
 go_enter Try.func36, Try.ntmps36
 go_upto_region 1 with (first | ((with_reducible refine gate_dst (N := 2) rfl ?_); refine box_event ?hg (N := 2) ?hd (cs := #[.slice A0_0 l0_0.length c0_0]) (t := 34) ?hr ?_; (case hd => rfl); (case hg => rfl); (case hr => first | (go_simp; done) | (go_simp; rfl)); intro gb216 hg w4 hbox hb; have _ := A_ (below_step z6_7_ hb); have _ := A_ (hbox); have _ := A_ ((by rw [hg]; exact (below_size z6_7_) : w.heap.size ≤ gb216)); have _ := A_ ((by rw [hg]; exact (below_size z6_7_) : w.heap.size ≤ gb216)); clear HB; rename_i HB BK216 GW216 GE216; clear hb hbox hg) | ((with_reducible refine gate_dst (N := 3) rfl ?_); refine box_event ?hg (N := 3) ?hd (cs := #[.slice A1_0 l1_0.length c1_0]) (t := 34) ?hr ?_; (case hd => rfl); (case hg => rfl); (case hr => first | (go_simp; done) | (go_simp; rfl)); intro gb217 hg w5 hbox hb; have _ := A_ (blk_below (g := gb216) (o := .cells #[.slice A0_0 l0_0.length c0_0] 34 (0, 0)) z6_8_ hb); have _ := A_ (below_step z6_26_ hb); have _ := A_ (hbox); have _ := A_ ((by rw [hg]; exact (below_size z6_26_) : w.heap.size ≤ gb217)); have _ := A_ ((by rw [hg]; exact (below_size z6_26_) : w.heap.size ≤ gb217)); have _ := A_ ((by rw [hg]; exact Nat.ne_of_lt (blk_lt (g := gb216) (o := .cells #[.slice A0_0 l0_0.length c0_0] 34 (0, 0)) z6_8_) : gb216 ≠ gb217)); have _ := A_ ((by rw [hg]; exact Nat.ne_of_gt (blk_lt (g := gb216) (o := .cells #[.slice A0_0 l0_0.length c0_0] 34 (0, 0)) z6_8_) : gb217 ≠ gb216)); clear BK216 HB; rename_i BK216 HB BK217 GW217 GE217 NB216_217 NB217_216; clear hb hbox hg))
 (try simp only [Act.put, sA_, sB_, sC_])
 go_cut [13] (fun v13 wc => ∃ (kq : Nat) (x13_2 : Bool), v13 = .bool x13_2 ∧ Aside0 (spec_DoTheSame.j0 kq x13_2 l0_0 l1_0 = some (r1, r2)) ∧ Aside0 (kq ≤ k) ∧ Aside0 (wc.heap[gb216]? = some (.cells #[(.slice A0_0 l0_0.length c0_0)] 34 (0, 0))) ∧ Aside0 (wc.heap[gb217]? = some (.cells #[(.slice A1_0 l1_0.length c1_0)] 34 (0, 0))) ∧ Aside0 (Below w.heap.size w wc))
 case first =>
  have H := HC3.out
  clear HC3
  replace H := Option.bind_eq_some_iff.mp H
  obtain ⟨t219, A60, H⟩ := H
  try dsimp only at H
  have A6 := A_ A60
  clear A60
  by_cases c7 : t219 = true
  ·
   subst c7
   have H1 : ((spec_l06Ok.f k [(⟨l1_0⟩ : S34)]).bind fun t221 => (spec_DoTheSame.j0 k (!t221) l0_0 l1_0)) = some (r1, r2) := by first | (rw [if_pos rfl] at H; exact H) | rfl
   clear H
   have H := H1
   clear H1
   replace H := Option.bind_eq_some_iff.mp H
   obtain ⟨t221, A80, H⟩ := H
   try dsimp only at H
   have A8 := A_ A80
   clear A80
   have H' := A_ H
   clear H
   go_wp2_with (first | ((with_reducible refine gate_callee (f := 66) rfl ?_); refine goesL_ (some 8) rfl rfl Try.func66 (by kernel_rfl) rfl #[.pointer (some ⟨gb216, 0, none⟩)] rfl z6_2_ ?_; (with_reducible refine (spec_l06Ok.calls k _ ([(⟨l0_0⟩ : S34)]).length [(⟨l0_0⟩ : S34)] true _ ?side1 ?side2 A6.out).mono ?_); (case side1 => refine Kd.C_block k34 (g := gb216) (cs := #[.slice A0_0 l0_0.length c0_0]) (T := 34) z6_8_ (show Kd.K k34 _ (⟨l0_0⟩ : S34) [.slice A0_0 l0_0.length c0_0] from k34_mk _ _ (by exact HC0_0.out) z6_23_) (by decide)); (case side2 => exact Nat.le_refl _); rintro e w' ⟨rfl, ⟨nd, rfl⟩⟩; refine ⟨_, rfl, ?_⟩) | (go_at_call 66; (with_reducible refine (spec_l06Ok.calls k _ ([(⟨l1_0⟩ : S34)]).length [(⟨l1_0⟩ : S34)] t221 _ ?side1 ?side2 A8.out).mono ?_); (case side1 => refine Kd.C_block k34 (g := gb217) (cs := #[.slice A1_0 l1_0.length c1_0]) (T := 34) z6_14_ (show Kd.K k34 _ (⟨l1_0⟩ : S34) [.slice A1_0 l1_0.length c1_0] from k34_mk _ _ (by exact HC1_0.out) (by repeat (first | exact (Kd.C_below HR1_0.out z6_9_) | (with_reducible refine Kd.C_alloc ?_ _) | (with_reducible refine Kd.C_drewN ?_ _) | (with_reducible refine Kd.C_drew ?_)))) (by decide)); (case side2 => exact Nat.le_refl _); rintro e w' ⟨rfl, ⟨nd, rfl⟩⟩))
   go_meet
   case rel => exact ⟨_, (!t221), z6_24_, H', ⟨z6_37_⟩, ⟨z6_8_⟩, ⟨z6_14_⟩, ⟨z6_9_⟩⟩
  ·
   replace c7 := Bool.eq_false_iff.mpr c7
   subst c7
   have H1 : (spec_DoTheSame.j0 k true l0_0 l1_0) = some (r1, r2) := by first | (rw [if_neg (show ¬ (false = true) by decide)] at H; exact H) | rfl
   clear H
   have H := H1
   clear H1
   have H' := A_ H
   clear H
   go_wp2_with (first | ((with_reducible refine gate_callee (f := 66) rfl ?_); refine goesL_ (some 8) rfl rfl Try.func66 (by kernel_rfl) rfl #[.pointer (some ⟨gb216, 0, none⟩)] rfl z6_2_ ?_; (with_reducible refine (spec_l06Ok.calls k _ ([(⟨l0_0⟩ : S34)]).length [(⟨l0_0⟩ : S34)] false _ ?side1 ?side2 A6.out).mono ?_); (case side1 => refine Kd.C_block k34 (g := gb216) (cs := #[.slice A0_0 l0_0.length c0_0]) (T := 34) z6_8_ (show Kd.K k34 _ (⟨l0_0⟩ : S34) [.slice A0_0 l0_0.length c0_0] from k34_mk _ _ (by exact HC0_0.out) z6_23_) (by decide)); (case side2 => exact Nat.le_refl _); rintro e w' ⟨rfl, ⟨nd, rfl⟩⟩; refine ⟨_, rfl, ?_⟩))
   go_meet
   case rel => exact ⟨_, (true), z6_24_, H', ⟨z6_37_⟩, ⟨z6_8_⟩, ⟨z6_14_⟩, ⟨z6_9_⟩⟩
 case rest =>
  clear HC3
  try clear c1
  try clear p2
  try clear c3
  try clear c6
  try clear c7
  obtain ⟨kq, x13_2, rfl, HA, HJ2, BK216, BK217, HB⟩ := hcut
  cases kq with
  | zero => exact absurd HA.out (by simp [spec_DoTheSame.j0])
  | succ kj2 =>
   have H := HA.out
   clear HA
   simp only [spec_DoTheSame.j0] at H
   by_cases c9 : x13_2 = true
   ·
    subst c9
    have H1 : (some (false, 1)) = some (r1, r2) := by first | (rw [if_pos rfl] at H; exact H) | rfl
    clear H
    have H := H1
    clear H1
    simp only [Option.some.injEq, Prod.mk.injEq] at H
    obtain ⟨rfl, rfl⟩ := H
    go_wp2
    go_ret2
    exact ⟨z6_19_, z6_9_⟩
   ·
    replace c9 := Bool.eq_false_iff.mpr c9
    subst c9
    have H1 : ((spec_l06Least.f kj2 [(⟨l0_0⟩ : S34)]).bind fun t223 => ((spec_l06Least.f kj2 [(⟨l1_0⟩ : S34)]).bind fun t228 => ((spec_l06Same.f kj2 [(⟨t223⟩ : S34)] [(⟨t228⟩ : S34)]).bind fun t234 => (some (t234, 0))))) = some (r1, r2) := by first | (rw [if_neg (show ¬ (false = true) by decide)] at H; exact H) | rfl
    clear H
    have H := H1
    clear H1
    replace H := Option.bind_eq_some_iff.mp H
    obtain ⟨t223, A100, H⟩ := H
    try dsimp only at H
    have A10 := A_ A100
    clear A100
    replace H := Option.bind_eq_some_iff.mp H
    obtain ⟨t228, A110, H⟩ := H
    try dsimp only at H
    have A11 := A_ A110
    clear A110
    replace H := Option.bind_eq_some_iff.mp H
    obtain ⟨t234, A120, H⟩ := H
    try dsimp only at H
    have A12 := A_ A120
    clear A120
    simp only [Option.some.injEq, Prod.mk.injEq] at H
    obtain ⟨rfl, rfl⟩ := H
    go_wp2_with (first | ((with_reducible refine gate_callee (f := 77) rfl ?_); refine goesL_ (some 14) rfl rfl Try.func77 (by kernel_rfl) rfl #[.pointer (some ⟨gb216, 0, none⟩)] rfl z6_2_ ?_; (with_reducible refine (spec_l06Least.calls kj2 _ ([(⟨l0_0⟩ : S34)]).length [(⟨l0_0⟩ : S34)] t223 _ ?side1 ?side2 A10.out).mono ?_); (case side1 => refine Kd.C_block k34 (g := gb216) (cs := #[.slice A0_0 l0_0.length c0_0]) (T := 34) z6_8_ (show Kd.K k34 _ (⟨l0_0⟩ : S34) [.slice A0_0 l0_0.length c0_0] from k34_mk _ _ (by exact HC0_0.out) z6_23_) (by decide)); (case side2 => exact Nat.le_refl _); rintro e w13 ⟨v224, rfl, ho0, hb⟩; refine ⟨_, rfl, ?_⟩; have _ := A_ (Kd.R_lower ho0 (below_size z6_9_)); have _ := A_ (blk_below (g := gb216) (o := .cells #[.slice A0_0 l0_0.length c0_0] 34 (0, 0)) z6_8_ hb); have _ := A_ (blk_below (g := gb217) (o := .cells #[.slice A1_0 l1_0.length c1_0] 34 (0, 0)) z6_14_ hb); have _ := A_ (below_step z6_9_ hb); clear BK216 BK217 HB; rename_i HO225 BK216 BK217 HB; (try clear hb); (try clear ho0)) | ((with_reducible refine gate_dst (N := 6) rfl ?_); refine box_event ?hg (N := 6) ?hd (cs := #[.slice none 0 0]) (t := 34) ?hr ?_; (case hd => rfl); (case hg => rfl); (case hr => first | (go_simp; done) | (go_simp; rfl)); intro gb226 hg w14 hbox hb; have _ := A_ (Kd.R_below z6_41_ hb); have _ := A_ (blk_below (g := gb216) (o := .cells #[.slice A0_0 l0_0.length c0_0] 34 (0, 0)) z6_8_ hb); have _ := A_ (blk_below (g := gb217) (o := .cells #[.slice A1_0 l1_0.length c1_0] 34 (0, 0)) z6_14_ hb); have _ := A_ (below_step z6_9_ hb); have _ := A_ (hbox); have _ := A_ ((by rw [hg]; exact (below_size z6_9_) : w.heap.size ≤ gb226)); have _ := A_ ((by rw [hg]; exact (below_size z6_9_) : w.heap.size ≤ gb226)); have _ := A_ ((by rw [hg]; exact Nat.ne_of_lt (blk_lt (g := gb216) (o := .cells #[.slice A0_0 l0_0.length c0_0] 34 (0, 0)) z6_8_) : gb216 ≠ gb226)); have _ := A_ ((by rw [hg]; exact Nat.ne_of_gt (blk_lt (g := gb216) (o := .cells #[.slice A0_0 l0_0.length c0_0] 34 (0, 0)) z6_8_) : gb226 ≠ gb216)); have _ := A_ ((by rw [hg]; exact Nat.ne_of_lt (blk_lt (g := gb217) (o := .cells #[.slice A1_0 l1_0.length c1_0] 34 (0, 0)) z6_14_) : gb217 ≠ gb226)); have _ := A_ ((by rw [hg]; exact Nat.ne_of_gt (blk_lt (g := gb217) (o := .cells #[.slice A1_0 l1_0.length c1_0] 34 (0, 0)) z6_14_) : gb226 ≠ gb217)); clear HO225 BK216 BK217 HB; rename_i HO225 BK216 BK217 HB BK226 GW226 GE226 NB216_226 NB226_216 NB217_226 NB226_217; clear hb hbox hg; obtain ⟨Ao15, co15, eo15⟩ := Kd.R_slice HO225.out; subst eo15; have hnb16 := NB226_216.out; have hnc16 := NB216_226.out; have hnb17 := NB226_217.out; have hnc17 := NB217_226.out; have hcz18_0 : w14.cell? ⟨gb226, 0, none⟩ = some (.slice none 0 0) := (blk_cell BK226.out 0).trans rfl; have hfz18_0 := blk_frozen BK226.out 0) | ((with_reducible refine gate_callee (f := 77) rfl ?_); refine goesL_ (some 15) rfl rfl Try.func77 (by kernel_rfl) rfl #[.pointer (some ⟨gb217, 0, none⟩)] rfl z6_2_ ?_; (with_reducible refine (spec_l06Least.calls kj2 _ ([(⟨l1_0⟩ : S34)]).length [(⟨l1_0⟩ : S34)] t228 _ ?side1 ?side2 A11.out).mono ?_); (case side1 => refine Kd.C_block k34 (g := gb217) (cs := #[.slice A1_0 l1_0.length c1_0]) (T := 34) z6_34_ (show Kd.K k34 _ (⟨l1_0⟩ : S34) [.slice A1_0 l1_0.length c1_0] from k34_mk _ _ (by exact HC1_0.out) (by exact Kd.C_below HR1_0.out z6_13_)) (by decide)); (case side2 => exact Nat.le_refl _); rintro e w19 ⟨v229, rfl, ho0, hb⟩; refine ⟨_, rfl, ?_⟩; have _ := A_ (Kd.R_elder' z6_33_ (Kd.R_base ho0) hb); have _ := A_ (Kd.R_lower (Kd.R_new' ho0 (Kd.R_lt z6_33_)) (below_size z6_13_)); have _ := A_ (blk_below (g := gb216) (o := .cells #[.slice A0_0 l0_0.length c0_0] 34 (0, 0)) (by (with_reducible repeat (first | refine blk_drewN ?_ _ | refine blk_drew ?_ | refine blk_alloc ?_ _)); refine blk_far ?_ NB216_226.out _; (with_reducible repeat (first | refine blk_drewN ?_ _ | refine blk_drew ?_ | refine blk_alloc ?_ _)); exact BK216.out) hb); have _ := A_ (blk_below (g := gb217) (o := .cells #[.slice A1_0 l1_0.length c1_0] 34 (0, 0)) z6_34_ hb); have _ := A_ (blk_below (g := gb226) (o := .cells #[.slice Ao15 t223.length co15] 34 (0, 0)) (by (with_reducible repeat (first | refine blk_drewN ?_ _ | refine blk_drew ?_ | refine blk_alloc ?_ _)); refine blk_put (cs := #[.slice none 0 0]) ?_ 0 _ rfl; (with_reducible repeat (first | refine blk_drewN ?_ _ | refine blk_drew ?_ | refine blk_alloc ?_ _)); exact BK226.out) hb); have _ := A_ (below_step z6_13_ hb); clear HO225 BK216 BK217 BK226 HB; rename_i HO225 HO230 BK216 BK217 BK226 HB; (try clear hb); (try clear ho0)) | ((with_reducible refine gate_dst (N := 7) rfl ?_); refine box_event ?hg (N := 7) ?hd (cs := #[.slice none 0 0]) (t := 34) ?hr ?_; (case hd => rfl); (case hg => rfl); (case hr => first | (go_simp; done) | (go_simp; rfl)); intro gb231 hg w20 hbox hb; have _ := A_ (Kd.R_below z6_41_ hb); have _ := A_ (Kd.R_below (by (with_reducible repeat (first | apply Kd.R_alloc | apply Kd.R_drewN | apply Kd.R_drew)); exact HO230.out) hb); have _ := A_ (blk_below (g := gb216) (o := .cells #[.slice A0_0 l0_0.length c0_0] 34 (0, 0)) z6_8_ hb); have _ := A_ (blk_below (g := gb217) (o := .cells #[.slice A1_0 l1_0.length c1_0] 34 (0, 0)) z6_14_ hb); have _ := A_ (blk_below (g := gb226) (o := .cells #[.slice Ao15 t223.length co15] 34 (0, 0)) z6_35_ hb); have _ := A_ (below_step z6_13_ hb); have _ := A_ (hbox); have _ := A_ ((by rw [hg]; exact (below_size z6_13_) : w.heap.size ≤ gb231)); have _ := A_ ((by rw [hg]; exact (below_size z6_13_) : w.heap.size ≤ gb231)); have _ := A_ ((by rw [hg]; exact Nat.ne_of_lt (blk_lt (g := gb216) (o := .cells #[.slice A0_0 l0_0.length c0_0] 34 (0, 0)) z6_8_) : gb216 ≠ gb231)); have _ := A_ ((by rw [hg]; exact Nat.ne_of_gt (blk_lt (g := gb216) (o := .cells #[.slice A0_0 l0_0.length c0_0] 34 (0, 0)) z6_8_) : gb231 ≠ gb216)); have _ := A_ ((by rw [hg]; exact Nat.ne_of_lt (blk_lt (g := gb217) (o := .cells #[.slice A1_0 l1_0.length c1_0] 34 (0, 0)) z6_14_) : gb217 ≠ gb231)); have _ := A_ ((by rw [hg]; exact Nat.ne_of_gt (blk_lt (g := gb217) (o := .cells #[.slice A1_0 l1_0.length c1_0] 34 (0, 0)) z6_14_) : gb231 ≠ gb217)); have _ := A_ ((by rw [hg]; exact Nat.ne_of_lt (blk_lt (g := gb226) (o := .cells #[.slice Ao15 t223.length co15] 34 (0, 0)) z6_35_) : gb226 ≠ gb231)); have _ := A_ ((by rw [hg]; exact Nat.ne_of_gt (blk_lt (g := gb226) (o := .cells #[.slice Ao15 t223.length co15] 34 (0, 0)) z6_35_) : gb231 ≠ gb226)); clear HO225 HO230 BK216 BK217 BK226 HB; rename_i HO225 HO230 BK216 BK217 BK226 HB BK231 GW231 GE231 NB216_231 NB231_216 NB217_231 NB231_217 NB226_231 NB231_226; clear hb hbox hg; obtain ⟨Ao21, co21, eo21⟩ := Kd.R_slice HO230.out; subst eo21; have hnb22 := NB231_216.out; have hnc22 := NB216_231.out; have hnb23 := NB231_217.out; have hnc23 := NB217_231.out; have hnb24 := NB231_226.out; have hnc24 := NB226_231.out; have hcz25_0 : w20.cell? ⟨gb231, 0, none⟩ = some (.slice none 0 0) := (blk_cell BK231.out 0).trans rfl; have hfz25_0 := blk_frozen BK231.out 0) | ((with_reducible refine gate_callee (f := 78) rfl ?_); refine goesL_ (some 16) rfl rfl Try.func78 (by kernel_rfl) rfl #[.pointer (some ⟨gb226, 0, none⟩), .pointer (some ⟨gb231, 0, none⟩)] rfl z6_2_ ?_; (with_reducible refine (spec_l06Same.calls kj2 _ ([(⟨t223⟩ : S34)]).length [(⟨t223⟩ : S34)] _ ([(⟨t228⟩ : S34)]).length [(⟨t228⟩ : S34)] t234 _ ?side1 ?side2 ?side3 ?side4 A12.out).mono ?_); (case side1 => refine Kd.C_block k34 (g := gb226) (cs := #[.slice Ao15 t223.length co15]) (T := 34) (by (with_reducible repeat (first | refine blk_drewN ?_ _ | refine blk_drew ?_ | refine blk_alloc ?_ _)); refine blk_far ?_ NB226_231.out _; (with_reducible repeat (first | refine blk_drewN ?_ _ | refine blk_drew ?_ | refine blk_alloc ?_ _)); exact BK226.out) (show Kd.K k34 _ (⟨t223⟩ : S34) [.slice Ao15 t223.length co15] from k34_mk _ _ (by exact (Kd.R_reads' HO225.out).2.1) (by refine (Kd.R_reads' (e := 89) (base := w.heap.size) (ok := fun k_ => (True ∧ some k_ ≠ (.slice Ao21 t228.length co21 : Value).ownBlock)) (n := t223.length) (c := co15) ?_).2.2; exact (by (with_reducible repeat (first | apply Kd.R_alloc | apply Kd.R_drewN | apply Kd.R_drew)); exact (Kd.R_mono (Kd.R_far (p := ⟨gb231, 0, none⟩) (Kd.R_types HO225.out BK231.out (by decide)) (fun _ hk => hk.2) (.slice Ao21 t228.length co21)) (fun _ h_ => h_.1))))) (by decide)); (case side2 => exact Nat.le_refl _); (case side3 => refine Kd.C_block k34 (g := gb231) (cs := #[.slice Ao21 t228.length co21]) (T := 34) (by (with_reducible repeat (first | refine blk_drewN ?_ _ | refine blk_drew ?_ | refine blk_alloc ?_ _)); refine blk_put (cs := #[.slice none 0 0]) ?_ 0 _ rfl; (with_reducible repeat (first | refine blk_drewN ?_ _ | refine blk_drew ?_ | refine blk_alloc ?_ _)); exact BK231.out) (show Kd.K k34 _ (⟨t228⟩ : S34) [.slice Ao21 t228.length co21] from k34_mk _ _ (by exact (Kd.R_reads' HO230.out).2.1) (by refine (Kd.R_reads' (e := 89) (base := w.heap.size) (ok := fun k_ => (True ∧ some k_ ≠ (.slice Ao15 t223.length co15 : Value).ownBlock)) (n := t228.length) (c := co21) ?_).2.2; exact (by (with_reducible repeat (first | apply Kd.R_alloc | apply Kd.R_drewN | apply Kd.R_drew)); exact (Kd.R_mono (Kd.R_far (p := ⟨gb231, 0, none⟩) (Kd.R_types HO230.out BK231.out (by decide)) (fun _ hk => hk.2) (.slice Ao21 t228.length co21)) (fun _ h_ => h_.1))))) (by decide)); (case side4 => exact Nat.le_refl _); rintro e w' ⟨rfl, ⟨nd, rfl⟩⟩; refine ⟨_, rfl, ?_⟩))
    go_ret2
    exact ⟨z6_19_, (by repeat (first | (with_reducible first | exact HB.out | apply below_alloc | apply pw_below_drewN | apply below_drew1 | refine below_set ?_ GE216.out | refine below_set ?_ GE217.out | refine below_set ?_ GE226.out | refine below_set ?_ GE231.out) | exact HB.out))⟩
/-! ### impl_DoTheSame: function 37 -/
def impl_DoTheSame.j0 : Nat → Bool → List (S89) → List (S89) → Option (Bool × Int)
 | 0, _, _, _ => none
 | k + 1, x13, x254000, x255000 => if x13 = true then (some (false, 1)) else ((impl_least.f k x254000).bind fun t257 => ((impl_least.f k x255000).bind fun t260 => ((impl_SameTree.f k t257 t260).bind fun t263 => (some (t263, 0)))))
def impl_DoTheSame.f (k : Nat) (l0_0 : List (S89)) (l1_0 : List (S89)) : Option (Bool × Int) := (impl_ValidTree.f l0_0).bind fun t255 => (if t255 = true then ((impl_ValidTree.f l1_0).bind fun t256 => (impl_DoTheSame.j0 k (!t256) l0_0 l1_0)) else (impl_DoTheSame.j0 k true l0_0 l1_0))
theorem impl_DoTheSame.mono_l : ∀ k, (∀ y0 y1 y2, LeO (impl_DoTheSame.j0 k y0 y1 y2) (impl_DoTheSame.j0 (k + 1) y0 y1 y2))
 | 0 => fun _ _ _ r h => by simp [impl_DoTheSame.j0] at h
 | k + 1 => by
  have ih0 := impl_DoTheSame.mono_l k
  ·
   intro y0 y1 y2
   unfold impl_DoTheSame.j0
   repeat' first
   | (with_reducible exact ih0 _ _ _)
   | (with_reducible exact impl_SameTree.mono _ _ _)
   | (with_reducible exact impl_least.mono _ _)
   | (with_reducible exact LeO.refl _)
   | (with_reducible exact LeO.none _)
   | (with_reducible refine LeO.ite ?_ ?_)
   | (with_reducible refine LeO.bind ?_ (fun _ => ?_))
   | exact ih0 _ _ _
   | exact LeO.none _
   | refine LeO.ite ?_ ?_
   | refine LeO.bind ?_ (fun _ => ?_)
theorem impl_DoTheSame.mono : ∀ a0 a1 k, LeO (impl_DoTheSame.f k a0 a1) (impl_DoTheSame.f (k + 1) a0 a1) := by
 intro a0 a1 k
 have ih0 := impl_DoTheSame.mono_l k
 unfold impl_DoTheSame.f
 repeat' first
   | (with_reducible exact ih0 _ _ _)
   | (with_reducible exact impl_SameTree.mono _ _ _)
   | (with_reducible exact impl_least.mono _ _)
   | (with_reducible exact LeO.refl _)
   | (with_reducible exact LeO.none _)
   | (with_reducible refine LeO.ite ?_ ?_)
   | (with_reducible refine LeO.bind ?_ (fun _ => ?_))
   | exact ih0 _ _ _
   | exact LeO.none _
   | refine LeO.ite ?_ ?_
   | refine LeO.bind ?_ (fun _ => ?_)
set_option maxHeartbeats 8000000 in
set_option maxRecDepth 100000 in
theorem impl_DoTheSame.calls (k : Nat) (A0_0 : Option Addr) (c0_0 : Nat) (l0_0 : List (S89)) (A1_0 : Option Addr) (c1_0 : Nat) (l1_0 : List (S89)) (r1 : Bool) (r2 : Int) (w : World) (hr0_0 : Kd.C k89 w A0_0 l0_0.length l0_0) (hc0_0 : l0_0.length ≤ c0_0) (hr1_0 : Kd.C k89 w A1_0 l1_0.length l1_0) (hc1_0 : l1_0.length ≤ c1_0) (h : impl_DoTheSame.f k l0_0 l1_0 = some (r1, r2)) :
  Calls Try.prog 37 #[.agg #[.slice A0_0 l0_0.length c0_0], .agg #[.slice A1_0 l1_0.length c1_0]] w fun e w' => e = .returned (.tuple #[.bool r1, .int .i64 r2]) ∧ Below w.heap.size w w' := by
 have hu34 := Try.underlying34
 have HR0_0 := A_ hr0_0
 have HC0_0 := A_ hc0_0
 clear hr0_0 hc0_0
 have HR1_0 := A_ hr1_0
 have HC1_0 := A_ hc1_0
 clear hr1_0 hc1_0
 have HB := A_ (Below.refl w.heap.size w)
 have H : ((impl_ValidTree.f l0_0).bind fun t255 => (if t255 = true then ((impl_ValidTree.f l1_0).bind fun t256 => (impl_DoTheSame.j0 k (!t256) l0_0 l1_0)) else (impl_DoTheSame.j0 k true l0_0 l1_0))) = some (r1, r2) := h
 clear h
 have HC3 := A_ H
 clear H
 go_enter Try.func37, Try.ntmps37
 go_upto_region 1 with (first | ((with_reducible refine gate_dst (N := 2) rfl ?_); refine box_event ?hg (N := 2) ?hd (cs := #[.slice A0_0 l0_0.length c0_0]) (t := 34) ?hr ?_; (case hd => rfl); (case hg => rfl); (case hr => first | (go_simp; done) | (go_simp; rfl)); intro gb253 hg w4 hbox hb; have _ := A_ (below_step z6_7_ hb); have _ := A_ (hbox); have _ := A_ ((by rw [hg]; exact (below_size z6_7_) : w.heap.size ≤ gb253)); have _ := A_ ((by rw [hg]; exact (below_size z6_7_) : w.heap.size ≤ gb253)); clear HB; rename_i HB BK253 GW253 GE253; clear hb hbox hg) | ((with_reducible refine gate_dst (N := 3) rfl ?_); refine box_event ?hg (N := 3) ?hd (cs := #[.slice A1_0 l1_0.length c1_0]) (t := 34) ?hr ?_; (case hd => rfl); (case hg => rfl); (case hr => first | (go_simp; done) | (go_simp; rfl)); intro gb254 hg w5 hbox hb; have _ := A_ (blk_below (g := gb253) (o := .cells #[.slice A0_0 l0_0.length c0_0] 34 (0, 0)) z6_11_ hb); have _ := A_ (below_step z6_25_ hb); have _ := A_ (hbox); have _ := A_ ((by rw [hg]; exact (below_size z6_25_) : w.heap.size ≤ gb254)); have _ := A_ ((by rw [hg]; exact (below_size z6_25_) : w.heap.size ≤ gb254)); have _ := A_ ((by rw [hg]; exact Nat.ne_of_lt (blk_lt (g := gb253) (o := .cells #[.slice A0_0 l0_0.length c0_0] 34 (0, 0)) z6_11_) : gb253 ≠ gb254)); have _ := A_ ((by rw [hg]; exact Nat.ne_of_gt (blk_lt (g := gb253) (o := .cells #[.slice A0_0 l0_0.length c0_0] 34 (0, 0)) z6_11_) : gb254 ≠ gb253)); clear BK253 HB; rename_i BK253 HB BK254 GW254 GE254 NB253_254 NB254_253; clear hb hbox hg))
 (try simp only [Act.put, sA_, sB_, sC_])
 go_cut [13] (fun v13 wc => ∃ (kq : Nat) (x13_2 : Bool), v13 = .bool x13_2 ∧ Aside0 (impl_DoTheSame.j0 kq x13_2 l0_0 l1_0 = some (r1, r2)) ∧ Aside0 (kq ≤ k) ∧ Aside0 (wc.heap[gb253]? = some (.cells #[(.slice A0_0 l0_0.length c0_0)] 34 (0, 0))) ∧ Aside0 (wc.heap[gb254]? = some (.cells #[(.slice A1_0 l1_0.length c1_0)] 34 (0, 0))) ∧ Aside0 (Below w.heap.size w wc))
 case first =>
  have H := HC3.out
  clear HC3
  replace H := Option.bind_eq_some_iff.mp H
  obtain ⟨t255, A60, H⟩ := H
  try dsimp only at H
  have A6 := A_ A60
  clear A60
  by_cases c7 : t255 = true
  ·
   subst c7
   have H1 : ((impl_ValidTree.f l1_0).bind fun t256 => (impl_DoTheSame.j0 k (!t256) l0_0 l1_0)) = some (r1, r2) := by first | (rw [if_pos rfl] at H; exact H) | rfl
   clear H
   have H := H1
   clear H1
   replace H := Option.bind_eq_some_iff.mp H
   obtain ⟨t256, A80, H⟩ := H
   try dsimp only at H
   have A8 := A_ A80
   clear A80
   have H' := A_ H
   clear H
   have hnb9 := NB253_254.out
   have hnc9 := NB254_253.out
   have hcz10_0 : w5.cell? ⟨gb253, 0, none⟩ = some (.slice A0_0 l0_0.length c0_0) := (blk_cell BK253.out 0).trans rfl
   have hfz10_0 := blk_frozen BK253.out 0
   go_wp2_with (first | ((with_reducible refine gate_callee (f := 60) rfl ?_); refine goesL_ (some 7) rfl rfl Try.func60 (by kernel_rfl) rfl #[.agg #[.slice A0_0 l0_0.length c0_0]] rfl z6_2_ ?_; (with_reducible refine (impl_ValidTree.calls _ _ l0_0 true _ ?side1 ?side2 A6.out).mono ?_); (case side1 => have hx_ := (Kd.C_below HR0_0.out HB.out); exact kc_); (case side2 => exact HC0_0.out); rintro e w11 ⟨rfl, hb⟩; refine ⟨_, rfl, ?_⟩; have _ := A_ (blk_below (g := gb253) (o := .cells #[.slice A0_0 l0_0.length c0_0] 34 (0, 0)) z6_11_ hb); have _ := A_ (blk_below (g := gb254) (o := .cells #[.slice A1_0 l1_0.length c1_0] 34 (0, 0)) z6_16_ hb); have _ := A_ (below_step z6_6_ hb); clear BK253 BK254 HB; rename_i BK253 BK254 HB; (try clear hb); have hcz12_0 : w11.cell? ⟨gb254, 0, none⟩ = some (.slice A1_0 l1_0.length c1_0) := (blk_cell BK254.out 0).trans rfl; have hfz12_0 := blk_frozen BK254.out 0) | (go_at_call 60; (with_reducible refine (impl_ValidTree.calls _ _ l1_0 t256 _ ?side1 ?side2 A8.out).mono ?_); (case side1 => have hx_ := (Kd.C_below HR1_0.out HB.out); exact kc_); (case side2 => exact HC1_0.out); rintro e w13 ⟨rfl, hb⟩; have _ := A_ (blk_below (g := gb253) (o := .cells #[.slice A0_0 l0_0.length c0_0] 34 (0, 0)) z6_11_ hb); have _ := A_ (blk_below (g := gb254) (o := .cells #[.slice A1_0 l1_0.length c1_0] 34 (0, 0)) z6_16_ hb); have _ := A_ (below_step z6_6_ hb); clear BK253 BK254 HB; rename_i BK253 BK254 HB; (try clear hb)))
   go_meet
   case rel => exact ⟨_, (!t256), z6_24_, H', ⟨z6_37_⟩, ⟨z6_11_⟩, ⟨z6_16_⟩, ⟨z6_6_⟩⟩
  ·
   replace c7 := Bool.eq_false_iff.mpr c7
   subst c7
   have H1 : (impl_DoTheSame.j0 k true l0_0 l1_0) = some (r1, r2) := by first | (rw [if_neg (show ¬ (false = true) by decide)] at H; exact H) | rfl
   clear H
   have H := H1
   clear H1
   have H' := A_ H
   clear H
   have hnb14 := NB253_254.out
   have hnc14 := NB254_253.out
   have hcz15_0 : w5.cell? ⟨gb253, 0, none⟩ = some (.slice A0_0 l0_0.length c0_0) := (blk_cell BK253.out 0).trans rfl
   have hfz15_0 := blk_frozen BK253.out 0
   go_wp2_with (first | ((with_reducible refine gate_callee (f := 60) rfl ?_); refine goesL_ (some 7) rfl rfl Try.func60 (by kernel_rfl) rfl #[.agg #[.slice A0_0 l0_0.length c0_0]] rfl z6_2_ ?_; (with_reducible refine (impl_ValidTree.calls _ _ l0_0 false _ ?side1 ?side2 A6.out).mono ?_); (case side1 => have hx_ := (Kd.C_below HR0_0.out HB.out); exact kc_); (case side2 => exact HC0_0.out); rintro e w16 ⟨rfl, hb⟩; refine ⟨_, rfl, ?_⟩; have _ := A_ (blk_below (g := gb253) (o := .cells #[.slice A0_0 l0_0.length c0_0] 34 (0, 0)) z6_11_ hb); have _ := A_ (blk_below (g := gb254) (o := .cells #[.slice A1_0 l1_0.length c1_0] 34 (0, 0)) z6_16_ hb); have _ := A_ (below_step z6_6_ hb); clear BK253 BK254 HB; rename_i BK253 BK254 HB; (try clear hb)))
   go_meet
   case rel => exact ⟨_, (true), z6_24_, H', ⟨z6_37_⟩, ⟨z6_11_⟩, ⟨z6_16_⟩, ⟨z6_6_⟩⟩
 case rest =>
  clear HC3
  try clear c1
  try clear p2
  try clear c3
  try clear c6
  try clear c7
  try clear c9
  try clear c14
  try clear hcz10_0
  try clear hcz12_0
  try clear hcz15_0
  try clear hfz10_0
  try clear hfz12_0
  try clear hfz15_0
  obtain ⟨kq, x13_2, rfl, HA, HJ2, BK253, BK254, HB⟩ := hcut
  cases kq with
  | zero => exact absurd HA.out (by simp [impl_DoTheSame.j0])
  | succ kj2 =>
   have H := HA.out
   clear HA
   simp only [impl_DoTheSame.j0] at H
   by_cases c17 : x13_2 = true
   ·
    subst c17
    have H1 : (some (false, 1)) = some (r1, r2) := by first | (rw [if_pos rfl] at H; exact H) | rfl
    clear H
    have H := H1
    clear H1
    simp only [Option.some.injEq, Prod.mk.injEq] at H
    obtain ⟨rfl, rfl⟩ := H
    go_wp2
    go_ret2
    exact ⟨z6_19_, z6_6_⟩
   ·
    replace c17 := Bool.eq_false_iff.mpr c17
    subst c17
    have H1 : ((impl_least.f kj2 l0_0).bind fun t257 => ((impl_least.f kj2 l1_0).bind fun t260 => ((impl_SameTree.f kj2 t257 t260).bind fun t263 => (some (t263, 0))))) = some (r1, r2) := by first | (rw [if_neg (show ¬ (false = true) by decide)] at H; exact H) | rfl
    clear H
    have H := H1
    clear H1
    replace H := Option.bind_eq_some_iff.mp H
    obtain ⟨t257, A180, H⟩ := H
    try dsimp only at H
    have A18 := A_ A180
    clear A180
    replace H := Option.bind_eq_some_iff.mp H
    obtain ⟨t260, A190, H⟩ := H
    try dsimp only at H
    have A19 := A_ A190
    clear A190
    replace H := Option.bind_eq_some_iff.mp H
    obtain ⟨t263, A200, H⟩ := H
    try dsimp only at H
    have A20 := A_ A200
    clear A200
    simp only [Option.some.injEq, Prod.mk.injEq] at H
    obtain ⟨rfl, rfl⟩ := H
    try go_wp2
    have _ := A_ (blk_drew BK253.out)
    have _ := A_ (blk_drew BK254.out)
    have _ := A_ (below_drew1 HB.out)
    clear BK253 BK254 HB
    rename_i BK253 BK254 HB
    refine start_ (n := 7) (S := fun w' => w'.cell? ⟨gb253, 0, none⟩ = some (.slice A0_0 l0_0.length c0_0) ∧ w'.cell? ⟨gb254, 0, none⟩ = some (.slice A1_0 l1_0.length c1_0)) (ds := []) #[false, false, false, false, false, false, false] (by kernel_rfl) rfl rfl ⟨(blk_cell BK253.out 0).trans rfl, (blk_cell BK254.out 0).trans rfl⟩ (fun hHeld => ?_)
    generalize wc.drew = w21 at BK253 BK254 HB hHeld ⊢
    refine take_ (i := 0) (N := some 14) (v := ?_) (a' := ?_) #[true, false, false, false, false, false, false] rfl rfl (by kernel_rfl) (fun _ _ _ h => h) (Or.inl ⟨by rfl, ?_⟩) hHeld ?_ ?_
    rotate_left
    ·
     rintro w' ⟨s0, s1⟩
     go_simp
     with_reducible rfl
    rotate_left
    ·
     simp only [Act.put, sA_, sB_, sC_, i64_w, i32_w]
     rfl
    refine take_ (i := 2) (N := some 16) (v := ?_) (a' := ?_) #[true, false, true, false, false, false, false] rfl rfl (by kernel_rfl) (fun _ _ _ h => h) (Or.inl ⟨by rfl, ?_⟩) hHeld ?_ ?_
    rotate_left
    ·
     rintro w' ⟨s0, s1⟩
     go_simp
     with_reducible rfl
    rotate_left
    ·
     simp only [Act.put, sA_, sB_, sC_, i64_w, i32_w]
     rfl
    refine one_ (i := 1) (N := some 15) #[true, true, true, false, false, false, false] rfl rfl (by kernel_rfl) (by decide) (fun K hK => ?_)
    refine goes_ Try.func80 (by kernel_rfl) rfl #[.agg #[.slice A0_0 l0_0.length c0_0]] (by rfl) rfl rfl z6_2_ ?_
    with_reducible refine (impl_least.calls kj2 _ _ l0_0 t257 _ ?side1 ?side2 A18.out).mono ?_
    (case side1 => have hx_ := (Kd.C_below HR0_0.out HB.out); exact kc_)
    (case side2 => exact HC0_0.out)
    rintro e w22 ⟨v258, rfl, ho0, hb⟩
    refine ⟨_, rfl, ?_⟩
    have _ := A_ (Kd.R_lower ho0 (below_size z6_6_))
    have _ := A_ (blk_below (g := gb253) (o := .cells #[.slice A0_0 l0_0.length c0_0] 34 (0, 0)) z6_11_ hb)
    have _ := A_ (blk_below (g := gb254) (o := .cells #[.slice A1_0 l1_0.length c1_0] 34 (0, 0)) z6_16_ hb)
    have _ := A_ (below_step z6_6_ hb)
    clear BK253 BK254 HB
    rename_i HO259 BK253 BK254 HB
    (try clear hb)
    (try clear hb2)
    (try clear hk)
    (try clear hi)
    (try clear ho0)
    refine hK.out _ _ ⟨(blk_cell BK253.out 0).trans rfl, (blk_cell BK254.out 0).trans rfl⟩ (fun hHeld => ?_)
    clear hK K
    refine norm_ (a' := ?_) ?_ ?_
    rotate_left
    ·
     show Act.put _ (some 15) _ = _
     simp only [Act.put, sA_, sB_, sC_, i64_w, i32_w]
     rfl
    refine one_ (i := 3) (N := some 17) #[true, true, true, true, false, false, false] rfl rfl (by kernel_rfl) (by decide) (fun K hK => ?_)
    refine goes_ Try.func80 (by kernel_rfl) rfl #[.agg #[.slice A1_0 l1_0.length c1_0]] (by rfl) rfl rfl z6_2_ ?_
    with_reducible refine (impl_least.calls kj2 _ _ l1_0 t260 _ ?side1 ?side2 A19.out).mono ?_
    (case side1 => have hx_ := (Kd.C_below HR1_0.out HB.out); exact kc_)
    (case side2 => exact HC1_0.out)
    rintro e w23 ⟨v261, rfl, ho0, hb⟩
    refine ⟨_, rfl, ?_⟩
    have _ := A_ (Kd.R_elder' z6_36_ (Kd.R_base ho0) hb)
    have _ := A_ (Kd.R_lower (Kd.R_new' ho0 (Kd.R_lt z6_36_)) (below_size z6_6_))
    have _ := A_ (blk_below (g := gb253) (o := .cells #[.slice A0_0 l0_0.length c0_0] 34 (0, 0)) z6_11_ hb)
    have _ := A_ (blk_below (g := gb254) (o := .cells #[.slice A1_0 l1_0.length c1_0] 34 (0, 0)) z6_16_ hb)
    have _ := A_ (below_step z6_6_ hb)
    clear HO259 BK253 BK254 HB
    rename_i HO259 HO262 BK253 BK254 HB
    (try clear hb)
    (try clear hb2)
    (try clear hk)
    (try clear hi)
    (try clear ho0)
    obtain ⟨Ao24, co24, eo24⟩ := Kd.R_slice HO259.out
    (first | subst eo24 | (injection eo24 with f1_ f2_ f3_; have f4_ := f1_.symm; have f5_ := f3_.symm; clear f1_ f2_ f3_; subst f4_; subst f5_))
    obtain ⟨Ao25, co25, eo25⟩ := Kd.R_slice HO262.out
    (first | subst eo25 | (injection eo25 with f1_ f2_ f3_; have f4_ := f1_.symm; have f5_ := f3_.symm; clear f1_ f2_ f3_; subst f4_; subst f5_))
    refine hK.out _ _ ⟨(blk_cell BK253.out 0).trans rfl, (blk_cell BK254.out 0).trans rfl⟩ (fun hHeld => ?_)
    clear hK K
    refine norm_ (a' := ?_) ?_ ?_
    rotate_left
    ·
     show Act.put _ (some 17) _ = _
     simp only [Act.put, sA_, sB_, sC_, i64_w, i32_w]
     rfl
    refine one_ (i := 4) (N := some 18) #[true, true, true, true, true, false, false] rfl rfl (by kernel_rfl) (by decide) (fun K hK => ?_)
    refine goes_ Try.func79 (by kernel_rfl) rfl #[.agg #[.slice Ao24 t257.length co24], .agg #[.slice Ao25 t260.length co25]] (by rfl) rfl rfl z6_2_ ?_
    with_reducible refine (impl_SameTree.calls kj2 _ _ t257 _ _ t260 t263 _ ?side1 ?side2 ?side3 ?side4 A20.out).mono ?_
    (case side1 => have hx_ := (Kd.R_reads' HO259.out).2.2; exact kc_)
    (case side2 => exact (Kd.R_reads' HO259.out).2.1)
    (case side3 => have hx_ := (Kd.R_reads' HO262.out).2.2; exact kc_)
    (case side4 => exact (Kd.R_reads' HO262.out).2.1)
    rintro e w26 ⟨rfl, hb⟩
    refine ⟨_, rfl, ?_⟩
    have _ := A_ (Kd.R_below z6_36_ hb)
    have _ := A_ (Kd.R_below (by (with_reducible repeat (first | apply Kd.R_alloc | apply Kd.R_drewN | apply Kd.R_drew)); exact HO262.out) hb)
    have _ := A_ (blk_below (g := gb253) (o := .cells #[.slice A0_0 l0_0.length c0_0] 34 (0, 0)) z6_11_ hb)
    have _ := A_ (blk_below (g := gb254) (o := .cells #[.slice A1_0 l1_0.length c1_0] 34 (0, 0)) z6_16_ hb)
    have _ := A_ (below_step z6_6_ hb)
    clear HO259 HO262 BK253 BK254 HB
    rename_i HO259 HO262 BK253 BK254 HB
    (try clear hb)
    (try clear hb2)
    (try clear hk)
    (try clear hi)
    refine hK.out _ _ ⟨(blk_cell BK253.out 0).trans rfl, (blk_cell BK254.out 0).trans rfl⟩ (fun hHeld => ?_)
    clear hK K
    refine norm_ (a' := ?_) ?_ ?_
    rotate_left
    ·
     show Act.put _ (some 18) _ = _
     simp only [Act.put, sA_, sB_, sC_, i64_w, i32_w]
     rfl
    refine pure_ (i := 5) (N := some 4) (v := ?_) (a' := ?_) #[true, true, true, true, true, true, false] rfl rfl (by kernel_rfl) (fun _ _ _ h => h) (Or.inl ⟨by rfl, ?_⟩) ?_ ?_
    rotate_left
    ·
     intro w'
     go_simp
     with_reducible rfl
    rotate_left
    ·
     simp only [Act.put, sA_, sB_, sC_, i64_w, i32_w]
     rfl
    refine pure_ (i := 6) (N := some 5) (v := ?_) (a' := ?_) #[true, true, true, true, true, true, true] rfl rfl (by kernel_rfl) (fun _ _ _ h => h) (Or.inl ⟨by rfl, ?_⟩) ?_ ?_
    rotate_left
    ·
     intro w'
     go_simp
     with_reducible rfl
    rotate_left
    ·
     simp only [Act.put, sA_, sB_, sC_, i64_w, i32_w]
     rfl
    refine done_ (by kernel_rfl) ?_
    try go_wp2
    go_ret2
    exact ⟨z6_19_, z6_6_⟩
/-! ### laws_FnExactDoTheSame: function 8 -/
def laws_FnExactDoTheSame.j0 : Nat → Bool → List (S158) → List (S158) → List (S89) → List (S89) → Option (Bool)
 | 0, _, _, _, _, _ => none
 | k + 1, x47, x265000, x266000, x280000, x284000 => if x47 = true then (some false) else ((laws_toTree.f k x265000).bind fun t286 => ((laws_eqTree.f k x280000 t286).bind fun t289 => (if t289 = true then ((laws_toTree.f k x266000).bind fun t290 => ((laws_eqTree.f k x284000 t290).bind fun t293 => (if t293 = true then (some true) else (some false)))) else (some false))))
def laws_FnExactDoTheSame.f (k : Nat) (l0_0 : List (S158)) (l1_0 : List (S158)) : Option (Bool) := (laws_szTree.f l0_0 1048576).bind fun t266 => (if t266 < 0 then (some true) else ((laws_szTree.f l1_0 t266).bind fun t267 => (if t267 < 0 then (some true) else ((laws_toTree.f k l0_0).bind fun t268 => ((laws_toTree.f k l1_0).bind fun t271 => ((spec_DoTheSame.f k t268 t271).bind fun bt274 => ((laws_toTree.f k l0_0).bind fun t276 => ((laws_toTree.f k l1_0).bind fun t280 => ((impl_DoTheSame.f k t276 t280).bind fun bt284 => (if (bt284.1 != bt274.1) = true then (laws_FnExactDoTheSame.j0 k true l0_0 l1_0 t276 t280) else (laws_FnExactDoTheSame.j0 k (bt284.2 != bt274.2) l0_0 l1_0 t276 t280)))))))))))
theorem laws_FnExactDoTheSame.mono_l : ∀ k, (∀ y0 y1 y2 y3 y4, LeO (laws_FnExactDoTheSame.j0 k y0 y1 y2 y3 y4) (laws_FnExactDoTheSame.j0 (k + 1) y0 y1 y2 y3 y4))
 | 0 => fun _ _ _ _ _ r h => by simp [laws_FnExactDoTheSame.j0] at h
 | k + 1 => by
  have ih0 := laws_FnExactDoTheSame.mono_l k
  ·
   intro y0 y1 y2 y3 y4
   unfold laws_FnExactDoTheSame.j0
   repeat' first
   | (with_reducible exact ih0 _ _ _ _ _)
   | (with_reducible exact impl_DoTheSame.mono _ _ _)
   | (with_reducible exact laws_eqTree.mono _ _ _)
   | (with_reducible exact laws_toTree.mono _ _)
   | (with_reducible exact spec_DoTheSame.mono _ _ _)
   | (with_reducible exact LeO.refl _)
   | (with_reducible exact LeO.none _)
   | (with_reducible refine LeO.ite ?_ ?_)
   | (with_reducible refine LeO.bind ?_ (fun _ => ?_))
   | exact ih0 _ _ _ _ _
   | exact LeO.none _
   | refine LeO.ite ?_ ?_
   | refine LeO.bind ?_ (fun _ => ?_)
theorem laws_FnExactDoTheSame.mono : ∀ a0 a1 k, LeO (laws_FnExactDoTheSame.f k a0 a1) (laws_FnExactDoTheSame.f (k + 1) a0 a1) := by
 intro a0 a1 k
 have ih0 := laws_FnExactDoTheSame.mono_l k
 unfold laws_FnExactDoTheSame.f
 repeat' first
   | (with_reducible exact ih0 _ _ _ _ _)
   | (with_reducible exact impl_DoTheSame.mono _ _ _)
   | (with_reducible exact laws_eqTree.mono _ _ _)
   | (with_reducible exact laws_toTree.mono _ _)
   | (with_reducible exact spec_DoTheSame.mono _ _ _)
   | (with_reducible exact LeO.refl _)
   | (with_reducible exact LeO.none _)
   | (with_reducible refine LeO.ite ?_ ?_)
   | (with_reducible refine LeO.bind ?_ (fun _ => ?_))
   | exact ih0 _ _ _ _ _
   | exact LeO.none _
   | refine LeO.ite ?_ ?_
   | refine LeO.bind ?_ (fun _ => ?_)
def laws_FnExactDoTheSame.T8 : Bool × List (List Nat × List Nat) := (true, [([], []), ([0], [0]), ([], []), ([2, 1], [2]), ([1, 3, 3], [1, 3]), ([4], [4]), ([5], [5]), ([5], [5]), ([6, 4, 0, 1, 2, 3, 4, 5, 6], [6]), ([7, 8, 0, 1, 2, 3, 4, 5, 6, 7, 8], [7])])
def laws_FnExactDoTheSame.B8 : List Nat := [0, 1, 0, 7, 15, 31, 63, 63, 127, 511]
theorem laws_FnExactDoTheSame.tab8 : rtab .any (opsOf Try.f8 8) = laws_FnExactDoTheSame.T8 := by kernel_rfl
theorem laws_FnExactDoTheSame.bits8 : waitsOk laws_FnExactDoTheSame.T8.2 laws_FnExactDoTheSame.B8 = true := by kernel_rfl
set_option maxHeartbeats 8000000 in
set_option maxRecDepth 100000 in
theorem laws_FnExactDoTheSame.calls (k : Nat) (A0_0 : Option Addr) (c0_0 : Nat) (l0_0 : List (S158)) (A1_0 : Option Addr) (c1_0 : Nat) (l1_0 : List (S158)) (w : World) (hr0_0 : Kd.C k158 w A0_0 l0_0.length l0_0) (hc0_0 : l0_0.length ≤ c0_0) (hr1_0 : Kd.C k158 w A1_0 l1_0.length l1_0) (hc1_0 : l1_0.length ≤ c1_0) (h : laws_FnExactDoTheSame.f k l0_0 l1_0 = some true) :
  Calls Try.prog 8 #[.agg #[.slice A0_0 l0_0.length c0_0], .agg #[.slice A1_0 l1_0.length c1_0]] w fun e w' => e = .returned (.bool true) ∧ Below w.heap.size w w' := by
 have hu24 := Try.underlying24
 have hu34 := Try.underlying34
 have HR0_0 := A_ hr0_0
 have HC0_0 := A_ hc0_0
 clear hr0_0 hc0_0
 have HR1_0 := A_ hr1_0
 have HC1_0 := A_ hc1_0
 clear hr1_0 hc1_0
 have HB := A_ (Below.refl w.heap.size w)
 have H : ((laws_szTree.f l0_0 1048576).bind fun t266 => (if t266 < 0 then (some true) else ((laws_szTree.f l1_0 t266).bind fun t267 => (if t267 < 0 then (some true) else ((laws_toTree.f k l0_0).bind fun t268 => ((laws_toTree.f k l1_0).bind fun t271 => ((spec_DoTheSame.f k t268 t271).bind fun bt274 => ((laws_toTree.f k l0_0).bind fun t276 => ((laws_toTree.f k l1_0).bind fun t280 => ((impl_DoTheSame.f k t276 t280).bind fun bt284 => (if (bt284.1 != bt274.1) = true then (laws_FnExactDoTheSame.j0 k true l0_0 l1_0 t276 t280) else (laws_FnExactDoTheSame.j0 k (bt284.2 != bt274.2) l0_0 l1_0 t276 t280)))))))))))) = some true := h
 clear h
 replace H := Option.bind_eq_some_iff.mp H
 obtain ⟨t266, A30, H⟩ := H
 try dsimp only at H
 have A3 := A_ A30
 clear A30
 by_cases c4 : t266 < 0
 ·
  rw [if_pos c4] at H
  have c4b0 := decide_eq_true c4
  clear c4
  clear H
  go_enter Try.func8, Try.ntmps8
  go_wp2_with (first | ((with_reducible refine gate_dst (N := 2) rfl ?_); refine box_event ?hg (N := 2) ?hd (cs := #[.slice A0_0 l0_0.length c0_0]) (t := 24) ?hr ?_; (case hd => rfl); (case hg => rfl); (case hr => first | (go_simp; done) | (go_simp; rfl)); intro gb264 hg w5 hbox hb; have _ := A_ (below_step z6_7_ hb); have _ := A_ (hbox); have _ := A_ ((by rw [hg]; exact (below_size z6_7_) : w.heap.size ≤ gb264)); have _ := A_ ((by rw [hg]; exact (below_size z6_7_) : w.heap.size ≤ gb264)); clear HB; rename_i HB BK264 GW264 GE264; clear hb hbox hg) | ((with_reducible refine gate_dst (N := 3) rfl ?_); refine box_event ?hg (N := 3) ?hd (cs := #[.slice A1_0 l1_0.length c1_0]) (t := 24) ?hr ?_; (case hd => rfl); (case hg => rfl); (case hr => first | (go_simp; done) | (go_simp; rfl)); intro gb265 hg w6 hbox hb; have _ := A_ (blk_below (g := gb264) (o := .cells #[.slice A0_0 l0_0.length c0_0] 24 (0, 0)) z6_1_ hb); have _ := A_ (below_step z6_10_ hb); have _ := A_ (hbox); have _ := A_ ((by rw [hg]; exact (below_size z6_10_) : w.heap.size ≤ gb265)); have _ := A_ ((by rw [hg]; exact (below_size z6_10_) : w.heap.size ≤ gb265)); have _ := A_ ((by rw [hg]; exact Nat.ne_of_lt (blk_lt (g := gb264) (o := .cells #[.slice A0_0 l0_0.length c0_0] 24 (0, 0)) z6_1_) : gb264 ≠ gb265)); have _ := A_ ((by rw [hg]; exact Nat.ne_of_gt (blk_lt (g := gb264) (o := .cells #[.slice A0_0 l0_0.length c0_0] 24 (0, 0)) z6_1_) : gb265 ≠ gb264)); clear BK264 HB; rename_i BK264 HB BK265 GW265 GE265 NB264_265 NB265_264; clear hb hbox hg; have hnb7 := NB264_265.out; have hnc7 := NB265_264.out; have hcz8_0 : w6.cell? ⟨gb264, 0, none⟩ = some (.slice A0_0 l0_0.length c0_0) := (blk_cell BK264.out 0).trans rfl; have hfz8_0 := blk_frozen BK264.out 0) | ((with_reducible refine gate_callee (f := 14) rfl ?_); refine goesL_ (some 14) rfl rfl Try.func14 (by kernel_rfl) rfl #[.agg #[.slice A0_0 l0_0.length c0_0], .int .i64 1048576] rfl z6_2_ ?_; (with_reducible refine (laws_szTree.calls _ _ l0_0 1048576 t266 _ ?side1 ?side2 A3.out).mono ?_); (case side1 => have hx_ := (Kd.C_below HR0_0.out HB.out); exact kc_); (case side2 => exact HC0_0.out); rintro e w9 ⟨rfl, hb⟩; refine ⟨_, rfl, ?_⟩; have _ := A_ (blk_below (g := gb264) (o := .cells #[.slice A0_0 l0_0.length c0_0] 24 (0, 0)) z6_1_ hb); have _ := A_ (blk_below (g := gb265) (o := .cells #[.slice A1_0 l1_0.length c1_0] 24 (0, 0)) z6_5_ hb); have _ := A_ (below_step z6_3_ hb); clear BK264 BK265 HB; rename_i BK264 BK265 HB; (try clear hb)))
  go_ret
  exact ⟨z6_19_, z6_3_⟩
 ·
  rw [if_neg c4] at H
  have c4b0 := decide_eq_false c4
  clear c4
  replace H := Option.bind_eq_some_iff.mp H
  obtain ⟨t267, A100, H⟩ := H
  try dsimp only at H
  have A10 := A_ A100
  clear A100
  by_cases c11 : t267 < 0
  ·
   rw [if_pos c11] at H
   have c11b0 := decide_eq_true c11
   clear c11
   clear H
   go_enter Try.func8, Try.ntmps8
   go_wp2_with (first | ((with_reducible refine gate_dst (N := 2) rfl ?_); refine box_event ?hg (N := 2) ?hd (cs := #[.slice A0_0 l0_0.length c0_0]) (t := 24) ?hr ?_; (case hd => rfl); (case hg => rfl); (case hr => first | (go_simp; done) | (go_simp; rfl)); intro gb264 hg w12 hbox hb; have _ := A_ (below_step z6_7_ hb); have _ := A_ (hbox); have _ := A_ ((by rw [hg]; exact (below_size z6_7_) : w.heap.size ≤ gb264)); have _ := A_ ((by rw [hg]; exact (below_size z6_7_) : w.heap.size ≤ gb264)); clear HB; rename_i HB BK264 GW264 GE264; clear hb hbox hg) | ((with_reducible refine gate_dst (N := 3) rfl ?_); refine box_event ?hg (N := 3) ?hd (cs := #[.slice A1_0 l1_0.length c1_0]) (t := 24) ?hr ?_; (case hd => rfl); (case hg => rfl); (case hr => first | (go_simp; done) | (go_simp; rfl)); intro gb265 hg w13 hbox hb; have _ := A_ (blk_below (g := gb264) (o := .cells #[.slice A0_0 l0_0.length c0_0] 24 (0, 0)) z6_1_ hb); have _ := A_ (below_step z6_10_ hb); have _ := A_ (hbox); have _ := A_ ((by rw [hg]; exact (below_size z6_10_) : w.heap.size ≤ gb265)); have _ := A_ ((by rw [hg]; exact (below_size z6_10_) : w.heap.size ≤ gb265)); have _ := A_ ((by rw [hg]; exact Nat.ne_of_lt (blk_lt (g := gb264) (o := .cells #[.slice A0_0 l0_0.length c0_0] 24 (0, 0)) z6_1_) : gb264 ≠ gb265)); have _ := A_ ((by rw [hg]; exact Nat.ne_of_gt (blk_lt (g := gb264) (o := .cells #[.slice A0_0 l0_0.length c0_0] 24 (0, 0)) z6_1_) : gb265 ≠ gb264)); clear BK264 HB; rename_i BK264 HB BK265 GW265 GE265 NB264_265 NB265_264; clear hb hbox hg; have hnb14 := NB264_265.out; have hnc14 := NB265_264.out; have hcz15_0 : w13.cell? ⟨gb264, 0, none⟩ = some (.slice A0_0 l0_0.length c0_0) := (blk_cell BK264.out 0).trans rfl; have hfz15_0 := blk_frozen BK264.out 0) | ((with_reducible refine gate_callee (f := 14) rfl ?_); refine goesL_ (some 14) rfl rfl Try.func14 (by kernel_rfl) rfl #[.agg #[.slice A0_0 l0_0.length c0_0], .int .i64 1048576] rfl z6_2_ ?_; (with_reducible refine (laws_szTree.calls _ _ l0_0 1048576 t266 _ ?side1 ?side2 A3.out).mono ?_); (case side1 => have hx_ := (Kd.C_below HR0_0.out HB.out); exact kc_); (case side2 => exact HC0_0.out); rintro e w16 ⟨rfl, hb⟩; refine ⟨_, rfl, ?_⟩; have _ := A_ (blk_below (g := gb264) (o := .cells #[.slice A0_0 l0_0.length c0_0] 24 (0, 0)) z6_1_ hb); have _ := A_ (blk_below (g := gb265) (o := .cells #[.slice A1_0 l1_0.length c1_0] 24 (0, 0)) z6_5_ hb); have _ := A_ (below_step z6_3_ hb); clear BK264 BK265 HB; rename_i BK264 BK265 HB; (try clear hb); have hcz17_0 : w16.cell? ⟨gb265, 0, none⟩ = some (.slice A1_0 l1_0.length c1_0) := (blk_cell BK265.out 0).trans rfl; have hfz17_0 := blk_frozen BK265.out 0) | ((with_reducible refine gate_callee (f := 14) rfl ?_); refine goesL_ (some 19) rfl rfl Try.func14 (by kernel_rfl) rfl #[.agg #[.slice A1_0 l1_0.length c1_0], .int .i64 t266] rfl z6_2_ ?_; (with_reducible refine (laws_szTree.calls _ _ l1_0 t266 t267 _ ?side1 ?side2 A10.out).mono ?_); (case side1 => have hx_ := (Kd.C_below HR1_0.out HB.out); exact kc_); (case side2 => exact HC1_0.out); rintro e w18 ⟨rfl, hb⟩; refine ⟨_, rfl, ?_⟩; have _ := A_ (blk_below (g := gb264) (o := .cells #[.slice A0_0 l0_0.length c0_0] 24 (0, 0)) z6_1_ hb); have _ := A_ (blk_below (g := gb265) (o := .cells #[.slice A1_0 l1_0.length c1_0] 24 (0, 0)) z6_5_ hb); have _ := A_ (below_step z6_3_ hb); clear BK264 BK265 HB; rename_i BK264 BK265 HB; (try clear hb)))
   go_ret
   exact ⟨z6_19_, z6_3_⟩
  ·
   rw [if_neg c11] at H
   have c11b0 := decide_eq_false c11
   clear c11
   replace H := Option.bind_eq_some_iff.mp H
   obtain ⟨t268, A190, H⟩ := H
   try dsimp only at H
   have A19 := A_ A190
   clear A190
   replace H := Option.bind_eq_some_iff.mp H
   obtain ⟨t271, A200, H⟩ := H
   try dsimp only at H
   have A20 := A_ A200
   clear A200
   replace H := Option.bind_eq_some_iff.mp H
   obtain ⟨⟨t274, t275⟩, A210, H⟩ := H
   try dsimp only at H
   have A21 := A_ A210
   clear A210
   replace H := Option.bind_eq_some_iff.mp H
   obtain ⟨t276, A220, H⟩ := H
   try dsimp only at H
   have A22 := A_ A220
   clear A220
   replace H := Option.bind_eq_some_iff.mp H
   obtain ⟨t280, A230, H⟩ := H
   try dsimp only at H
   have A23 := A_ A230
   clear A230
   replace H := Option.bind_eq_some_iff.mp H
   obtain ⟨⟨t284, t285⟩, A240, H⟩ := H
   try dsimp only at H
   have A24 := A_ A240
   clear A240
   have HC25 := A_ H
   clear H
   go_enter Try.func8, Try.ntmps8
   try go_wp2_with (first | ((with_reducible refine gate_dst (N := 2) rfl ?_); refine box_event ?hg (N := 2) ?hd (cs := #[.slice A0_0 l0_0.length c0_0]) (t := 24) ?hr ?_; (case hd => rfl); (case hg => rfl); (case hr => first | (go_simp; done) | (go_simp; rfl)); intro gb264 hg w26 hbox hb; have _ := A_ (below_step z6_7_ hb); have _ := A_ (hbox); have _ := A_ ((by rw [hg]; exact (below_size z6_7_) : w.heap.size ≤ gb264)); have _ := A_ ((by rw [hg]; exact (below_size z6_7_) : w.heap.size ≤ gb264)); clear HB; rename_i HB BK264 GW264 GE264; clear hb hbox hg) | ((with_reducible refine gate_dst (N := 3) rfl ?_); refine box_event ?hg (N := 3) ?hd (cs := #[.slice A1_0 l1_0.length c1_0]) (t := 24) ?hr ?_; (case hd => rfl); (case hg => rfl); (case hr => first | (go_simp; done) | (go_simp; rfl)); intro gb265 hg w27 hbox hb; have _ := A_ (blk_below (g := gb264) (o := .cells #[.slice A0_0 l0_0.length c0_0] 24 (0, 0)) z6_1_ hb); have _ := A_ (below_step z6_10_ hb); have _ := A_ (hbox); have _ := A_ ((by rw [hg]; exact (below_size z6_10_) : w.heap.size ≤ gb265)); have _ := A_ ((by rw [hg]; exact (below_size z6_10_) : w.heap.size ≤ gb265)); have _ := A_ ((by rw [hg]; exact Nat.ne_of_lt (blk_lt (g := gb264) (o := .cells #[.slice A0_0 l0_0.length c0_0] 24 (0, 0)) z6_1_) : gb264 ≠ gb265)); have _ := A_ ((by rw [hg]; exact Nat.ne_of_gt (blk_lt (g := gb264) (o := .cells #[.slice A0_0 l0_0.length c0_0] 24 (0, 0)) z6_1_) : gb265 ≠ gb264)); clear BK264 HB; rename_i BK264 HB BK265 GW265 GE265 NB264_265 NB265_264; clear hb hbox hg; have hnb28 := NB264_265.out; have hnc28 := NB265_264.out; have hcz29_0 : w27.cell? ⟨gb264, 0, none⟩ = some (.slice A0_0 l0_0.length c0_0) := (blk_cell BK264.out 0).trans rfl; have hfz29_0 := blk_frozen BK264.out 0) | ((with_reducible refine gate_callee (f := 14) rfl ?_); refine goesL_ (some 14) rfl rfl Try.func14 (by kernel_rfl) rfl #[.agg #[.slice A0_0 l0_0.length c0_0], .int .i64 1048576] rfl z6_2_ ?_; (with_reducible refine (laws_szTree.calls _ _ l0_0 1048576 t266 _ ?side1 ?side2 A3.out).mono ?_); (case side1 => have hx_ := (Kd.C_below HR0_0.out HB.out); exact kc_); (case side2 => exact HC0_0.out); rintro e w30 ⟨rfl, hb⟩; refine ⟨_, rfl, ?_⟩; have _ := A_ (blk_below (g := gb264) (o := .cells #[.slice A0_0 l0_0.length c0_0] 24 (0, 0)) z6_1_ hb); have _ := A_ (blk_below (g := gb265) (o := .cells #[.slice A1_0 l1_0.length c1_0] 24 (0, 0)) z6_5_ hb); have _ := A_ (below_step z6_3_ hb); clear BK264 BK265 HB; rename_i BK264 BK265 HB; (try clear hb); have hcz31_0 : w30.cell? ⟨gb265, 0, none⟩ = some (.slice A1_0 l1_0.length c1_0) := (blk_cell BK265.out 0).trans rfl; have hfz31_0 := blk_frozen BK265.out 0) | ((with_reducible refine gate_callee (f := 14) rfl ?_); refine goesL_ (some 19) rfl rfl Try.func14 (by kernel_rfl) rfl #[.agg #[.slice A1_0 l1_0.length c1_0], .int .i64 t266] rfl z6_2_ ?_; (with_reducible refine (laws_szTree.calls _ _ l1_0 t266 t267 _ ?side1 ?side2 A10.out).mono ?_); (case side1 => have hx_ := (Kd.C_below HR1_0.out HB.out); exact kc_); (case side2 => exact HC1_0.out); rintro e w32 ⟨rfl, hb⟩; refine ⟨_, rfl, ?_⟩; have _ := A_ (blk_below (g := gb264) (o := .cells #[.slice A0_0 l0_0.length c0_0] 24 (0, 0)) z6_1_ hb); have _ := A_ (blk_below (g := gb265) (o := .cells #[.slice A1_0 l1_0.length c1_0] 24 (0, 0)) z6_5_ hb); have _ := A_ (below_step z6_3_ hb); clear BK264 BK265 HB; rename_i BK264 BK265 HB; (try clear hb)))
   have _ := A_ (blk_drew BK264.out)
   have _ := A_ (blk_drew BK265.out)
   have _ := A_ (below_drew1 HB.out)
   clear BK264 BK265 HB
   rename_i BK264 BK265 HB
   refine start_ (n := 10) (S := fun w' => w'.cell? ⟨gb264, 0, none⟩ = some (.slice A0_0 l0_0.length c0_0) ∧ w'.cell? ⟨gb265, 0, none⟩ = some (.slice A1_0 l1_0.length c1_0)) (ds := []) #[false, false, false, false, false, false, false, false, false, false] (by kernel_rfl) rfl rfl ⟨(blk_cell BK264.out 0).trans rfl, (blk_cell BK265.out 0).trans rfl⟩ (fun hHeld => ?_); refine with_tabW laws_FnExactDoTheSame.tab8 laws_FnExactDoTheSame.bits8 (fun HT_ HW_ => ?_)
   generalize w32.drew = w33 at BK264 BK265 HB hHeld ⊢
   refine take_ (i := 0) (N := some 23) (v := ?_) (a' := ?_) #[true, false, false, false, false, false, false, false, false, false] rfl rfl (take_ofW HT_.out HW_.out (by kernel_rfl)) (fun _ _ _ h => h) (Or.inl ⟨by rfl, ?_⟩) hHeld ?_ ?_
   rotate_left
   ·
    rintro w' ⟨s0, s1⟩
    go_simp
    with_reducible rfl
   rotate_left
   ·
    simp only [Act.put, sA_, sB_, sC_, i64_w, i32_w]
    rfl
   refine take_ (i := 2) (N := some 25) (v := ?_) (a' := ?_) #[true, false, true, false, false, false, false, false, false, false] rfl rfl (take_ofW HT_.out HW_.out (by kernel_rfl)) (fun _ _ _ h => h) (Or.inl ⟨by rfl, ?_⟩) hHeld ?_ ?_
   rotate_left
   ·
    rintro w' ⟨s0, s1⟩
    go_simp
    with_reducible rfl
   rotate_left
   ·
    simp only [Act.put, sA_, sB_, sC_, i64_w, i32_w]
    rfl
   refine one_ (i := 1) (N := some 24) #[true, true, true, false, false, false, false, false, false, false] rfl rfl (one_of HT_.out (by kernel_rfl)) (by decide) (fun K hK => ?_)
   refine goes_ Try.func17 (by kernel_rfl) rfl #[.agg #[.slice A0_0 l0_0.length c0_0]] (by rfl) rfl rfl z6_2_ ?_
   with_reducible refine (laws_toTree.calls k _ _ l0_0 t268 _ ?side1 ?side2 A19.out).mono ?_
   (case side1 => have hx_ := (Kd.C_below HR0_0.out HB.out); exact kc_)
   (case side2 => exact HC0_0.out)
   rintro e w34 ⟨v269, rfl, ho0, hb⟩
   refine ⟨_, rfl, ?_⟩
   have _ := A_ (Kd.R_lower ho0 (below_size z6_3_))
   have _ := A_ (blk_below (g := gb264) (o := .cells #[.slice A0_0 l0_0.length c0_0] 24 (0, 0)) z6_1_ hb)
   have _ := A_ (blk_below (g := gb265) (o := .cells #[.slice A1_0 l1_0.length c1_0] 24 (0, 0)) z6_5_ hb)
   have _ := A_ (below_step z6_3_ hb)
   clear BK264 BK265 HB
   rename_i HO270 BK264 BK265 HB
   (try clear hb)
   (try clear hb2)
   (try clear hk)
   (try clear hi)
   (try clear ho0)
   refine hK.out _ _ ⟨(blk_cell BK264.out 0).trans rfl, (blk_cell BK265.out 0).trans rfl⟩ (fun hHeld => ?_)
   clear hK K
   refine norm_ (a' := ?_) ?_ ?_
   rotate_left
   ·
    show Act.put _ (some 24) _ = _
    simp only [Act.put, sA_, sB_, sC_, i64_w, i32_w]
    rfl
   refine one_ (i := 3) (N := some 26) #[true, true, true, true, false, false, false, false, false, false] rfl rfl (one_of HT_.out (by kernel_rfl)) (by decide) (fun K hK => ?_)
   refine goes_ Try.func17 (by kernel_rfl) rfl #[.agg #[.slice A1_0 l1_0.length c1_0]] (by rfl) rfl rfl z6_2_ ?_
   with_reducible refine (laws_toTree.calls k _ _ l1_0 t271 _ ?side1 ?side2 A20.out).mono ?_
   (case side1 => have hx_ := (Kd.C_below HR1_0.out HB.out); exact kc_)
   (case side2 => exact HC1_0.out)
   rintro e w35 ⟨v272, rfl, ho0, hb⟩
   refine ⟨_, rfl, ?_⟩
   have _ := A_ (Kd.R_elder' z6_17_ (Kd.R_base ho0) hb)
   have _ := A_ (Kd.R_lower (Kd.R_new' ho0 (Kd.R_lt z6_17_)) (below_size z6_3_))
   have _ := A_ (blk_below (g := gb264) (o := .cells #[.slice A0_0 l0_0.length c0_0] 24 (0, 0)) z6_1_ hb)
   have _ := A_ (blk_below (g := gb265) (o := .cells #[.slice A1_0 l1_0.length c1_0] 24 (0, 0)) z6_5_ hb)
   have _ := A_ (below_step z6_3_ hb)
   clear HO270 BK264 BK265 HB
   rename_i HO270 HO273 BK264 BK265 HB
   (try clear hb)
   (try clear hb2)
   (try clear hk)
   (try clear hi)
   (try clear ho0)
   obtain ⟨Ao36, co36, eo36⟩ := Kd.R_slice HO270.out
   (first | subst eo36 | (injection eo36 with f1_ f2_ f3_; have f4_ := f1_.symm; have f5_ := f3_.symm; clear f1_ f2_ f3_; subst f4_; subst f5_))
   obtain ⟨Ao37, co37, eo37⟩ := Kd.R_slice HO273.out
   (first | subst eo37 | (injection eo37 with f1_ f2_ f3_; have f4_ := f1_.symm; have f5_ := f3_.symm; clear f1_ f2_ f3_; subst f4_; subst f5_))
   refine hK.out _ _ ⟨(blk_cell BK264.out 0).trans rfl, (blk_cell BK265.out 0).trans rfl⟩ (fun hHeld => ?_)
   clear hK K
   refine norm_ (a' := ?_) ?_ ?_
   rotate_left
   ·
    show Act.put _ (some 26) _ = _
    simp only [Act.put, sA_, sB_, sC_, i64_w, i32_w]
    rfl
   refine one_ (i := 4) (N := some 27) #[true, true, true, true, true, false, false, false, false, false] rfl rfl (one_of HT_.out (by kernel_rfl)) (by decide) (fun K hK => ?_)
   refine goes_ Try.func36 (by kernel_rfl) rfl #[.agg #[.slice Ao36 t268.length co36], .agg #[.slice Ao37 t271.length co37]] (by rfl) rfl rfl z6_2_ ?_
   with_reducible refine (spec_DoTheSame.calls k _ _ t268 _ _ t271 t274 t275 _ ?side1 ?side2 ?side3 ?side4 A21.out).mono ?_
   (case side1 => have hx_ := (Kd.R_reads' HO270.out).2.2; exact kc_)
   (case side2 => exact (Kd.R_reads' HO270.out).2.1)
   (case side3 => have hx_ := (Kd.R_reads' HO273.out).2.2; exact kc_)
   (case side4 => exact (Kd.R_reads' HO273.out).2.1)
   rintro e w38 ⟨rfl, hb⟩
   refine ⟨_, rfl, ?_⟩
   have _ := A_ (Kd.R_below z6_17_ hb)
   have _ := A_ (Kd.R_below z6_22_ hb)
   have _ := A_ (blk_below (g := gb264) (o := .cells #[.slice A0_0 l0_0.length c0_0] 24 (0, 0)) z6_1_ hb)
   have _ := A_ (blk_below (g := gb265) (o := .cells #[.slice A1_0 l1_0.length c1_0] 24 (0, 0)) z6_5_ hb)
   have _ := A_ (below_step z6_3_ hb)
   clear HO270 HO273 BK264 BK265 HB
   rename_i HO270 HO273 BK264 BK265 HB
   (try clear hb)
   (try clear hb2)
   (try clear hk)
   (try clear hi)
   refine hK.out _ _ ⟨(blk_cell BK264.out 0).trans rfl, (blk_cell BK265.out 0).trans rfl⟩ (fun hHeld => ?_)
   clear hK K
   refine norm_ (a' := ?_) ?_ ?_
   rotate_left
   ·
    show Act.put _ (some 27) _ = _
    simp only [Act.put, sA_, sB_, sC_, i64_w, i32_w]
    rfl
   refine pure_ (i := 5) (N := some 22) (v := ?_) (a' := ?_) #[true, true, true, true, true, true, false, false, false, false] rfl rfl (any_of HT_.out (by kernel_rfl)) (fun _ _ _ h => h) (Or.inl ⟨by rfl, ?_⟩) ?_ ?_
   rotate_left
   ·
    intro w'
    go_simp
    with_reducible rfl
   rotate_left
   ·
    simp only [Act.put, sA_, sB_, sC_, i64_w, i32_w]
    rfl
   refine pure_ (i := 6) (N := some 28) (v := ?_) (a' := ?_) #[true, true, true, true, true, true, true, false, false, false] rfl rfl (any_of HT_.out (by kernel_rfl)) (fun _ _ _ h => h) (Or.inl ⟨by rfl, ?_⟩) ?_ ?_
   rotate_left
   ·
    intro w'
    go_simp
    with_reducible rfl
   rotate_left
   ·
    simp only [Act.put, sA_, sB_, sC_, i64_w, i32_w]
    rfl
   refine pure_ (i := 7) (N := some 29) (v := ?_) (a' := ?_) #[true, true, true, true, true, true, true, true, false, false] rfl rfl (any_of HT_.out (by kernel_rfl)) (fun _ _ _ h => h) (Or.inl ⟨by rfl, ?_⟩) ?_ ?_
   rotate_left
   ·
    intro w'
    go_simp
    with_reducible rfl
   rotate_left
   ·
    simp only [Act.put, sA_, sB_, sC_, i64_w, i32_w]
    rfl
   refine pure_ (i := 8) (N := some 6) (v := ?_) (a' := ?_) #[true, true, true, true, true, true, true, true, true, false] rfl rfl (any_of HT_.out (by kernel_rfl)) (fun _ _ _ h => h) (Or.inl ⟨by rfl, ?_⟩) ?_ ?_
   rotate_left
   ·
    intro w'
    go_simp
    with_reducible rfl
   rotate_left
   ·
    simp only [Act.put, sA_, sB_, sC_, i64_w, i32_w]
    rfl
   refine pure_ (i := 9) (N := some 7) (v := ?_) (a' := ?_) #[true, true, true, true, true, true, true, true, true, true] rfl rfl (any_of HT_.out (by kernel_rfl)) (fun _ _ _ h => h) (Or.inl ⟨by rfl, ?_⟩) ?_ ?_
   rotate_left
   ·
    intro w'
    go_simp
    with_reducible rfl
   rotate_left
   ·
    simp only [Act.put, sA_, sB_, sC_, i64_w, i32_w]
    rfl
   refine done_ (done_of HT_.out (by kernel_rfl)) ?_
   have hcz39_0 : w38.cell? ⟨gb264, 0, none⟩ = some (.slice A0_0 l0_0.length c0_0) := (blk_cell BK264.out 0).trans rfl
   have hfz39_0 := blk_frozen BK264.out 0
   go_upto_region 12 with (first | ((with_reducible refine gate_callee (f := 17) rfl ?_); refine goesL_ (some 31) rfl rfl Try.func17 (by kernel_rfl) rfl #[.agg #[.slice A0_0 l0_0.length c0_0]] rfl z6_2_ ?_; (with_reducible refine (laws_toTree.calls k _ _ l0_0 t276 _ ?side1 ?side2 A22.out).mono ?_); (case side1 => have hx_ := (Kd.C_below HR0_0.out HB.out); exact kc_); (case side2 => exact HC0_0.out); rintro e w40 ⟨v277, rfl, ho0, hb⟩; refine ⟨_, rfl, ?_⟩; have _ := A_ (Kd.R_elder' z6_17_ (Kd.R_base ho0) hb); have _ := A_ (Kd.R_elder' z6_22_ (Kd.R_base ho0) hb); have _ := A_ (Kd.R_lower (Kd.R_new' (Kd.R_new' ho0 (Kd.R_lt z6_17_)) (Kd.R_lt z6_22_)) (below_size z6_3_)); have _ := A_ (blk_below (g := gb264) (o := .cells #[.slice A0_0 l0_0.length c0_0] 24 (0, 0)) z6_1_ hb); have _ := A_ (blk_below (g := gb265) (o := .cells #[.slice A1_0 l1_0.length c1_0] 24 (0, 0)) z6_5_ hb); have _ := A_ (below_step z6_3_ hb); clear HO270 HO273 BK264 BK265 HB; rename_i HO270 HO273 HO278 BK264 BK265 HB; (try clear hb); (try clear ho0)) | ((with_reducible refine gate_dst (N := 8) rfl ?_); refine box_event ?hg (N := 8) ?hd (cs := #[.slice none 0 0]) (t := 34) ?hr ?_; (case hd => rfl); (case hg => rfl); (case hr => first | (go_simp; done) | (go_simp; rfl)); intro gb279 hg w41 hbox hb; have _ := A_ (Kd.R_below z6_17_ hb); have _ := A_ (Kd.R_below z6_22_ hb); have _ := A_ (Kd.R_below z6_40_ hb); have _ := A_ (blk_below (g := gb264) (o := .cells #[.slice A0_0 l0_0.length c0_0] 24 (0, 0)) z6_1_ hb); have _ := A_ (blk_below (g := gb265) (o := .cells #[.slice A1_0 l1_0.length c1_0] 24 (0, 0)) z6_5_ hb); have _ := A_ (below_step z6_3_ hb); have _ := A_ (hbox); have _ := A_ ((by rw [hg]; exact (below_size z6_3_) : w.heap.size ≤ gb279)); have _ := A_ ((by rw [hg]; exact (below_size z6_3_) : w.heap.size ≤ gb279)); have _ := A_ ((by rw [hg]; exact Nat.ne_of_lt (blk_lt (g := gb264) (o := .cells #[.slice A0_0 l0_0.length c0_0] 24 (0, 0)) z6_1_) : gb264 ≠ gb279)); have _ := A_ ((by rw [hg]; exact Nat.ne_of_gt (blk_lt (g := gb264) (o := .cells #[.slice A0_0 l0_0.length c0_0] 24 (0, 0)) z6_1_) : gb279 ≠ gb264)); have _ := A_ ((by rw [hg]; exact Nat.ne_of_lt (blk_lt (g := gb265) (o := .cells #[.slice A1_0 l1_0.length c1_0] 24 (0, 0)) z6_5_) : gb265 ≠ gb279)); have _ := A_ ((by rw [hg]; exact Nat.ne_of_gt (blk_lt (g := gb265) (o := .cells #[.slice A1_0 l1_0.length c1_0] 24 (0, 0)) z6_5_) : gb279 ≠ gb265)); clear HO270 HO273 HO278 BK264 BK265 HB; rename_i HO270 HO273 HO278 BK264 BK265 HB BK279 GW279 GE279 NB264_279 NB279_264 NB265_279 NB279_265; clear hb hbox hg; obtain ⟨Ao42, co42, eo42⟩ := Kd.R_slice HO278.out; subst eo42; have hnb43 := NB279_264.out; have hnc43 := NB264_279.out; have hnb44 := NB279_265.out; have hnc44 := NB265_279.out; have hcz45_0 : w41.cell? ⟨gb279, 0, none⟩ = some (.slice none 0 0) := (blk_cell BK279.out 0).trans rfl; have hfz45_0 := blk_frozen BK279.out 0; have hcz46_0 : w41.cell? ⟨gb265, 0, none⟩ = some (.slice A1_0 l1_0.length c1_0) := (blk_cell BK265.out 0).trans rfl; have hfz46_0 := blk_frozen BK265.out 0) | ((with_reducible refine gate_callee (f := 17) rfl ?_); refine goesL_ (some 33) rfl rfl Try.func17 (by kernel_rfl) rfl #[.agg #[.slice A1_0 l1_0.length c1_0]] rfl z6_2_ ?_; (with_reducible refine (laws_toTree.calls k _ _ l1_0 t280 _ ?side1 ?side2 A23.out).mono ?_); (case side1 => exact Kd.C_below HR1_0.out z6_12_); (case side2 => exact HC1_0.out); rintro e w47 ⟨v281, rfl, ho0, hb⟩; refine ⟨_, rfl, ?_⟩; have _ := A_ (Kd.R_elder' z6_32_ (Kd.R_base ho0) hb); have _ := A_ (Kd.R_elder' z6_31_ (Kd.R_base ho0) hb); have _ := A_ (Kd.R_elder' z6_30_ (Kd.R_base ho0) hb); have _ := A_ (Kd.R_lower (Kd.R_new' (Kd.R_new' (Kd.R_new' ho0 (Kd.R_lt z6_32_)) (Kd.R_lt z6_31_)) (Kd.R_lt z6_30_)) (below_size z6_12_)); have _ := A_ (blk_below (g := gb264) (o := .cells #[.slice A0_0 l0_0.length c0_0] 24 (0, 0)) (by (with_reducible repeat (first | refine blk_drewN ?_ _ | refine blk_drew ?_ | refine blk_alloc ?_ _)); refine blk_far ?_ NB264_279.out _; (with_reducible repeat (first | refine blk_drewN ?_ _ | refine blk_drew ?_ | refine blk_alloc ?_ _)); exact BK264.out) hb); have _ := A_ (blk_below (g := gb265) (o := .cells #[.slice A1_0 l1_0.length c1_0] 24 (0, 0)) (by (with_reducible repeat (first | refine blk_drewN ?_ _ | refine blk_drew ?_ | refine blk_alloc ?_ _)); refine blk_far ?_ NB265_279.out _; (with_reducible repeat (first | refine blk_drewN ?_ _ | refine blk_drew ?_ | refine blk_alloc ?_ _)); exact BK265.out) hb); have _ := A_ (blk_below (g := gb279) (o := .cells #[.slice Ao42 t276.length co42] 34 (0, 0)) (by (with_reducible repeat (first | refine blk_drewN ?_ _ | refine blk_drew ?_ | refine blk_alloc ?_ _)); refine blk_put (cs := #[.slice none 0 0]) ?_ 0 _ rfl; (with_reducible repeat (first | refine blk_drewN ?_ _ | refine blk_drew ?_ | refine blk_alloc ?_ _)); exact BK279.out) hb); have _ := A_ (below_step z6_12_ hb); clear HO270 HO273 HO278 BK264 BK265 BK279 HB; rename_i HO270 HO273 HO278 HO282 BK264 BK265 BK279 HB; (try clear hb); (try clear ho0)) | ((with_reducible refine gate_dst (N := 9) rfl ?_); refine box_event ?hg (N := 9) ?hd (cs := #[.slice none 0 0]) (t := 34) ?hr ?_; (case hd => rfl); (case hg => rfl); (case hr => first | (go_simp; done) | (go_simp; rfl)); intro gb283 hg w48 hbox hb; have _ := A_ (Kd.R_below z6_17_ hb); have _ := A_ (Kd.R_below z6_22_ hb); have _ := A_ (Kd.R_below z6_40_ hb); have _ := A_ (Kd.R_below (by (with_reducible repeat (first | apply Kd.R_alloc | apply Kd.R_drewN | apply Kd.R_drew)); exact HO282.out) hb); have _ := A_ (blk_below (g := gb264) (o := .cells #[.slice A0_0 l0_0.length c0_0] 24 (0, 0)) z6_1_ hb); have _ := A_ (blk_below (g := gb265) (o := .cells #[.slice A1_0 l1_0.length c1_0] 24 (0, 0)) z6_5_ hb); have _ := A_ (blk_below (g := gb279) (o := .cells #[.slice Ao42 t276.length co42] 34 (0, 0)) z6_15_ hb); have _ := A_ (below_step z6_12_ hb); have _ := A_ (hbox); have _ := A_ ((by rw [hg]; exact (below_size z6_12_) : w.heap.size ≤ gb283)); have _ := A_ ((by rw [hg]; exact (below_size z6_12_) : w.heap.size ≤ gb283)); have _ := A_ ((by rw [hg]; exact Nat.ne_of_lt (blk_lt (g := gb264) (o := .cells #[.slice A0_0 l0_0.length c0_0] 24 (0, 0)) z6_1_) : gb264 ≠ gb283)); have _ := A_ ((by rw [hg]; exact Nat.ne_of_gt (blk_lt (g := gb264) (o := .cells #[.slice A0_0 l0_0.length c0_0] 24 (0, 0)) z6_1_) : gb283 ≠ gb264)); have _ := A_ ((by rw [hg]; exact Nat.ne_of_lt (blk_lt (g := gb265) (o := .cells #[.slice A1_0 l1_0.length c1_0] 24 (0, 0)) z6_5_) : gb265 ≠ gb283)); have _ := A_ ((by rw [hg]; exact Nat.ne_of_gt (blk_lt (g := gb265) (o := .cells #[.slice A1_0 l1_0.length c1_0] 24 (0, 0)) z6_5_) : gb283 ≠ gb265)); have _ := A_ ((by rw [hg]; exact Nat.ne_of_lt (blk_lt (g := gb279) (o := .cells #[.slice Ao42 t276.length co42] 34 (0, 0)) z6_15_) : gb279 ≠ gb283)); have _ := A_ ((by rw [hg]; exact Nat.ne_of_gt (blk_lt (g := gb279) (o := .cells #[.slice Ao42 t276.length co42] 34 (0, 0)) z6_15_) : gb283 ≠ gb279)); clear HO270 HO273 HO278 HO282 BK264 BK265 BK279 HB; rename_i HO270 HO273 HO278 HO282 BK264 BK265 BK279 HB BK283 GW283 GE283 NB264_283 NB283_264 NB265_283 NB283_265 NB279_283 NB283_279; clear hb hbox hg; obtain ⟨Ao49, co49, eo49⟩ := Kd.R_slice HO282.out; subst eo49; have hnb50 := NB283_264.out; have hnc50 := NB264_283.out; have hnb51 := NB283_265.out; have hnc51 := NB265_283.out; have hnb52 := NB283_279.out; have hnc52 := NB279_283.out; have hcz53_0 : w48.cell? ⟨gb283, 0, none⟩ = some (.slice none 0 0) := (blk_cell BK283.out 0).trans rfl; have hfz53_0 := blk_frozen BK283.out 0; have hcz54_0 : w48.cell? ⟨gb279, 0, none⟩ = some (.slice Ao42 t276.length co42) := (blk_cell BK279.out 0).trans rfl; have hfz54_0 := blk_frozen BK279.out 0) | ((with_reducible refine gate_callee (f := 37) rfl ?_); refine goesL_ (some 37) rfl rfl Try.func37 (by kernel_rfl) rfl #[.agg #[.slice Ao42 t276.length co42], .agg #[.slice Ao49 t280.length co49]] rfl z6_2_ ?_; (with_reducible refine (impl_DoTheSame.calls k _ _ t276 _ _ t280 t284 t285 _ ?side1 ?side2 ?side3 ?side4 A24.out).mono ?_); (case side1 => refine (Kd.R_reads' (e := 89) (base := w.heap.size) (ok := fun k_ => (((True ∧ some k_ ≠ (.slice Ao36 t268.length co36 : Value).ownBlock) ∧ some k_ ≠ (.slice Ao37 t271.length co37 : Value).ownBlock) ∧ some k_ ≠ (.slice Ao49 t280.length co49 : Value).ownBlock)) (n := t276.length) (c := co42) ?_).2.2; exact z6_29_); (case side2 => exact (Kd.R_reads' HO278.out).2.1); (case side3 => refine (Kd.R_reads' (e := 89) (base := w.heap.size) (ok := fun k_ => (((True ∧ some k_ ≠ (.slice Ao36 t268.length co36 : Value).ownBlock) ∧ some k_ ≠ (.slice Ao37 t271.length co37 : Value).ownBlock) ∧ some k_ ≠ (.slice Ao42 t276.length co42 : Value).ownBlock)) (n := t280.length) (c := co49) ?_).2.2; exact z6_28_); (case side4 => exact (Kd.R_reads' HO282.out).2.1); rintro e w55 ⟨rfl, hb⟩; refine ⟨_, rfl, ?_⟩; have _ := A_ (Kd.R_below (by (with_reducible repeat (first | apply Kd.R_alloc | apply Kd.R_drewN | apply Kd.R_drew)); exact (Kd.R_mono (Kd.R_far (p := ⟨gb283, 0, none⟩) (Kd.R_types HO270.out BK283.out (by decide)) (fun _ hk => hk.2) (.slice Ao49 t280.length co49)) (fun _ h_ => h_.1))) hb); have _ := A_ (Kd.R_below (by (with_reducible repeat (first | apply Kd.R_alloc | apply Kd.R_drewN | apply Kd.R_drew)); exact (Kd.R_mono (Kd.R_far (p := ⟨gb283, 0, none⟩) (Kd.R_types HO273.out BK283.out (by decide)) (fun _ hk => hk.2) (.slice Ao49 t280.length co49)) (fun _ h_ => h_.1))) hb); have _ := A_ (Kd.R_below z6_29_ hb); have _ := A_ (Kd.R_below z6_28_ hb); have _ := A_ (blk_below (g := gb264) (o := .cells #[.slice A0_0 l0_0.length c0_0] 24 (0, 0)) (by (with_reducible repeat (first | refine blk_drewN ?_ _ | refine blk_drew ?_ | refine blk_alloc ?_ _)); refine blk_far ?_ NB264_283.out _; (with_reducible repeat (first | refine blk_drewN ?_ _ | refine blk_drew ?_ | refine blk_alloc ?_ _)); exact BK264.out) hb); have _ := A_ (blk_below (g := gb265) (o := .cells #[.slice A1_0 l1_0.length c1_0] 24 (0, 0)) (by (with_reducible repeat (first | refine blk_drewN ?_ _ | refine blk_drew ?_ | refine blk_alloc ?_ _)); refine blk_far ?_ NB265_283.out _; (with_reducible repeat (first | refine blk_drewN ?_ _ | refine blk_drew ?_ | refine blk_alloc ?_ _)); exact BK265.out) hb); have _ := A_ (blk_below (g := gb279) (o := .cells #[.slice Ao42 t276.length co42] 34 (0, 0)) (by (with_reducible repeat (first | refine blk_drewN ?_ _ | refine blk_drew ?_ | refine blk_alloc ?_ _)); refine blk_far ?_ NB279_283.out _; (with_reducible repeat (first | refine blk_drewN ?_ _ | refine blk_drew ?_ | refine blk_alloc ?_ _)); exact BK279.out) hb); have _ := A_ (blk_below (g := gb283) (o := .cells #[.slice Ao49 t280.length co49] 34 (0, 0)) (by (with_reducible repeat (first | refine blk_drewN ?_ _ | refine blk_drew ?_ | refine blk_alloc ?_ _)); refine blk_put (cs := #[.slice none 0 0]) ?_ 0 _ rfl; (with_reducible repeat (first | refine blk_drewN ?_ _ | refine blk_drew ?_ | refine blk_alloc ?_ _)); exact BK283.out) hb); have _ := A_ (below_step z6_4_ hb); clear HO270 HO273 HO278 HO282 BK264 BK265 BK279 BK283 HB; rename_i HO270 HO273 HO278 HO282 BK264 BK265 BK279 BK283 HB; (try clear hb)))
   (try simp only [Act.put, sA_, sB_, sC_])
   go_cut [47] (fun v47 wc => ∃ (kq : Nat) (x47_24 : Bool), v47 = .bool x47_24 ∧ Aside0 (laws_FnExactDoTheSame.j0 kq x47_24 l0_0 l1_0 t276 t280 = some true) ∧ Aside0 (kq ≤ k) ∧ Aside0 (Kd.R k89 89 wc w.heap.size (fun k_ => some k_ ≠ ((.slice Ao49 t280.length co49) : Value).ownBlock) (.slice Ao42 t276.length co42) t276) ∧ Aside0 (Kd.R k89 89 wc w.heap.size (fun k_ => some k_ ≠ ((.slice Ao42 t276.length co42) : Value).ownBlock) (.slice Ao49 t280.length co49) t280) ∧ Aside0 (wc.heap[gb264]? = some (.cells #[(.slice A0_0 l0_0.length c0_0)] 24 (0, 0))) ∧ Aside0 (wc.heap[gb265]? = some (.cells #[(.slice A1_0 l1_0.length c1_0)] 24 (0, 0))) ∧ Aside0 (wc.heap[gb279]? = some (.cells #[(.slice Ao42 t276.length co42)] 34 (0, 0))) ∧ Aside0 (wc.heap[gb283]? = some (.cells #[(.slice Ao49 t280.length co49)] 34 (0, 0))) ∧ Aside0 (Below w.heap.size w wc))
   case first =>
    have H := HC25.out
    clear HC25
    by_cases c56 : (t284 != t274) = true
    ·
     rw [if_pos c56] at H
     have c56b0 : (t284 != t274) = true := c56
     (try (have c56b1 : decide (t284 = t274) = false := by simpa using c56))
     (try (have c56b2 : (t284 == t274) = false := by simpa using c56))
     (try (have c56b3 : ¬ (t284 = t274) := by simpa using c56))
     clear c56
     (first | rw [c56b0] | (simp only [i64_w, i32_w]; rw [c56b0]) | skip)
     have H' := A_ H
     clear H
     go_wp2
     go_meet
     case rel => exact ⟨_, (true), z6_24_, H', ⟨z6_37_⟩, ⟨z6_39_⟩, ⟨z6_38_⟩, ⟨z6_1_⟩, ⟨z6_5_⟩, ⟨z6_15_⟩, ⟨z6_18_⟩, ⟨z6_4_⟩⟩
    ·
     rw [if_neg c56] at H
     have c56b0 : (t284 != t274) = false := by simpa using c56
     (try (have c56b1 : decide (t284 = t274) = true := by simpa using c56))
     (try (have c56b2 : (t284 == t274) = true := by simpa using c56))
     clear c56
     (first | rw [c56b0] | (simp only [i64_w, i32_w]; rw [c56b0]) | skip)
     have H' := A_ H
     clear H
     go_wp2
     go_meet
     case rel => exact ⟨_, ((t285 != t275)), z6_24_, H', ⟨z6_37_⟩, ⟨z6_39_⟩, ⟨z6_38_⟩, ⟨z6_1_⟩, ⟨z6_5_⟩, ⟨z6_15_⟩, ⟨z6_18_⟩, ⟨z6_4_⟩⟩
   case rest =>
    clear HC25
    try clear c1
    try clear c2
    try clear p2
    try clear c3
    try clear c4
    try clear c4b0
    try clear c5
    try clear c7
    try clear c8
    try clear c11
    try clear c11b0
    try clear c14
    try clear c17
    try clear c28
    try clear c36
    try clear c37
    try clear c43
    try clear c44
    try clear c50
    try clear c51
    try clear c52
    try clear c56
    try clear c56b0
    try clear c56b1
    try clear c56b2
    try clear hcz15_0
    try clear hcz17_0
    try clear hcz29_0
    try clear hcz31_0
    try clear hcz39_0
    try clear hcz45_0
    try clear hcz46_0
    try clear hcz53_0
    try clear hcz54_0
    try clear hcz8_0
    try clear hfz15_0
    try clear hfz17_0
    try clear hfz29_0
    try clear hfz31_0
    try clear hfz39_0
    try clear hfz45_0
    try clear hfz46_0
    try clear hfz53_0
    try clear hfz54_0
    try clear hfz8_0
    obtain ⟨kq, x47_24, rfl, HA, HJ24, HO_280000, HO_284000, BK264, BK265, BK279, BK283, HB⟩ := hcut
    cases kq with
    | zero => exact absurd HA.out (by simp [laws_FnExactDoTheSame.j0])
    | succ kj24 =>
     have H := HA.out
     clear HA
     simp only [laws_FnExactDoTheSame.j0] at H
     by_cases c57 : x47_24 = true
     ·
      subst c57
      have H1 : (some false) = some true := by first | (rw [if_pos rfl] at H; exact H) | rfl
      clear H
      have H := H1
      clear H1
      exact absurd H (by decide)
     ·
      replace c57 := Bool.eq_false_iff.mpr c57
      subst c57
      have H1 : ((laws_toTree.f kj24 l0_0).bind fun t286 => ((laws_eqTree.f kj24 t276 t286).bind fun t289 => (if t289 = true then ((laws_toTree.f kj24 l1_0).bind fun t290 => ((laws_eqTree.f kj24 t280 t290).bind fun t293 => (if t293 = true then (some true) else (some false)))) else (some false)))) = some true := by first | (rw [if_neg (show ¬ (false = true) by decide)] at H; exact H) | rfl
      clear H
      have H := H1
      clear H1
      replace H := Option.bind_eq_some_iff.mp H
      obtain ⟨t286, A580, H⟩ := H
      try dsimp only at H
      have A58 := A_ A580
      clear A580
      replace H := Option.bind_eq_some_iff.mp H
      obtain ⟨t289, A590, H⟩ := H
      try dsimp only at H
      have A59 := A_ A590
      clear A590
      by_cases c60 : t289 = true
      ·
       subst c60
       have H1 : ((laws_toTree.f kj24 l1_0).bind fun t290 => ((laws_eqTree.f kj24 t280 t290).bind fun t293 => (if t293 = true then (some true) else (some false)))) = some true := by first | (rw [if_pos rfl] at H; exact H) | rfl
       clear H
       have H := H1
       clear H1
       replace H := Option.bind_eq_some_iff.mp H
       obtain ⟨t290, A610, H⟩ := H
       try dsimp only at H
       have A61 := A_ A610
       clear A610
       replace H := Option.bind_eq_some_iff.mp H
       obtain ⟨t293, A620, H⟩ := H
       try dsimp only at H
       have A62 := A_ A620
       clear A620
       by_cases c63 : t293 = true
       ·
        subst c63
        have H1 : (some true) = some true := by first | (rw [if_pos rfl] at H; exact H) | rfl
        clear H
        have H := H1
        clear H1
        clear H
        try go_wp2
        have _ := A_ (Kd.R_drew HO_280000.out)
        have _ := A_ (Kd.R_drew HO_284000.out)
        have _ := A_ (blk_drew BK264.out)
        have _ := A_ (blk_drew BK265.out)
        have _ := A_ (blk_drew BK279.out)
        have _ := A_ (blk_drew BK283.out)
        have _ := A_ (below_drew1 HB.out)
        clear HO_280000 HO_284000 BK264 BK265 BK279 BK283 HB
        rename_i HO_280000 HO_284000 BK264 BK265 BK279 BK283 HB
        refine start_ (n := 5) (S := fun w' => w'.cell? ⟨gb279, 0, none⟩ = some (.slice Ao42 t276.length co42) ∧ w'.cell? ⟨gb264, 0, none⟩ = some (.slice A0_0 l0_0.length c0_0)) (ds := []) #[false, false, false, false, false] (by kernel_rfl) rfl rfl ⟨(blk_cell BK279.out 0).trans rfl, (blk_cell BK264.out 0).trans rfl⟩ (fun hHeld => ?_)
        generalize wc.drew = w64 at HO_280000 HO_284000 BK264 BK265 BK279 BK283 HB hHeld ⊢
        refine take_ (i := 0) (N := some 48) (v := ?_) (a' := ?_) #[true, false, false, false, false] rfl rfl (by kernel_rfl) (fun _ _ _ h => h) (Or.inl ⟨by rfl, ?_⟩) hHeld ?_ ?_
        rotate_left
        ·
         rintro w' ⟨s0, s1⟩
         go_simp
         with_reducible rfl
        rotate_left
        ·
         simp only [Act.put, sA_, sB_, sC_, i64_w, i32_w]
         rfl
        refine take_ (i := 1) (N := some 49) (v := ?_) (a' := ?_) #[true, true, false, false, false] rfl rfl (by kernel_rfl) (fun _ _ _ h => h) (Or.inl ⟨by rfl, ?_⟩) hHeld ?_ ?_
        rotate_left
        ·
         rintro w' ⟨s0, s1⟩
         go_simp
         with_reducible rfl
        rotate_left
        ·
         simp only [Act.put, sA_, sB_, sC_, i64_w, i32_w]
         rfl
        refine one_ (i := 2) (N := some 50) #[true, true, true, false, false] rfl rfl (by kernel_rfl) (by decide) (fun K hK => ?_)
        refine goes_ Try.func17 (by kernel_rfl) rfl #[.agg #[.slice A0_0 l0_0.length c0_0]] (by rfl) rfl rfl z6_2_ ?_
        with_reducible refine (laws_toTree.calls kj24 _ _ l0_0 t286 _ ?side1 ?side2 A58.out).mono ?_
        (case side1 => have hx_ := (Kd.C_below HR0_0.out HB.out); exact kc_)
        (case side2 => exact HC0_0.out)
        rintro e w65 ⟨v287, rfl, ho0, hb⟩
        refine ⟨_, rfl, ?_⟩
        have _ := A_ (Kd.R_elder' z6_21_ (Kd.R_base ho0) hb)
        have _ := A_ (Kd.R_elder' z6_20_ (Kd.R_base ho0) hb)
        have _ := A_ (Kd.R_lower (Kd.R_new' (Kd.R_new' ho0 (Kd.R_lt z6_21_)) (Kd.R_lt z6_20_)) (below_size z6_4_))
        have _ := A_ (blk_below (g := gb264) (o := .cells #[.slice A0_0 l0_0.length c0_0] 24 (0, 0)) z6_1_ hb)
        have _ := A_ (blk_below (g := gb265) (o := .cells #[.slice A1_0 l1_0.length c1_0] 24 (0, 0)) z6_5_ hb)
        have _ := A_ (blk_below (g := gb279) (o := .cells #[.slice Ao42 t276.length co42] 34 (0, 0)) z6_15_ hb)
        have _ := A_ (blk_below (g := gb283) (o := .cells #[.slice Ao49 t280.length co49] 34 (0, 0)) z6_18_ hb)
        have _ := A_ (below_step z6_4_ hb)
        clear HO_280000 HO_284000 BK264 BK265 BK279 BK283 HB
        rename_i HO_280000 HO_284000 HO288 BK264 BK265 BK279 BK283 HB
        (try clear hb)
        (try clear hb2)
        (try clear hk)
        (try clear hi)
        (try clear ho0)
        obtain ⟨Ao66, co66, eo66⟩ := Kd.R_slice HO288.out
        (first | subst eo66 | (injection eo66 with f1_ f2_ f3_; have f4_ := f1_.symm; have f5_ := f3_.symm; clear f1_ f2_ f3_; subst f4_; subst f5_))
        refine hK.out _ _ ⟨(blk_cell BK279.out 0).trans rfl, (blk_cell BK264.out 0).trans rfl⟩ (fun hHeld => ?_)
        clear hK K
        refine norm_ (a' := ?_) ?_ ?_
        rotate_left
        ·
         show Act.put _ (some 50) _ = _
         simp only [Act.put, sA_, sB_, sC_, i64_w, i32_w]
         rfl
        refine one_ (i := 3) (N := some 51) #[true, true, true, true, false] rfl rfl (by kernel_rfl) (by decide) (fun K hK => ?_)
        refine goes_ Try.func21 (by kernel_rfl) rfl #[.agg #[.slice Ao42 t276.length co42], .agg #[.slice Ao66 t286.length co66]] (by rfl) rfl rfl z6_2_ ?_
        with_reducible refine (laws_eqTree.calls kj24 _ _ t276 _ _ t286 true _ ?side1 ?side2 ?side3 ?side4 A59.out).mono ?_
        (case side1 => have hx_ := (Kd.R_reads' HO_280000.out).2.2; exact kc_)
        (case side2 => exact (Kd.R_reads' HO_280000.out).2.1)
        (case side3 => have hx_ := (Kd.R_reads' HO288.out).2.2; exact kc_)
        (case side4 => exact (Kd.R_reads' HO288.out).2.1)
        rintro e w67 ⟨rfl, hb⟩
        refine ⟨_, rfl, ?_⟩
        have _ := A_ (Kd.R_below z6_21_ hb)
        have _ := A_ (Kd.R_below z6_20_ hb)
        have _ := A_ (Kd.R_below z6_27_ hb)
        have _ := A_ (blk_below (g := gb264) (o := .cells #[.slice A0_0 l0_0.length c0_0] 24 (0, 0)) z6_1_ hb)
        have _ := A_ (blk_below (g := gb265) (o := .cells #[.slice A1_0 l1_0.length c1_0] 24 (0, 0)) z6_5_ hb)
        have _ := A_ (blk_below (g := gb279) (o := .cells #[.slice Ao42 t276.length co42] 34 (0, 0)) z6_15_ hb)
        have _ := A_ (blk_below (g := gb283) (o := .cells #[.slice Ao49 t280.length co49] 34 (0, 0)) z6_18_ hb)
        have _ := A_ (below_step z6_4_ hb)
        clear HO_280000 HO_284000 HO288 BK264 BK265 BK279 BK283 HB
        rename_i HO_280000 HO_284000 HO288 BK264 BK265 BK279 BK283 HB
        (try clear hb)
        (try clear hb2)
        (try clear hk)
        (try clear hi)
        refine hK.out _ _ ⟨(blk_cell BK279.out 0).trans rfl, (blk_cell BK264.out 0).trans rfl⟩ (fun hHeld => ?_)
        clear hK K
        refine norm_ (a' := ?_) ?_ ?_
        rotate_left
        ·
         show Act.put _ (some 51) _ = _
         simp only [Act.put, sA_, sB_, sC_, i64_w, i32_w]
         rfl
        refine pure_ (i := 4) (N := some 52) (v := ?_) (a' := ?_) #[true, true, true, true, true] rfl rfl (by kernel_rfl) (fun _ _ _ h => h) (Or.inl ⟨by rfl, ?_⟩) ?_ ?_
        rotate_left
        ·
         intro w'
         go_simp
         with_reducible rfl
        rotate_left
        ·
         simp only [Act.put, sA_, sB_, sC_, i64_w, i32_w]
         rfl
        refine done_ (by kernel_rfl) ?_
        try go_wp2
        have _ := A_ (Kd.R_drew HO_280000.out)
        have _ := A_ (Kd.R_drew HO_284000.out)
        have _ := A_ (Kd.R_drew HO288.out)
        have _ := A_ (blk_drew BK264.out)
        have _ := A_ (blk_drew BK265.out)
        have _ := A_ (blk_drew BK279.out)
        have _ := A_ (blk_drew BK283.out)
        have _ := A_ (below_drew1 HB.out)
        clear HO_280000 HO_284000 HO288 BK264 BK265 BK279 BK283 HB
        rename_i HO_280000 HO_284000 HO288 BK264 BK265 BK279 BK283 HB
        refine start_ (n := 5) (S := fun w' => w'.cell? ⟨gb283, 0, none⟩ = some (.slice Ao49 t280.length co49) ∧ w'.cell? ⟨gb265, 0, none⟩ = some (.slice A1_0 l1_0.length c1_0)) (ds := []) #[false, false, false, false, false] (by kernel_rfl) rfl rfl ⟨(blk_cell BK283.out 0).trans rfl, (blk_cell BK265.out 0).trans rfl⟩ (fun hHeld => ?_)
        generalize w67.drew = w68 at HO_280000 HO_284000 HO288 BK264 BK265 BK279 BK283 HB hHeld ⊢
        refine take_ (i := 0) (N := some 53) (v := ?_) (a' := ?_) #[true, false, false, false, false] rfl rfl (by kernel_rfl) (fun _ _ _ h => h) (Or.inl ⟨by rfl, ?_⟩) hHeld ?_ ?_
        rotate_left
        ·
         rintro w' ⟨s0, s1⟩
         go_simp
         with_reducible rfl
        rotate_left
        ·
         simp only [Act.put, sA_, sB_, sC_, i64_w, i32_w]
         rfl
        refine take_ (i := 1) (N := some 54) (v := ?_) (a' := ?_) #[true, true, false, false, false] rfl rfl (by kernel_rfl) (fun _ _ _ h => h) (Or.inl ⟨by rfl, ?_⟩) hHeld ?_ ?_
        rotate_left
        ·
         rintro w' ⟨s0, s1⟩
         go_simp
         with_reducible rfl
        rotate_left
        ·
         simp only [Act.put, sA_, sB_, sC_, i64_w, i32_w]
         rfl
        refine one_ (i := 2) (N := some 55) #[true, true, true, false, false] rfl rfl (by kernel_rfl) (by decide) (fun K hK => ?_)
        refine goes_ Try.func17 (by kernel_rfl) rfl #[.agg #[.slice A1_0 l1_0.length c1_0]] (by rfl) rfl rfl z6_2_ ?_
        with_reducible refine (laws_toTree.calls kj24 _ _ l1_0 t290 _ ?side1 ?side2 A61.out).mono ?_
        (case side1 => have hx_ := (Kd.C_below HR1_0.out HB.out); exact kc_)
        (case side2 => exact HC1_0.out)
        rintro e w69 ⟨v291, rfl, ho0, hb⟩
        refine ⟨_, rfl, ?_⟩
        have _ := A_ (Kd.R_elder' z6_21_ (Kd.R_base ho0) hb)
        have _ := A_ (Kd.R_elder' z6_20_ (Kd.R_base ho0) hb)
        have _ := A_ (Kd.R_elder' z6_27_ (Kd.R_base ho0) hb)
        have _ := A_ (Kd.R_lower (Kd.R_new' (Kd.R_new' (Kd.R_new' ho0 (Kd.R_lt z6_21_)) (Kd.R_lt z6_20_)) (Kd.R_lt z6_27_)) (below_size z6_4_))
        have _ := A_ (blk_below (g := gb264) (o := .cells #[.slice A0_0 l0_0.length c0_0] 24 (0, 0)) z6_1_ hb)
        have _ := A_ (blk_below (g := gb265) (o := .cells #[.slice A1_0 l1_0.length c1_0] 24 (0, 0)) z6_5_ hb)
        have _ := A_ (blk_below (g := gb279) (o := .cells #[.slice Ao42 t276.length co42] 34 (0, 0)) z6_15_ hb)
        have _ := A_ (blk_below (g := gb283) (o := .cells #[.slice Ao49 t280.length co49] 34 (0, 0)) z6_18_ hb)
        have _ := A_ (below_step z6_4_ hb)
        clear HO_280000 HO_284000 HO288 BK264 BK265 BK279 BK283 HB
        rename_i HO_280000 HO_284000 HO288 HO292 BK264 BK265 BK279 BK283 HB
        (try clear hb)
        (try clear hb2)
        (try clear hk)
        (try clear hi)
        (try clear ho0)
        obtain ⟨Ao70, co70, eo70⟩ := Kd.R_slice HO292.out
        (first | subst eo70 | (injection eo70 with f1_ f2_ f3_; have f4_ := f1_.symm; have f5_ := f3_.symm; clear f1_ f2_ f3_; subst f4_; subst f5_))
        refine hK.out _ _ ⟨(blk_cell BK283.out 0).trans rfl, (blk_cell BK265.out 0).trans rfl⟩ (fun hHeld => ?_)
        clear hK K
        refine norm_ (a' := ?_) ?_ ?_
        rotate_left
        ·
         show Act.put _ (some 55) _ = _
         simp only [Act.put, sA_, sB_, sC_, i64_w, i32_w]
         rfl
        refine one_ (i := 3) (N := some 56) #[true, true, true, true, false] rfl rfl (by kernel_rfl) (by decide) (fun K hK => ?_)
        refine goes_ Try.func21 (by kernel_rfl) rfl #[.agg #[.slice Ao49 t280.length co49], .agg #[.slice Ao70 t290.length co70]] (by rfl) rfl rfl z6_2_ ?_
        with_reducible refine (laws_eqTree.calls kj24 _ _ t280 _ _ t290 true _ ?side1 ?side2 ?side3 ?side4 A62.out).mono ?_
        (case side1 => have hx_ := (Kd.R_reads' HO_284000.out).2.2; exact kc_)
        (case side2 => exact (Kd.R_reads' HO_284000.out).2.1)
        (case side3 => have hx_ := (Kd.R_reads' HO292.out).2.2; exact kc_)
        (case side4 => exact (Kd.R_reads' HO292.out).2.1)
        rintro e w71 ⟨rfl, hb⟩
        refine ⟨_, rfl, ?_⟩
        have _ := A_ (Kd.R_below z6_21_ hb)
        have _ := A_ (Kd.R_below z6_20_ hb)
        have _ := A_ (Kd.R_below z6_27_ hb)
        have _ := A_ (Kd.R_below (by (with_reducible repeat (first | apply Kd.R_alloc | apply Kd.R_drewN | apply Kd.R_drew)); exact HO292.out) hb)
        have _ := A_ (blk_below (g := gb264) (o := .cells #[.slice A0_0 l0_0.length c0_0] 24 (0, 0)) z6_1_ hb)
        have _ := A_ (blk_below (g := gb265) (o := .cells #[.slice A1_0 l1_0.length c1_0] 24 (0, 0)) z6_5_ hb)
        have _ := A_ (blk_below (g := gb279) (o := .cells #[.slice Ao42 t276.length co42] 34 (0, 0)) z6_15_ hb)
        have _ := A_ (blk_below (g := gb283) (o := .cells #[.slice Ao49 t280.length co49] 34 (0, 0)) z6_18_ hb)
        have _ := A_ (below_step z6_4_ hb)
        clear HO_280000 HO_284000 HO288 HO292 BK264 BK265 BK279 BK283 HB
        rename_i HO_280000 HO_284000 HO288 HO292 BK264 BK265 BK279 BK283 HB
        (try clear hb)
        (try clear hb2)
        (try clear hk)
        (try clear hi)
        refine hK.out _ _ ⟨(blk_cell BK283.out 0).trans rfl, (blk_cell BK265.out 0).trans rfl⟩ (fun hHeld => ?_)
        clear hK K
        refine norm_ (a' := ?_) ?_ ?_
        rotate_left
        ·
         show Act.put _ (some 56) _ = _
         simp only [Act.put, sA_, sB_, sC_, i64_w, i32_w]
         rfl
        refine pure_ (i := 4) (N := some 57) (v := ?_) (a' := ?_) #[true, true, true, true, true] rfl rfl (by kernel_rfl) (fun _ _ _ h => h) (Or.inl ⟨by rfl, ?_⟩) ?_ ?_
        rotate_left
        ·
         intro w'
         go_simp
         with_reducible rfl
        rotate_left
        ·
         simp only [Act.put, sA_, sB_, sC_, i64_w, i32_w]
         rfl
        refine done_ (by kernel_rfl) ?_
        try go_wp2
        go_ret
        exact ⟨z6_19_, z6_4_⟩
       ·
        replace c63 := Bool.eq_false_iff.mpr c63
        subst c63
        have H1 : (some false) = some true := by first | (rw [if_neg (show ¬ (false = true) by decide)] at H; exact H) | rfl
        clear H
        have H := H1
        clear H1
        exact absurd H (by decide)
      ·
       replace c60 := Bool.eq_false_iff.mpr c60
       subst c60
       have H1 : (some false) = some true := by first | (rw [if_neg (show ¬ (false = true) by decide)] at H; exact H) | rfl
       clear H
       have H := H1
       clear H1
       exact absurd H (by decide)
end Go.Proofs.Ytpfnohdnaocpdaa.PT

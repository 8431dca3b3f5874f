import Derived.Test.YtpfnohdnaocpdaaPTx0
import Derived.Test.YtpfnohdnaocpdaaPTleast
import Derived.Test.YtpfnohdnaocpdaaPTsLeast
import Derived.Test.YtpfnohdnaocpdaaPTvalidTree
import Derived.Test.YtpfnohdnaocpdaaPTx2
namespace Go.Proofs.Ytpfnohdnaocpdaa.PT
open Go.RowKit Go.Proofs.YtpfnohdnaocpdaaW.PrintWords Go.Proofs.YtpfnohdnaocpdaaW.PrintLast Go.Proofs.YtpfnohdnaocpdaaW.PrintMore Go.Proofs.YtpfnohdnaocpdaaRP
attribute [local go_sem] max2_int min2_int max_two min_two max_three min_three max_four min_four Go.Proofs.YtpfnohdnaocpdaaRP.max_eight Go.Proofs.YtpfnohdnaocpdaaRP.tmod_len   -- for this text's walks alone
set_option linter.unusedVariables false
set_option linter.unusedSimpArgs false
theorem z5_1_ {P : Prop} (h : P := by repeat (first | (with_reducible first | exact HB.out | apply below_alloc | apply pw_below_drewN | apply below_drew1) | exact HB.out)) : P := h
theorem z5_2_ {P : Prop} (h : P := by (with_reducible repeat (first | refine blk_drewN ?_ _ | refine blk_drew ?_ | refine blk_alloc ?_ _)); exact BK223.out) : P := h
theorem z5_3_ {P : Prop} (h : P := by repeat (first | (with_reducible first | exact HB.out | apply below_alloc | apply pw_below_drewN | apply below_drew1 | refine below_set ?_ GE244.out | refine below_set ?_ GE245.out) | exact HB.out)) : P := h
theorem z5_4_ {P : Prop} (h : P := by repeat (first | (with_reducible first | exact HB.out | apply below_alloc | apply pw_below_drewN | apply below_drew1 | refine below_set ?_ GE223.out | refine below_set ?_ GE224.out) | exact HB.out)) : P := h
theorem z5_5_ {P : Prop} (h : P := by (with_reducible repeat (first | refine blk_drewN ?_ _ | refine blk_drew ?_ | refine blk_alloc ?_ _)); exact BK244.out) : P := h
theorem z5_6_ {P : Prop} (h : P := by repeat (first | (with_reducible first | exact HB.out | apply below_alloc | apply pw_below_drewN | apply below_drew1 | refine below_set ?_ GE244.out) | exact HB.out)) : P := h
theorem z5_7_ {P : Prop} (h : P := by repeat (first | (with_reducible first | exact HB.out | apply below_alloc | apply pw_below_drewN | apply below_drew1 | refine below_set ?_ GE223.out) | exact HB.out)) : P := h
theorem z5_8_ {P : Prop} (h : P := by (try simp only [List.map_toArray, List.map_cons, List.map_nil]); first | done | rfl | (simp only [List.length_drop, List.length_take]; rfl)) : P := h
theorem z5_9_ {P : Prop} (h : P := by repeat (first | exact (Kd.C_below HR0_0.out HB.out) | (with_reducible refine Kd.C_alloc ?_ _) | (with_reducible refine Kd.C_drewN ?_ _) | (with_reducible refine Kd.C_drew ?_))) : P := h
theorem z5_10_ {P : Prop} (h : P := by first | rfl | (simp [errW_none, errW_some] <;> rfl) | (simp [*, errW_none, errW_some] <;> rfl)) : P := h
theorem z5_11_ {P : Prop} (h : P := by (with_reducible repeat (first | refine blk_drewN ?_ _ | refine blk_drew ?_ | refine blk_alloc ?_ _)); refine blk_put (cs := #[.slice none 0 0]) ?_ 0 _ rfl; (with_reducible repeat (first | refine blk_drewN ?_ _ | refine blk_drew ?_ | refine blk_alloc ?_ _)); exact BK245.out) : P := h
theorem z5_12_ {P : Prop} (h : P := by (with_reducible repeat (first | refine blk_drewN ?_ _ | refine blk_drew ?_ | refine blk_alloc ?_ _)); refine blk_put (cs := #[.slice none 0 0]) ?_ 0 _ rfl; (with_reducible repeat (first | refine blk_drewN ?_ _ | refine blk_drew ?_ | refine blk_alloc ?_ _)); exact BK224.out) : P := h
theorem z5_13_ {P : Prop} (h : P := by (with_reducible repeat (first | refine blk_drewN ?_ _ | refine blk_drew ?_ | refine blk_alloc ?_ _)); exact BK245.out) : P := h
theorem z5_14_ {P : Prop} (h : P := by (with_reducible repeat (first | refine blk_drewN ?_ _ | refine blk_drew ?_ | refine blk_alloc ?_ _)); exact BK224.out) : P := h
theorem z5_15_ {P : Prop} (h : P := by first | exact Kd.R_nil _ _ _ _ _ | exact Kd.N_nil _ _ _ _ _ | exact Kd.V_nil _ _ _ _ _ | exact Kd.Q_nil _ _ _ _ _ | exact Kd.S_nil _ _ _ _ _) : P := h
/-! ### spec_LeastTree: function 38 -/
def spec_LeastTree.f (k : Nat) (l0_0 : List (S89)) : Option ((List (S89)) × Int) := (spec_l06Ok.f k [(⟨l0_0⟩ : S34)]).bind fun t226 => (if t226 = true then ((spec_l06Least.f k [(⟨l0_0⟩ : S34)]).bind fun t228 => (some (t228, 0))) else (some (([] : List (S89)), 1)))
theorem spec_LeastTree.mono : ∀ a0 k, LeO (spec_LeastTree.f k a0) (spec_LeastTree.f (k + 1) a0) := by
 intro a0 k
 unfold spec_LeastTree.f
 repeat' first
   | (with_reducible exact spec_l06Least.mono _ _)
   | (with_reducible exact spec_l06Ok.mono _ _)
   | (with_reducible exact LeO.refl _)
   | (with_reducible exact LeO.none _)
   | (with_reducible refine LeO.ite ?_ ?_)
   | (with_reducible refine LeO.bind ?_ (fun _ => ?_))
   | exact LeO.none _
   | refine LeO.ite ?_ ?_
   | refine LeO.bind ?_ (fun _ => ?_)
set_option maxHeartbeats 8000000 in
set_option maxRecDepth 100000 in
theorem spec_LeastTree.calls (k : Nat) (A0_0 : Option Addr) (c0_0 : Nat) (l0_0 : List (S89)) (r1 : List (S89)) (r2 : Int) (w : World) (hr0_0 : Kd.C k89 w A0_0 l0_0.length l0_0) (hc0_0 : l0_0.length ≤ c0_0) (h : spec_LeastTree.f k l0_0 = some (r1, r2)) :
  Calls Try.prog 38 #[.agg #[.slice A0_0 l0_0.length c0_0]] w fun e w' => ∃ v0_ : Value, e = .returned (.tuple #[.agg #[v0_], .int .i64 r2]) ∧ Kd.R k89 89 w' w.heap.size (fun _ => True) v0_ r1 ∧ Below w.heap.size w w' := by
 have hu34 := Try.underlying34
 have HR0_0 := A_ hr0_0
 have HC0_0 := A_ hc0_0
 clear hr0_0 hc0_0
 have HB := A_ (Below.refl w.heap.size w)
 have H : ((spec_l06Ok.f k [(⟨l0_0⟩ : S34)]).bind fun t226 => (if t226 = true then ((spec_l06Least.f k [(⟨l0_0⟩ : S34)]).bind fun t228 => (some (t228, 0))) else (some (([] : List (S89)), 1)))) = some (r1, r2) := h
 clear h
 replace H := Option.bind_eq_some_iff.mp H
 obtain ⟨t226, A20, H⟩ := H
 try dsimp only at H
 have A2 := A_ A20
 clear A20
 by_cases c3 : t226 = true
 ·
  subst c3
  have H1 := H; rw [if_pos rfl] at H1
  clear H
  have H := H1
  clear H1
  replace H := Option.bind_eq_some_iff.mp H
  obtain ⟨t228, A40, H⟩ := H
  try dsimp only at H
  have A4 := A_ A40
  clear A40
  simp only [Option.some.injEq, Prod.mk.injEq] at H
  obtain ⟨rfl, rfl⟩ := H
  go_enter Try.func38, Try.ntmps38
  go_wp2_with (first | ((with_reducible refine gate_dst (N := 1) rfl ?_); refine box_event ?hg (N := 1) ?hd (cs := #[.slice A0_0 l0_0.length c0_0]) (t := 34) ?hr ?_; (case hd => rfl); (case hg => rfl); (case hr => first | (go_simp; done) | (go_simp; rfl)); intro gb223 hg w5 hbox hb; have _ := A_ (below_step z5_1_ hb); have _ := A_ (hbox); have _ := A_ ((by rw [hg]; exact (below_size z5_1_) : w.heap.size ≤ gb223)); have _ := A_ ((by rw [hg]; exact (below_size z5_1_) : w.heap.size ≤ gb223)); clear HB; rename_i HB BK223 GW223 GE223; clear hb hbox hg) | ((with_reducible refine gate_dst (N := 2) rfl ?_); refine box_event ?hg (N := 2) ?hd (cs := #[.slice none 0 0]) (t := 34) ?hr ?_; (case hd => rfl); (case hg => rfl); (case hr => first | (go_simp; done) | (go_simp; rfl)); intro gb224 hg w6 hbox hb; have _ := A_ (blk_below (g := gb223) (o := .cells #[.slice A0_0 l0_0.length c0_0] 34 (0, 0)) z5_2_ hb); have _ := A_ (below_step z5_7_ hb); have _ := A_ (hbox); have _ := A_ ((by rw [hg]; exact (below_size z5_7_) : w.heap.size ≤ gb224)); have _ := A_ ((by rw [hg]; exact (below_size z5_7_) : w.heap.size ≤ gb224)); have _ := A_ ((by rw [hg]; exact Nat.ne_of_lt (blk_lt (g := gb223) (o := .cells #[.slice A0_0 l0_0.length c0_0] 34 (0, 0)) z5_2_) : gb223 ≠ gb224)); have _ := A_ ((by rw [hg]; exact Nat.ne_of_gt (blk_lt (g := gb223) (o := .cells #[.slice A0_0 l0_0.length c0_0] 34 (0, 0)) z5_2_) : gb224 ≠ gb223)); clear BK223 HB; rename_i BK223 HB BK224 GW224 GE224 NB223_224 NB224_223; clear hb hbox hg) | ((with_reducible refine gate_callee (f := 66) rfl ?_); refine goesL_ (some 4) rfl rfl Try.func66 (by kernel_rfl) rfl #[.pointer (some ⟨gb223, 0, none⟩)] rfl z5_8_ ?_; (with_reducible refine (spec_l06Ok.calls k _ ([(⟨l0_0⟩ : S34)]).length [(⟨l0_0⟩ : S34)] true _ ?side1 ?side2 A2.out).mono ?_); (case side1 => refine Kd.C_block k34 (g := gb223) (cs := #[.slice A0_0 l0_0.length c0_0]) (T := 34) z5_2_ (show Kd.K k34 _ (⟨l0_0⟩ : S34) [.slice A0_0 l0_0.length c0_0] from k34_mk _ _ (by exact HC0_0.out) z5_9_) (by decide)); (case side2 => exact Nat.le_refl _); rintro e w' ⟨rfl, ⟨nd, rfl⟩⟩; refine ⟨_, rfl, ?_⟩; (try (rw [drewN_self w6]; generalize hq_ : World.drewN w6 _ = w6; have n0_ : Aside0 (w6.heap[gb223]? = some (.cells #[.slice A0_0 l0_0.length c0_0] 34 (0, 0))) := ⟨(by rw [← hq_]; exact z5_2_)⟩; have n1_ : Aside0 (w6.heap[gb224]? = some (.cells #[.slice none 0 0] 34 (0, 0))) := ⟨(by rw [← hq_]; exact z5_14_)⟩; have n2_ : Aside0 (Below w.heap.size w w6) := ⟨(by rw [← hq_]; exact z5_4_)⟩; clear BK223 BK224 HB hq_; have BK223 := n0_; have BK224 := n1_; have HB := n2_; clear n0_ n1_ n2_))) | ((with_reducible refine gate_callee (f := 77) rfl ?_); refine goesL_ (some 7) rfl rfl Try.func77 (by kernel_rfl) rfl #[.pointer (some ⟨gb223, 0, none⟩)] rfl z5_8_ ?_; (with_reducible refine (spec_l06Least.calls k _ ([(⟨l0_0⟩ : S34)]).length [(⟨l0_0⟩ : S34)] t228 _ ?side1 ?side2 A4.out).mono ?_); (case side1 => refine Kd.C_block k34 (g := gb223) (cs := #[.slice A0_0 l0_0.length c0_0]) (T := 34) z5_2_ (show Kd.K k34 _ (⟨l0_0⟩ : S34) [.slice A0_0 l0_0.length c0_0] from k34_mk _ _ (by exact HC0_0.out) z5_9_) (by decide)); (case side2 => exact Nat.le_refl _); rintro e w7 ⟨v229, rfl, ho0, hb⟩; refine ⟨_, rfl, ?_⟩; have _ := A_ (Kd.R_lower ho0 (below_size z5_4_)); have _ := A_ (blk_below (g := gb223) (o := .cells #[.slice A0_0 l0_0.length c0_0] 34 (0, 0)) z5_2_ hb); have _ := A_ (blk_below (g := gb224) (o := .cells #[.slice none 0 0] 34 (0, 0)) z5_14_ hb); have _ := A_ (below_step z5_4_ hb); clear BK223 BK224 HB; rename_i HO230 BK223 BK224 HB; (try clear hb); (try clear ho0); obtain ⟨Ao8, co8, eo8⟩ := Kd.R_slice HO230.out; subst eo8; have hnb9 := NB224_223.out; have hnc9 := NB223_224.out; have hcz10_0 : w7.cell? ⟨gb224, 0, none⟩ = some (.slice none 0 0) := (blk_cell BK224.out 0).trans rfl; have hfz10_0 := blk_frozen BK224.out 0))
  refine bodyPost_ret (results_ct rfl _ _ gb224 34 #[.slice Ao8 t228.length co8] (0, 0) _ rfl z5_12_ Try.underlying34 rfl (by kernel_rfl)) rfl ?_
  exact ⟨_, z5_10_, (by (with_reducible repeat (first | apply Kd.R_alloc | apply Kd.R_drewN | apply Kd.R_drew)); exact Kd.R_mono (Kd.R_far (p := ⟨gb224, 0, none⟩) (Kd.R_types HO230.out BK224.out (by decide)) (fun _ hk => hk.2) (.slice Ao8 t228.length co8)) (fun _ hk => trivial)), z5_4_⟩
 ·
  replace c3 := Bool.eq_false_iff.mpr c3
  subst c3
  have H1 := H; rw [if_neg (show ¬ (false = true) by decide)] at H1
  clear H
  have H := H1
  clear H1
  simp only [Option.some.injEq, Prod.mk.injEq] at H
  obtain ⟨rfl, rfl⟩ := H
  go_enter Try.func38, Try.ntmps38
  go_wp2_with (first | ((with_reducible refine gate_dst (N := 1) rfl ?_); refine box_event ?hg (N := 1) ?hd (cs := #[.slice A0_0 l0_0.length c0_0]) (t := 34) ?hr ?_; (case hd => rfl); (case hg => rfl); (case hr => first | (go_simp; done) | (go_simp; rfl)); intro gb223 hg w11 hbox hb; have _ := A_ (below_step z5_1_ hb); have _ := A_ (hbox); have _ := A_ ((by rw [hg]; exact (below_size z5_1_) : w.heap.size ≤ gb223)); have _ := A_ ((by rw [hg]; exact (below_size z5_1_) : w.heap.size ≤ gb223)); clear HB; rename_i HB BK223 GW223 GE223; clear hb hbox hg) | ((with_reducible refine gate_dst (N := 2) rfl ?_); refine box_event ?hg (N := 2) ?hd (cs := #[.slice none 0 0]) (t := 34) ?hr ?_; (case hd => rfl); (case hg => rfl); (case hr => first | (go_simp; done) | (go_simp; rfl)); intro gb224 hg w12 hbox hb; have _ := A_ (blk_below (g := gb223) (o := .cells #[.slice A0_0 l0_0.length c0_0] 34 (0, 0)) z5_2_ hb); have _ := A_ (below_step z5_7_ hb); have _ := A_ (hbox); have _ := A_ ((by rw [hg]; exact (below_size z5_7_) : w.heap.size ≤ gb224)); have _ := A_ ((by rw [hg]; exact (below_size z5_7_) : w.heap.size ≤ gb224)); have _ := A_ ((by rw [hg]; exact Nat.ne_of_lt (blk_lt (g := gb223) (o := .cells #[.slice A0_0 l0_0.length c0_0] 34 (0, 0)) z5_2_) : gb223 ≠ gb224)); have _ := A_ ((by rw [hg]; exact Nat.ne_of_gt (blk_lt (g := gb223) (o := .cells #[.slice A0_0 l0_0.length c0_0] 34 (0, 0)) z5_2_) : gb224 ≠ gb223)); clear BK223 HB; rename_i BK223 HB BK224 GW224 GE224 NB223_224 NB224_223; clear hb hbox hg) | ((with_reducible refine gate_callee (f := 66) rfl ?_); refine goesL_ (some 4) rfl rfl Try.func66 (by kernel_rfl) rfl #[.pointer (some ⟨gb223, 0, none⟩)] rfl z5_8_ ?_; (with_reducible refine (spec_l06Ok.calls k _ ([(⟨l0_0⟩ : S34)]).length [(⟨l0_0⟩ : S34)] false _ ?side1 ?side2 A2.out).mono ?_); (case side1 => refine Kd.C_block k34 (g := gb223) (cs := #[.slice A0_0 l0_0.length c0_0]) (T := 34) z5_2_ (show Kd.K k34 _ (⟨l0_0⟩ : S34) [.slice A0_0 l0_0.length c0_0] from k34_mk _ _ (by exact HC0_0.out) z5_9_) (by decide)); (case side2 => exact Nat.le_refl _); rintro e w' ⟨rfl, ⟨nd, rfl⟩⟩; refine ⟨_, rfl, ?_⟩; (try (rw [drewN_self w12]; generalize hq_ : World.drewN w12 _ = w12; have n0_ : Aside0 (w12.heap[gb223]? = some (.cells #[.slice A0_0 l0_0.length c0_0] 34 (0, 0))) := ⟨(by rw [← hq_]; exact z5_2_)⟩; have n1_ : Aside0 (w12.heap[gb224]? = some (.cells #[.slice none 0 0] 34 (0, 0))) := ⟨(by rw [← hq_]; exact z5_14_)⟩; have n2_ : Aside0 (Below w.heap.size w w12) := ⟨(by rw [← hq_]; exact z5_4_)⟩; clear BK223 BK224 HB hq_; have BK223 := n0_; have BK224 := n1_; have HB := n2_; clear n0_ n1_ n2_)); have hnb13 := NB224_223.out; have hnc13 := NB223_224.out; have hcz14_0 : w12.cell? ⟨gb224, 0, none⟩ = some (.slice none 0 0) := (blk_cell BK224.out 0).trans rfl; have hfz14_0 := blk_frozen BK224.out 0))
  refine bodyPost_ret (results_ct rfl _ _ gb224 34 #[.slice none 0 0] (0, 0) _ rfl z5_12_ Try.underlying34 rfl (by kernel_rfl)) rfl ?_
  exact ⟨_, z5_10_, z5_15_, z5_4_⟩
/-! ### impl_LeastTree: function 39 -/
def impl_LeastTree.f (k : Nat) (l0_0 : List (S89)) : Option ((List (S89)) × Int) := (impl_ValidTree.f l0_0).bind fun t246 => (if t246 = true then ((impl_least.f k l0_0).bind fun t247 => (some (t247, 0))) else (some (([] : List (S89)), 1)))
theorem impl_LeastTree.mono : ∀ a0 k, LeO (impl_LeastTree.f k a0) (impl_LeastTree.f (k + 1) a0) := by
 intro a0 k
 unfold impl_LeastTree.f
 repeat' first
   | (with_reducible exact impl_least.mono _ _)
   | (with_reducible exact LeO.refl _)
   | (with_reducible exact LeO.none _)
   | (with_reducible refine LeO.ite ?_ ?_)
   | (with_reducible refine LeO.bind ?_ (fun _ => ?_))
   | exact LeO.none _
   | refine LeO.ite ?_ ?_
   | refine LeO.bind ?_ (fun _ => ?_)
set_option maxHeartbeats 8000000 in
set_option maxRecDepth 100000 in
theorem impl_LeastTree.calls (k : Nat) (A0_0 : Option Addr) (c0_0 : Nat) (l0_0 : List (S89)) (r1 : List (S89)) (r2 : Int) (w : World) (hr0_0 : Kd.C k89 w A0_0 l0_0.length l0_0) (hc0_0 : l0_0.length ≤ c0_0) (h : impl_LeastTree.f k l0_0 = some (r1, r2)) :
  Calls Try.prog 39 #[.agg #[.slice A0_0 l0_0.length c0_0]] w fun e w' => ∃ v0_ : Value, e = .returned (.tuple #[.agg #[v0_], .int .i64 r2]) ∧ Kd.R k89 89 w' w.heap.size (fun _ => True) v0_ r1 ∧ Below w.heap.size w w' := by
 have hu34 := Try.underlying34
 have HR0_0 := A_ hr0_0
 have HC0_0 := A_ hc0_0
 clear hr0_0 hc0_0
 have HB := A_ (Below.refl w.heap.size w)
 have H : ((impl_ValidTree.f l0_0).bind fun t246 => (if t246 = true then ((impl_least.f k l0_0).bind fun t247 => (some (t247, 0))) else (some (([] : List (S89)), 1)))) = some (r1, r2) := h
 clear h
 replace H := Option.bind_eq_some_iff.mp H
 obtain ⟨t246, A20, H⟩ := H
 try dsimp only at H
 have A2 := A_ A20
 clear A20
 by_cases c3 : t246 = true
 ·
  subst c3
  have H1 := H; rw [if_pos rfl] at H1
  clear H
  have H := H1
  clear H1
  replace H := Option.bind_eq_some_iff.mp H
  obtain ⟨t247, A40, H⟩ := H
  try dsimp only at H
  have A4 := A_ A40
  clear A40
  simp only [Option.some.injEq, Prod.mk.injEq] at H
  obtain ⟨rfl, rfl⟩ := H
  go_enter Try.func39, Try.ntmps39
  go_wp2_with (first | ((with_reducible refine gate_dst (N := 1) rfl ?_); refine box_event ?hg (N := 1) ?hd (cs := #[.slice A0_0 l0_0.length c0_0]) (t := 34) ?hr ?_; (case hd => rfl); (case hg => rfl); (case hr => first | (go_simp; done) | (go_simp; rfl)); intro gb244 hg w5 hbox hb; have _ := A_ (below_step z5_1_ hb); have _ := A_ (hbox); have _ := A_ ((by rw [hg]; exact (below_size z5_1_) : w.heap.size ≤ gb244)); have _ := A_ ((by rw [hg]; exact (below_size z5_1_) : w.heap.size ≤ gb244)); clear HB; rename_i HB BK244 GW244 GE244; clear hb hbox hg) | ((with_reducible refine gate_dst (N := 2) rfl ?_); refine box_event ?hg (N := 2) ?hd (cs := #[.slice none 0 0]) (t := 34) ?hr ?_; (case hd => rfl); (case hg => rfl); (case hr => first | (go_simp; done) | (go_simp; rfl)); intro gb245 hg w6 hbox hb; have _ := A_ (blk_below (g := gb244) (o := .cells #[.slice A0_0 l0_0.length c0_0] 34 (0, 0)) z5_5_ hb); have _ := A_ (below_step z5_6_ hb); have _ := A_ (hbox); have _ := A_ ((by rw [hg]; exact (below_size z5_6_) : w.heap.size ≤ gb245)); have _ := A_ ((by rw [hg]; exact (below_size z5_6_) : w.heap.size ≤ gb245)); have _ := A_ ((by rw [hg]; exact Nat.ne_of_lt (blk_lt (g := gb244) (o := .cells #[.slice A0_0 l0_0.length c0_0] 34 (0, 0)) z5_5_) : gb244 ≠ gb245)); have _ := A_ ((by rw [hg]; exact Nat.ne_of_gt (blk_lt (g := gb244) (o := .cells #[.slice A0_0 l0_0.length c0_0] 34 (0, 0)) z5_5_) : gb245 ≠ gb244)); clear BK244 HB; rename_i BK244 HB BK245 GW245 GE245 NB244_245 NB245_244; clear hb hbox hg; have hnb7 := NB244_245.out; have hnc7 := NB245_244.out; have hcz8_0 : w6.cell? ⟨gb244, 0, none⟩ = some (.slice A0_0 l0_0.length c0_0) := (blk_cell BK244.out 0).trans rfl; have hfz8_0 := blk_frozen BK244.out 0) | ((with_reducible refine gate_callee (f := 60) rfl ?_); refine goesL_ (some 5) rfl rfl Try.func60 (by kernel_rfl) rfl #[.agg #[.slice A0_0 l0_0.length c0_0]] rfl z5_8_ ?_; (with_reducible refine (impl_ValidTree.calls _ _ l0_0 true _ ?side1 ?side2 A2.out).mono ?_); (case side1 => have hx_ := (Kd.C_below HR0_0.out HB.out); exact kc_); (case side2 => exact HC0_0.out); rintro e w9 ⟨rfl, hb⟩; refine ⟨_, rfl, ?_⟩; have _ := A_ (blk_below (g := gb244) (o := .cells #[.slice A0_0 l0_0.length c0_0] 34 (0, 0)) z5_5_ hb); have _ := A_ (blk_below (g := gb245) (o := .cells #[.slice none 0 0] 34 (0, 0)) z5_13_ hb); have _ := A_ (below_step z5_3_ hb); clear BK244 BK245 HB; rename_i BK244 BK245 HB; (try clear hb); have hcz10_0 : w9.cell? ⟨gb244, 0, none⟩ = some (.slice A0_0 l0_0.length c0_0) := (blk_cell BK244.out 0).trans rfl; have hfz10_0 := blk_frozen BK244.out 0) | ((with_reducible refine gate_callee (f := 80) rfl ?_); refine goesL_ (some 9) rfl rfl Try.func80 (by kernel_rfl) rfl #[.agg #[.slice A0_0 l0_0.length c0_0]] rfl z5_8_ ?_; (with_reducible refine (impl_least.calls k _ _ l0_0 t247 _ ?side1 ?side2 A4.out).mono ?_); (case side1 => have hx_ := (Kd.C_below HR0_0.out HB.out); exact kc_); (case side2 => exact HC0_0.out); rintro e w11 ⟨v248, rfl, ho0, hb⟩; refine ⟨_, rfl, ?_⟩; have _ := A_ (Kd.R_lower ho0 (below_size z5_3_)); have _ := A_ (blk_below (g := gb244) (o := .cells #[.slice A0_0 l0_0.length c0_0] 34 (0, 0)) z5_5_ hb); have _ := A_ (blk_below (g := gb245) (o := .cells #[.slice none 0 0] 34 (0, 0)) z5_13_ hb); have _ := A_ (below_step z5_3_ hb); clear BK244 BK245 HB; rename_i HO249 BK244 BK245 HB; (try clear hb); (try clear ho0); obtain ⟨Ao12, co12, eo12⟩ := Kd.R_slice HO249.out; subst eo12; have hcz13_0 : w11.cell? ⟨gb245, 0, none⟩ = some (.slice none 0 0) := (blk_cell BK245.out 0).trans rfl; have hfz13_0 := blk_frozen BK245.out 0))
  refine bodyPost_ret (results_ct rfl _ _ gb245 34 #[.slice Ao12 t247.length co12] (0, 0) _ rfl z5_11_ Try.underlying34 rfl (by kernel_rfl)) rfl ?_
  exact ⟨_, z5_10_, (by (with_reducible repeat (first | apply Kd.R_alloc | apply Kd.R_drewN | apply Kd.R_drew)); exact Kd.R_mono (Kd.R_far (p := ⟨gb245, 0, none⟩) (Kd.R_types HO249.out BK245.out (by decide)) (fun _ hk => hk.2) (.slice Ao12 t247.length co12)) (fun _ hk => trivial)), z5_3_⟩
 ·
  replace c3 := Bool.eq_false_iff.mpr c3
  subst c3
  have H1 := H; rw [if_neg (show ¬ (false = true) by decide)] at H1
  clear H
  have H := H1
  clear H1
  simp only [Option.some.injEq, Prod.mk.injEq] at H
  obtain ⟨rfl, rfl⟩ := H
  go_enter Try.func39, Try.ntmps39
  go_wp2_with (first | ((with_reducible refine gate_dst (N := 1) rfl ?_); refine box_event ?hg (N := 1) ?hd (cs := #[.slice A0_0 l0_0.length c0_0]) (t := 34) ?hr ?_; (case hd => rfl); (case hg => rfl); (case hr => first | (go_simp; done) | (go_simp; rfl)); intro gb244 hg w14 hbox hb; have _ := A_ (below_step z5_1_ hb); have _ := A_ (hbox); have _ := A_ ((by rw [hg]; exact (below_size z5_1_) : w.heap.size ≤ gb244)); have _ := A_ ((by rw [hg]; exact (below_size z5_1_) : w.heap.size ≤ gb244)); clear HB; rename_i HB BK244 GW244 GE244; clear hb hbox hg) | ((with_reducible refine gate_dst (N := 2) rfl ?_); refine box_event ?hg (N := 2) ?hd (cs := #[.slice none 0 0]) (t := 34) ?hr ?_; (case hd => rfl); (case hg => rfl); (case hr => first | (go_simp; done) | (go_simp; rfl)); intro gb245 hg w15 hbox hb; have _ := A_ (blk_below (g := gb244) (o := .cells #[.slice A0_0 l0_0.length c0_0] 34 (0, 0)) z5_5_ hb); have _ := A_ (below_step z5_6_ hb); have _ := A_ (hbox); have _ := A_ ((by rw [hg]; exact (below_size z5_6_) : w.heap.size ≤ gb245)); have _ := A_ ((by rw [hg]; exact (below_size z5_6_) : w.heap.size ≤ gb245)); have _ := A_ ((by rw [hg]; exact Nat.ne_of_lt (blk_lt (g := gb244) (o := .cells #[.slice A0_0 l0_0.length c0_0] 34 (0, 0)) z5_5_) : gb244 ≠ gb245)); have _ := A_ ((by rw [hg]; exact Nat.ne_of_gt (blk_lt (g := gb244) (o := .cells #[.slice A0_0 l0_0.length c0_0] 34 (0, 0)) z5_5_) : gb245 ≠ gb244)); clear BK244 HB; rename_i BK244 HB BK245 GW245 GE245 NB244_245 NB245_244; clear hb hbox hg; have hnb16 := NB244_245.out; have hnc16 := NB245_244.out; have hcz17_0 : w15.cell? ⟨gb244, 0, none⟩ = some (.slice A0_0 l0_0.length c0_0) := (blk_cell BK244.out 0).trans rfl; have hfz17_0 := blk_frozen BK244.out 0) | ((with_reducible refine gate_callee (f := 60) rfl ?_); refine goesL_ (some 5) rfl rfl Try.func60 (by kernel_rfl) rfl #[.agg #[.slice A0_0 l0_0.length c0_0]] rfl z5_8_ ?_; (with_reducible refine (impl_ValidTree.calls _ _ l0_0 false _ ?side1 ?side2 A2.out).mono ?_); (case side1 => have hx_ := (Kd.C_below HR0_0.out HB.out); exact kc_); (case side2 => exact HC0_0.out); rintro e w18 ⟨rfl, hb⟩; refine ⟨_, rfl, ?_⟩; have _ := A_ (blk_below (g := gb244) (o := .cells #[.slice A0_0 l0_0.length c0_0] 34 (0, 0)) z5_5_ hb); have _ := A_ (blk_below (g := gb245) (o := .cells #[.slice none 0 0] 34 (0, 0)) z5_13_ hb); have _ := A_ (below_step z5_3_ hb); clear BK244 BK245 HB; rename_i BK244 BK245 HB; (try clear hb); have hcz19_0 : w18.cell? ⟨gb245, 0, none⟩ = some (.slice none 0 0) := (blk_cell BK245.out 0).trans rfl; have hfz19_0 := blk_frozen BK245.out 0))
  refine bodyPost_ret (results_ct rfl _ _ gb245 34 #[.slice none 0 0] (0, 0) _ rfl z5_11_ Try.underlying34 rfl (by kernel_rfl)) rfl ?_
  exact ⟨_, z5_10_, z5_15_, z5_3_⟩
end Go.Proofs.Ytpfnohdnaocpdaa.PT

import Derived.Test.YtififhihgkbafaaPMx0
import Derived.Test.YtififhihgkbafaaPMx4
import Derived.Test.YtififhihgkbafaaPMx8
namespace Go.Proofs.Ytififhihgkbafaa.PM
open Go.RowKit Go.Proofs.YtififhihgkbafaaW.PrintWords Go.Proofs.YtififhihgkbafaaW.PrintLast Go.Proofs.YtififhihgkbafaaW.PrintMore Go.Proofs.YtififhihgkbafaaRP
attribute [local go_sem] max2_int min2_int max_two min_two max_three min_three max_four min_four Go.Proofs.YtififhihgkbafaaRP.max_eight Go.Proofs.YtififhihgkbafaaRP.tmod_len   -- for this text's walks alone
set_option linter.unusedVariables false
set_option linter.unusedSimpArgs false
theorem z9_1_ {P : Prop} (h : P := by repeat (first | (with_reducible first | exact HB.out | apply below_alloc | apply pw_below_drewN | apply below_drew1 | refine below_set ?_ GE297.out | refine below_set ?_ GE298.out) | exact HB.out)) : P := h
theorem z9_2_ {P : Prop} (h : P := by (with_reducible repeat (first | refine blk_drewN ?_ _ | refine blk_drew ?_ | refine blk_alloc ?_ _)); exact BK297.out) : P := h
theorem z9_3_ {P : Prop} (h : P := by repeat (first | (with_reducible first | exact HB.out | apply below_alloc | apply pw_below_drewN | apply below_drew1) | exact HB.out)) : P := h
theorem z9_4_ {P : Prop} (h : P := by repeat (first | (with_reducible first | exact HB.out | apply below_alloc | apply pw_below_drewN | apply below_drew1 | refine below_set ?_ GE400.out) | exact HB.out)) : P := h
theorem z9_5_ {P : Prop} (h : P := by (with_reducible repeat (first | refine blk_drewN ?_ _ | refine blk_drew ?_ | refine blk_alloc ?_ _)); exact BK298.out) : P := h
theorem z9_6_ {P : Prop} (h : P := by (try simp only [List.map_toArray, List.map_cons, List.map_nil]); first | done | rfl | (simp only [List.length_drop, List.length_take]; rfl)) : P := h
theorem z9_7_ {P : Prop} (h : P := by (with_reducible repeat (first | refine blk_drewN ?_ _ | refine blk_drew ?_ | refine blk_alloc ?_ _)); refine blk_far ?_ NB298_307.out _; (with_reducible repeat (first | refine blk_drewN ?_ _ | refine blk_drew ?_ | refine blk_alloc ?_ _)); refine blk_far ?_ NB298_307.out _; (with_reducible repeat (first | refine blk_drewN ?_ _ | refine blk_drew ?_ | refine blk_alloc ?_ _)); refine blk_far ?_ NB298_307.out _; (with_reducible repeat (first | refine blk_drewN ?_ _ | refine blk_drew ?_ | refine blk_alloc ?_ _)); refine blk_far ?_ NB298_307.out _; (with_reducible repeat (first | refine blk_drewN ?_ _ | refine blk_drew ?_ | refine blk_alloc ?_ _)); refine blk_far ?_ NB298_307.out _; (with_reducible repeat (first | refine blk_drewN ?_ _ | refine blk_drew ?_ | refine blk_alloc ?_ _)); refine blk_far ?_ NB298_307.out _; (with_reducible repeat (first | refine blk_drewN ?_ _ | refine blk_drew ?_ | refine blk_alloc ?_ _)); exact BK298.out) : P := h
theorem z9_8_ {P : Prop} (h : P := by (with_reducible repeat (first | refine blk_drewN ?_ _ | refine blk_drew ?_ | refine blk_alloc ?_ _)); refine blk_far ?_ NB297_307.out _; (with_reducible repeat (first | refine blk_drewN ?_ _ | refine blk_drew ?_ | refine blk_alloc ?_ _)); refine blk_far ?_ NB297_307.out _; (with_reducible repeat (first | refine blk_drewN ?_ _ | refine blk_drew ?_ | refine blk_alloc ?_ _)); refine blk_far ?_ NB297_307.out _; (with_reducible repeat (first | refine blk_drewN ?_ _ | refine blk_drew ?_ | refine blk_alloc ?_ _)); refine blk_far ?_ NB297_307.out _; (with_reducible repeat (first | refine blk_drewN ?_ _ | refine blk_drew ?_ | refine blk_alloc ?_ _)); refine blk_far ?_ NB297_307.out _; (with_reducible repeat (first | refine blk_drewN ?_ _ | refine blk_drew ?_ | refine blk_alloc ?_ _)); refine blk_far ?_ NB297_307.out _; (with_reducible repeat (first | refine blk_drewN ?_ _ | refine blk_drew ?_ | refine blk_alloc ?_ _)); exact BK297.out) : P := h
theorem z9_9_ {P : Prop} (h : P := by repeat (first | (with_reducible first | exact HB.out | apply below_alloc | apply pw_below_drewN | apply below_drew1 | refine below_set ?_ GE297.out) | exact HB.out)) : P := h
theorem z9_10_ {P : Prop} (h : P := by (with_reducible repeat (first | apply Kd.R_alloc | apply Kd.R_drewN | apply Kd.R_drew)); exact (Kd.R_mono (Kd.R_far (p := ⟨gb307, 5, none⟩) (Kd.R_far (p := ⟨gb307, 4, none⟩) (Kd.R_far (p := ⟨gb307, 3, none⟩) (Kd.R_far (p := ⟨gb307, 2, none⟩) (Kd.R_far (p := ⟨gb307, 1, none⟩) (Kd.R_far (p := ⟨gb307, 0, none⟩) (Kd.R_types HO_11.out BK307.out (by decide)) (fun _ hk => hk.2) (.bool true)) (fun _ hk => hk.2) (.int .i8 ((rd_T51 t299 x27_1).f1))) (fun _ hk => hk.2) (.int .i64 ((rd_T51 t299 x27_1).f2.f0))) (fun _ hk => hk.2) (.int .i64 ((rd_T51 t299 x27_1).f2.f1))) (fun _ hk => hk.2) (.int .i64 ((rd_T51 t299 x27_1).f2.f2))) (fun _ hk => hk.2) (.int .i64 ((rd_T51 t299 x27_1).f2.f3))) (fun _ h_ => h_.1))) : P := h
theorem z9_11_ {P : Prop} (h : P := by repeat (first | (with_reducible first | exact HB.out | apply below_alloc | apply pw_below_drewN | apply below_drew1 | refine below_set ?_ GE297.out | refine below_set ?_ GE298.out | refine below_set ?_ GE307.out) | exact HB.out)) : P := h
theorem z9_12_ {P : Prop} (h : P := by first | rfl | (simp [errW_none, errW_some] <;> rfl) | (simp [*, errW_none, errW_some] <;> rfl)) : P := h
theorem z9_13_ {P : Prop} (h : P := by (with_reducible repeat (first | refine blk_drewN ?_ _ | refine blk_drew ?_ | refine blk_alloc ?_ _)); exact BK400.out) : P := h
theorem z9_14_ {P : Prop} (h : P := by (with_reducible repeat (first | apply Kd.R_alloc | apply Kd.R_drewN | apply Kd.R_drew)); exact HO_11.out) : P := h
theorem z9_15_ {P : Prop} (h : P := by (with_reducible repeat (first | apply Kd.R_alloc | apply Kd.R_drewN | apply Kd.R_drew)); exact HO301.out) : P := h
theorem z9_16_ {P : Prop} (h : P := by first | rfl | (simp; done) | (simp [*]; done) | (simp [isE_]; done)) : P := h
theorem z9_17_ {P : Prop} (h : P := by (with_reducible repeat (first | apply Kd.R_alloc | apply Kd.R_drewN | apply Kd.R_drew)); exact HO_25.out) : P := h
theorem z9_18_ {P : Prop} (h : P := by (with_reducible repeat (first | apply Kd.R_alloc | apply Kd.R_drewN | apply Kd.R_drew)); exact HO_9.out) : P := h
/-! ### impl_MoebiusDigits: function 18 -/
def impl_MoebiusDigits.l0 : Nat → List (S51) → List Int → List (S51) → Int → Int → Option (List Int × Int × Int)
 | 0, _, _, _, _, _ => none
 | k + 1, x9, x11, x25, x26, x27 => if x27 < x26 then (if 0 ≤ x27 then (if x27 < (x25.length : Int) then (if (rd_T51 x25 x27).f0 = true then (if x11.length < 140737488355328 then (impl_MoebiusDigits.l0 k x9 (x11 ++ [(rd_T51 x25 x27).f1]) x25 x26 (wrap64 (x27 + 1))) else (none)) else (impl_MoebiusDigits.l0 k x9 x11 x25 x26 (wrap64 (x27 + 1)))) else (none)) else (none)) else (some (x11, wrap64 ((x9.length : Int) - (x11.length : Int)), 0))
def impl_MoebiusDigits.f (k : Nat) (a0_0 : Int) (a0_1 : Int) (a0_2 : Int) (a0_3 : Int) (l1_0 : List Int) (l1_1 : List Int) (a2 : Int) : Option (List Int × Int × Int) := (impl_Moebius_run.f k a0_0 a0_1 a0_2 a0_3 l1_0 l1_1 a2).bind fun bt299 => (if bt299.2 = 0 then (impl_MoebiusDigits.l0 k bt299.1 (([] : List Int)) bt299.1 (bt299.1.length : Int) 0) else (some (([] : List Int), 0, bt299.2)))
theorem impl_MoebiusDigits.mono_l : ∀ k, (∀ y0 y1 y2 y3 y4, LeO (impl_MoebiusDigits.l0 k y0 y1 y2 y3 y4) (impl_MoebiusDigits.l0 (k + 1) y0 y1 y2 y3 y4))
 | 0 => fun _ _ _ _ _ r h => by simp [impl_MoebiusDigits.l0] at h
 | k + 1 => by
  have ih0 := impl_MoebiusDigits.mono_l k
  ·
   intro y0 y1 y2 y3 y4
   unfold impl_MoebiusDigits.l0
   repeat' first
   | (with_reducible exact ih0 _ _ _ _ _)
   | (with_reducible exact impl_Moebius_run.mono _ _ _ _ _ _ _ _)
   | (with_reducible exact LeO.refl _)
   | (with_reducible exact LeO.none _)
   | (with_reducible refine LeO.ite ?_ ?_)
   | (with_reducible refine LeO.bind ?_ (fun _ => ?_))
   | exact ih0 _ _ _ _ _
   | exact LeO.none _
   | refine LeO.ite ?_ ?_
   | refine LeO.bind ?_ (fun _ => ?_)
theorem impl_MoebiusDigits.mono : ∀ a0 a1 a2 a3 a4 a5 a6 k, LeO (impl_MoebiusDigits.f k a0 a1 a2 a3 a4 a5 a6) (impl_MoebiusDigits.f (k + 1) a0 a1 a2 a3 a4 a5 a6) := by
 intro a0 a1 a2 a3 a4 a5 a6 k
 have ih0 := impl_MoebiusDigits.mono_l k
 unfold impl_MoebiusDigits.f
 repeat' first
   | (with_reducible exact ih0 _ _ _ _ _)
   | (with_reducible exact impl_Moebius_run.mono _ _ _ _ _ _ _ _)
   | (with_reducible exact LeO.refl _)
   | (with_reducible exact LeO.none _)
   | (with_reducible refine LeO.ite ?_ ?_)
   | (with_reducible refine LeO.bind ?_ (fun _ => ?_))
   | exact ih0 _ _ _ _ _
   | exact LeO.none _
   | refine LeO.ite ?_ ?_
   | refine LeO.bind ?_ (fun _ => ?_)
set_option maxHeartbeats 8000000 in
set_option maxRecDepth 100000 in
theorem impl_MoebiusDigits.calls (k : Nat) (a0_0 : Int) (a0_1 : Int) (a0_2 : Int) (a0_3 : Int) (A1_0 : Option Addr) (c1_0 : Nat) (l1_0 : List Int) (A1_1 : Option Addr) (c1_1 : Nat) (l1_1 : List Int) (a2 : Int) (r1 : List Int) (r2 : Int) (r3 : Int) (w : World) (hr1_0 : Kd.C (Kd.int .i8) w A1_0 l1_0.length l1_0) (hc1_0 : l1_0.length ≤ c1_0) (hr1_1 : Kd.C (Kd.int .i8) w A1_1 l1_1.length l1_1) (hc1_1 : l1_1.length ≤ c1_1) (h : impl_MoebiusDigits.f k a0_0 a0_1 a0_2 a0_3 l1_0 l1_1 a2 = some (r1, r2, r3)) :
  Calls Try.prog 18 #[.agg #[.int .i64 a0_0, .int .i64 a0_1, .int .i64 a0_2, .int .i64 a0_3], .agg #[.slice A1_0 l1_0.length c1_0, .slice A1_1 l1_1.length c1_1], .int .i64 a2] w fun e w' => ∃ v0_ : Value, e = .returned (.tuple #[v0_, .int .i64 r2, .int .i64 r3]) ∧ Kd.R (Kd.int .i8) 49 w' w.heap.size (fun _ => True) v0_ r1 ∧ Below w.heap.size w w' := by
 have hu31 := Try.underlying31
 have hu33 := Try.underlying33
 have hu51 := Try.underlying51
 have HR1_0 := A_ hr1_0
 have HC1_0 := A_ hc1_0
 clear hr1_0 hc1_0
 have HR1_1 := A_ hr1_1
 have HC1_1 := A_ hc1_1
 clear hr1_1 hc1_1
 have HB := A_ (Below.refl w.heap.size w)
 have H : ((impl_Moebius_run.f k a0_0 a0_1 a0_2 a0_3 l1_0 l1_1 a2).bind fun bt299 => (if bt299.2 = 0 then (impl_MoebiusDigits.l0 k bt299.1 (([] : List Int)) bt299.1 (bt299.1.length : Int) 0) else (some (([] : List Int), 0, bt299.2)))) = some (r1, r2, r3) := h
 clear h
 replace H := Option.bind_eq_some_iff.mp H
 obtain ⟨⟨t299, t302⟩, A40, H⟩ := H
 try dsimp only at H
 have A4 := A_ A40
 clear A40
 by_cases c5 : t302 = 0
 ·
  rw [if_pos c5] at H
  have c5b0 := beq_iff_eq.mpr c5
  have c5b1 := bne_eq_false_iff_eq.mpr c5
  clear c5
  obtain ⟨y303, hy303⟩ : ∃ y_ : List Int, y_ = (([] : List Int)) := ⟨_, rfl⟩
  replace H : (impl_MoebiusDigits.l0 k t299 y303 t299 (t299.length : Int) 0) = some (r1, r2, r3) := by first | (rw [hy303]; with_reducible exact H) | (have H2_ := (Option.bind_some _ _).symm.trans H; rw [hy303]; with_reducible exact H2_) | (have H2_ := (Option.bind_some _ _).symm.trans H; with_reducible exact H2_) | with_reducible exact H | (rw [hy303]; exact H) | exact H
  have Ny303 := A_ hy303
  clear hy303
  have H' := A_ H
  clear H
  go_enter Try.func18, Try.ntmps18
  go_wp2_with (first | ((with_reducible refine gate_dst (N := 3) rfl ?_); refine box_event ?hg (N := 3) ?hd (cs := #[.int .i64 a0_0, .int .i64 a0_1, .int .i64 a0_2, .int .i64 a0_3]) (t := 31) ?hr ?_; (case hd => rfl); (case hg => rfl); (case hr => first | (go_simp; done) | (go_simp; rfl)); intro gb297 hg w6 hbox hb; have _ := A_ (below_step z9_3_ hb); have _ := A_ (hbox); have _ := A_ ((by rw [hg]; exact (below_size z9_3_) : w.heap.size ≤ gb297)); have _ := A_ ((by rw [hg]; exact (below_size z9_3_) : w.heap.size ≤ gb297)); clear HB; rename_i HB BK297 GW297 GE297; clear hb hbox hg) | ((with_reducible refine gate_dst (N := 4) rfl ?_); refine box_event ?hg (N := 4) ?hd (cs := #[.slice A1_0 l1_0.length c1_0, .slice A1_1 l1_1.length c1_1]) (t := 33) ?hr ?_; (case hd => rfl); (case hg => rfl); (case hr => first | (go_simp; done) | (go_simp; rfl)); intro gb298 hg w7 hbox hb; have _ := A_ (blk_below (g := gb297) (o := .cells #[.int .i64 a0_0, .int .i64 a0_1, .int .i64 a0_2, .int .i64 a0_3] 31 (0, 0)) z9_2_ hb); have _ := A_ (below_step z9_9_ hb); have _ := A_ (hbox); have _ := A_ ((by rw [hg]; exact (below_size z9_9_) : w.heap.size ≤ gb298)); have _ := A_ ((by rw [hg]; exact (below_size z9_9_) : w.heap.size ≤ gb298)); have _ := A_ ((by rw [hg]; exact Nat.ne_of_lt (blk_lt (g := gb297) (o := .cells #[.int .i64 a0_0, .int .i64 a0_1, .int .i64 a0_2, .int .i64 a0_3] 31 (0, 0)) z9_2_) : gb297 ≠ gb298)); have _ := A_ ((by rw [hg]; exact Nat.ne_of_gt (blk_lt (g := gb297) (o := .cells #[.int .i64 a0_0, .int .i64 a0_1, .int .i64 a0_2, .int .i64 a0_3] 31 (0, 0)) z9_2_) : gb298 ≠ gb297)); clear BK297 HB; rename_i BK297 HB BK298 GW298 GE298 NB297_298 NB298_297; clear hb hbox hg; have hnb8 := NB297_298.out; have hnc8 := NB298_297.out; obtain ⟨hcz9_0, hcz9_1, hcz9_2, hcz9_3⟩ := bc4 BK297.out; obtain ⟨hfz9_0, hfz9_1, hfz9_2, hfz9_3⟩ := bf4 BK297.out; obtain ⟨hcz10_0, hcz10_1⟩ := bc2 BK298.out; obtain ⟨hfz10_0, hfz10_1⟩ := bf2 BK298.out) | ((with_reducible refine gate_callee (f := 43) rfl ?_); refine goesL_ (some 18) rfl rfl Try.func43 (by kernel_rfl) rfl #[.agg #[.int .i64 a0_0, .int .i64 a0_1, .int .i64 a0_2, .int .i64 a0_3], .agg #[.slice A1_0 l1_0.length c1_0, .slice A1_1 l1_1.length c1_1], .int .i64 a2] rfl z9_6_ ?_; (with_reducible refine (impl_Moebius_run.calls k a0_0 a0_1 a0_2 a0_3 _ _ l1_0 _ _ l1_1 a2 t299 t302 _ ?side1 ?side2 ?side3 ?side4 A4.out).mono ?_); (case side1 => have hx_ := (Kd.C_below HR1_0.out HB.out); exact kc_); (case side2 => exact HC1_0.out); (case side3 => have hx_ := (Kd.C_below HR1_1.out HB.out); exact kc_); (case side4 => exact HC1_1.out); rintro e w11 ⟨v300, rfl, ho0, hb⟩; refine ⟨_, rfl, ?_⟩; have _ := A_ (Kd.R_lower ho0 (below_size z9_1_)); have _ := A_ (blk_below (g := gb297) (o := .cells #[.int .i64 a0_0, .int .i64 a0_1, .int .i64 a0_2, .int .i64 a0_3] 31 (0, 0)) z9_2_ hb); have _ := A_ (blk_below (g := gb298) (o := .cells #[.slice A1_0 l1_0.length c1_0, .slice A1_1 l1_1.length c1_1] 33 (0, 0)) z9_5_ hb); have _ := A_ (below_step z9_1_ hb); clear BK297 BK298 HB; rename_i HO301 BK297 BK298 HB; (try clear hb); (try clear ho0)) | ((with_reducible refine gate_dst (N := 24) rfl ?_); refine Kd.R_lit (Kd.int .i8) _ 49 ?hg (N := 24) ?hd (xs := ([] : List Int)) (inner := []) (ok := fun _ => True) (okp := fun _ => True) ?hr ?hp (fun _ hk => hk) trivial (Below.refl _ _) (Nat.le_refl _) (by simp) ?_; (case hd => rfl); (case hg => rfl); (case hr => first | (go_simp; done) | (go_simp; rfl)); (case hp => exact (Reps.none _ _)); intro v304 w12 ho13 hb hg_ hnew_; clear hg_ hnew_; (first | rw [← Ny303.out] at ho13 | (simp only [Int.reduceToNat] at ho13; rw [← Ny303.out] at ho13)); have _ := A_ (Kd.R_below z9_15_ hb); have _ := A_ (Kd.R_lower ho13 (below_size z9_1_)); have _ := A_ (blk_below (g := gb297) (o := .cells #[.int .i64 a0_0, .int .i64 a0_1, .int .i64 a0_2, .int .i64 a0_3] 31 (0, 0)) z9_2_ hb); have _ := A_ (blk_below (g := gb298) (o := .cells #[.slice A1_0 l1_0.length c1_0, .slice A1_1 l1_1.length c1_1] 33 (0, 0)) z9_5_ hb); have _ := A_ (below_step z9_1_ hb); clear HO301 BK297 BK298 HB; rename_i HO301 HO305 BK297 BK298 HB; clear hb ho13; obtain ⟨Ao14, co14, eo14⟩ := Kd.R_slice HO301.out; subst eo14))
  go_loopg [11, 27] k (fun kq v11 v27 w' => ∃ (x11_1 : List Int) (x27_1 : Int), v27 = .int .i64 x27_1 ∧ Aside0 (impl_MoebiusDigits.l0 kq t299 x11_1 t299 (t299.length : Int) x27_1 = some (r1, r2, r3)) ∧ Aside0 (kq ≤ k) ∧ Aside0 (Kd.R k51 51 w' w.heap.size (fun _ => True) (.slice Ao14 t299.length co14) t299) ∧ Aside0 (Kd.R (Kd.int .i8) 49 w' w.heap.size (fun _ => True) v11 x11_1) ∧ Aside0 (Kd.R k51 51 w' w.heap.size (fun _ => True) (.slice Ao14 t299.length co14) t299) ∧ Aside0 (w'.heap[gb297]? = some (.cells #[.int .i64 a0_0, .int .i64 a0_1, .int .i64 a0_2, .int .i64 a0_3] 31 (0, 0))) ∧ Aside0 (w'.heap[gb298]? = some (.cells #[(.slice A1_0 l1_0.length c1_0), (.slice A1_1 l1_1.length c1_1)] 33 (0, 0))) ∧ Aside0 (Below w.heap.size w w'))
  case atStart => exact ⟨(y303), (0), z9_16_, H', ⟨Nat.le_refl _⟩, ⟨z9_15_⟩, ⟨(by (with_reducible repeat (first | apply Kd.R_alloc | apply Kd.R_drewN | apply Kd.R_drew)); exact HO305.out)⟩, ⟨z9_15_⟩, ⟨z9_2_⟩, ⟨z9_5_⟩, ⟨z9_1_⟩⟩
  case round =>
   clear H'
   try clear c1
   try clear p2
   try clear c4
   try clear c5
   try clear c5b0
   try clear c5b1
   try clear c8
   try clear hcz10_0
   try clear hcz10_1
   try clear hcz9_0
   try clear hcz9_1
   try clear hcz9_2
   try clear hcz9_3
   try clear hfz10_0
   try clear hfz10_1
   try clear hfz9_0
   try clear hfz9_1
   try clear hfz9_2
   try clear hfz9_3
   obtain ⟨x11_1, x27_1, rfl, HA, HK1, HO_9, HO_11, HO_25, BK297, BK298, HB⟩ := hrel
   cases gk with
   | zero => exact absurd HA.out (by simp [impl_MoebiusDigits.l0])
   | succ k1 =>
    have H := HA.out
    clear HA
    simp only [impl_MoebiusDigits.l0] at H
    by_cases c15 : x27_1 < (t299.length : Int)
    ·
     rw [if_pos c15] at H
     have c15b0 := decide_eq_true c15
     clear c15
     by_cases c16 : 0 ≤ x27_1
     ·
      rw [if_pos c16] at H
      have c16b0 := decide_eq_true c16
      clear c16
      by_cases c17 : x27_1 < (t299.length : Int)
      ·
       rw [if_pos c17] at H
       have c17b0 := decide_eq_true c17
       clear c17
       obtain ⟨bq18, hbq18⟩ : ∃ b_ : Bool, b_ = ((rd_T51 t299 x27_1).f0) := ⟨_, rfl⟩
       replace H : (if bq18 = true then (if x11_1.length < 140737488355328 then (impl_MoebiusDigits.l0 k1 t299 (x11_1 ++ [(rd_T51 t299 x27_1).f1]) t299 (t299.length : Int) (wrap64 (x27_1 + 1))) else (none)) else (impl_MoebiusDigits.l0 k1 t299 x11_1 t299 (t299.length : Int) (wrap64 (x27_1 + 1)))) = some (r1, r2, r3) := by rw [← hbq18] at H; exact H
       have Nbq18 := A_ hbq18
       clear hbq18
       by_cases c19 : bq18 = true
       ·
        subst c19
        have H1 := H; rw [if_pos rfl] at H1
        clear H
        have H := H1
        clear H1
        by_cases c20 : x11_1.length < 140737488355328
        ·
         rw [if_pos c20] at H
         have LMc20 := A_ c20
         clear c20
         obtain ⟨y308, hy308⟩ : ∃ y_ : List Int, y_ = (x11_1 ++ [(rd_T51 t299 x27_1).f1]) := ⟨_, rfl⟩
         replace H : (impl_MoebiusDigits.l0 k1 t299 y308 t299 (t299.length : Int) (wrap64 (x27_1 + 1))) = some (r1, r2, r3) := by first | (rw [hy308]; with_reducible exact H) | (have H2_ := (Option.bind_some _ _).symm.trans H; rw [hy308]; with_reducible exact H2_) | (have H2_ := (Option.bind_some _ _).symm.trans H; with_reducible exact H2_) | with_reducible exact H | (rw [hy308]; exact H) | exact H
         have Ny308 := A_ hy308
         clear hy308
         have H' := A_ H
         clear H
         have p306 : 0 ≤ (x27_1 : Int) := of_decide_eq_true (by assumption)
         have q306 : x27_1 < (t299.length : Int) := of_decide_eq_true (by assumption)
         obtain ⟨ad306, e306, hx306_0, hx306_1, hx306_2, hx306_3, hx306_4, hx306_5⟩ := at_T51 (Kd.R_reads' HO_25.out).2.2 x27_1 p306 q306
         (try rw [← Nbq18.out] at hx306_0)
         cases e306
         replace p306 := eq_true p306
         replace q306 := eq_true q306
         go_wp2_with (first | ((with_reducible refine gate_dst (N := 13) rfl ?_); refine box_event ?hg (N := 13) ?hd (cs := #[.bool false, .int .i8 0, .int .i64 0, .int .i64 0, .int .i64 0, .int .i64 0]) (t := 51) ?hr ?_; (case hd => rfl); (case hg => rfl); (case hr => first | (go_simp; done) | (go_simp; rfl)); intro gb307 hg w21 hbox hb; have _ := A_ (Kd.R_below (Kd.R_elderB z9_18_ gb307 (Nat.le_of_eq hg.symm)) hb); have _ := A_ (Kd.R_below z9_14_ hb); have _ := A_ (Kd.R_below (Kd.R_elderB z9_17_ gb307 (Nat.le_of_eq hg.symm)) hb); have _ := A_ (blk_below (g := gb297) (o := .cells #[.int .i64 a0_0, .int .i64 a0_1, .int .i64 a0_2, .int .i64 a0_3] 31 (0, 0)) z9_2_ hb); have _ := A_ (blk_below (g := gb298) (o := .cells #[.slice A1_0 l1_0.length c1_0, .slice A1_1 l1_1.length c1_1] 33 (0, 0)) z9_5_ hb); have _ := A_ (below_step z9_1_ hb); have _ := A_ (hbox); have _ := A_ ((by rw [hg]; exact (below_size z9_1_) : w.heap.size ≤ gb307)); have _ := A_ ((by rw [hg]; exact (below_size z9_1_) : w.heap.size ≤ gb307)); have _ := A_ ((by rw [hg]; exact Nat.ne_of_lt (blk_lt (g := gb297) (o := .cells #[.int .i64 a0_0, .int .i64 a0_1, .int .i64 a0_2, .int .i64 a0_3] 31 (0, 0)) z9_2_) : gb297 ≠ gb307)); have _ := A_ ((by rw [hg]; exact Nat.ne_of_gt (blk_lt (g := gb297) (o := .cells #[.int .i64 a0_0, .int .i64 a0_1, .int .i64 a0_2, .int .i64 a0_3] 31 (0, 0)) z9_2_) : gb307 ≠ gb297)); have _ := A_ ((by rw [hg]; exact Nat.ne_of_lt (blk_lt (g := gb298) (o := .cells #[.slice A1_0 l1_0.length c1_0, .slice A1_1 l1_1.length c1_1] 33 (0, 0)) z9_5_) : gb298 ≠ gb307)); have _ := A_ ((by rw [hg]; exact Nat.ne_of_gt (blk_lt (g := gb298) (o := .cells #[.slice A1_0 l1_0.length c1_0, .slice A1_1 l1_1.length c1_1] 33 (0, 0)) z9_5_) : gb307 ≠ gb298)); clear HO_9 HO_11 HO_25 BK297 BK298 HB; rename_i HO_9 HO_11 HO_25 BK297 BK298 HB BK307 GW307 GE307 NB297_307 NB307_297 NB298_307 NB307_298; clear hb hbox hg; have hnb22 := NB307_297.out; have hnc22 := NB297_307.out; have hnb23 := NB307_298.out; have hnc23 := NB298_307.out; obtain ⟨hcz24_0, hcz24_1, hcz24_2, hcz24_3, hcz24_4, hcz24_5⟩ := bc6 BK307.out; obtain ⟨hfz24_0, hfz24_1, hfz24_2, hfz24_3, hfz24_4, hfz24_5⟩ := bf6 BK307.out) | ((with_reducible refine gate_builtin (b := .append) (xs := #[.tmp 33, .tmp 36]) rfl ?_); at_builtin; refine Kd.R_append (Kd.int .i8) (w0 := w) w.heap.size rfl (.tmp 33) (.tmp 36) 24 49 (.int .i8 0) 1 rfl Try.underlying24 info49 rfl (by decide) (by omega) u11 x11_1 ((rd_T51 t299 x27_1).f1) [.int .i8 ((rd_T51 t299 x27_1).f1)] (fun _ => True) (fun _ => False) rfl (by first | (go_simp; done) | (go_simp; rfl)) ?aP (fun _ hk => hk.elim) ?aF ?aO ?aB ?aS ?aL ?_; (case aP => exact rfl); (case aB => exact z9_11_); (case aF => exact (fun _ _ => trivial)); (case aO => exact (by (with_reducible repeat (first | apply Kd.R_alloc | apply Kd.R_drewN | apply Kd.R_drew)); exact Kd.R_mono (Kd.R_far (p := ⟨gb307, 5, none⟩) (Kd.R_far (p := ⟨gb307, 4, none⟩) (Kd.R_far (p := ⟨gb307, 3, none⟩) (Kd.R_far (p := ⟨gb307, 2, none⟩) (Kd.R_far (p := ⟨gb307, 1, none⟩) (Kd.R_far (p := ⟨gb307, 0, none⟩) (Kd.R_types HO_11.out BK307.out (by decide)) (fun _ hk => hk.2) (.bool true)) (fun _ hk => hk.2) (.int .i8 ((rd_T51 t299 x27_1).f1))) (fun _ hk => hk.2) (.int .i64 ((rd_T51 t299 x27_1).f2.f0))) (fun _ hk => hk.2) (.int .i64 ((rd_T51 t299 x27_1).f2.f1))) (fun _ hk => hk.2) (.int .i64 ((rd_T51 t299 x27_1).f2.f2))) (fun _ hk => hk.2) (.int .i64 ((rd_T51 t299 x27_1).f2.f3))) (fun _ hk => trivial))); (case aS => exact (below_size z9_11_)); (case aL => have := LMc20.out; omega); intro v309 w25 ho hb hg hat; rw [← Ny308.out] at ho; have _ := A_ (Kd.R_over' (by (with_reducible repeat (first | apply Kd.R_alloc | apply Kd.R_drewN | apply Kd.R_drew)); exact (Kd.R_mono (Kd.R_far (p := ⟨gb307, 5, none⟩) (Kd.R_far (p := ⟨gb307, 4, none⟩) (Kd.R_far (p := ⟨gb307, 3, none⟩) (Kd.R_far (p := ⟨gb307, 2, none⟩) (Kd.R_far (p := ⟨gb307, 1, none⟩) (Kd.R_far (p := ⟨gb307, 0, none⟩) (Kd.R_mono HO_9.out (fun k_ hk => (⟨hk, hk.2⟩ : _ ∧ k_ ≠ gb307))) (fun _ hk => hk.2) (.bool true)) (fun _ hk => hk.2) (.int .i8 ((rd_T51 t299 x27_1).f1))) (fun _ hk => hk.2) (.int .i64 ((rd_T51 t299 x27_1).f2.f0))) (fun _ hk => hk.2) (.int .i64 ((rd_T51 t299 x27_1).f2.f1))) (fun _ hk => hk.2) (.int .i64 ((rd_T51 t299 x27_1).f2.f2))) (fun _ hk => hk.2) (.int .i64 ((rd_T51 t299 x27_1).f2.f3))) (fun _ h_ => h_.1))) (Kd.R_typed z9_10_) (by decide) hg); have _ := A_ (Kd.R_over' (by (with_reducible repeat (first | apply Kd.R_alloc | apply Kd.R_drewN | apply Kd.R_drew)); exact (Kd.R_mono (Kd.R_far (p := ⟨gb307, 5, none⟩) (Kd.R_far (p := ⟨gb307, 4, none⟩) (Kd.R_far (p := ⟨gb307, 3, none⟩) (Kd.R_far (p := ⟨gb307, 2, none⟩) (Kd.R_far (p := ⟨gb307, 1, none⟩) (Kd.R_far (p := ⟨gb307, 0, none⟩) (Kd.R_mono HO_25.out (fun k_ hk => (⟨hk, hk.2⟩ : _ ∧ k_ ≠ gb307))) (fun _ hk => hk.2) (.bool true)) (fun _ hk => hk.2) (.int .i8 ((rd_T51 t299 x27_1).f1))) (fun _ hk => hk.2) (.int .i64 ((rd_T51 t299 x27_1).f2.f0))) (fun _ hk => hk.2) (.int .i64 ((rd_T51 t299 x27_1).f2.f1))) (fun _ hk => hk.2) (.int .i64 ((rd_T51 t299 x27_1).f2.f2))) (fun _ hk => hk.2) (.int .i64 ((rd_T51 t299 x27_1).f2.f3))) (fun _ h_ => h_.1))) (Kd.R_typed z9_10_) (by decide) hg); have _ := A_ (blk_grown (g := gb297) (o := .cells #[.int .i64 a0_0, .int .i64 a0_1, .int .i64 a0_2, .int .i64 a0_3] 31 (0, 0)) z9_8_ hg (Kd.R_ne HO_11.out BK297.out (by decide))); have _ := A_ (blk_grown (g := gb298) (o := .cells #[.slice A1_0 l1_0.length c1_0, .slice A1_1 l1_1.length c1_1] 33 (0, 0)) z9_7_ hg (Kd.R_ne HO_11.out BK298.out (by decide))); have _ := A_ (blk_grown (g := gb307) (o := .cells #[.bool true, .int .i8 ((rd_T51 t299 x27_1).f1), .int .i64 ((rd_T51 t299 x27_1).f2.f0), .int .i64 ((rd_T51 t299 x27_1).f2.f1), .int .i64 ((rd_T51 t299 x27_1).f2.f2), .int .i64 ((rd_T51 t299 x27_1).f2.f3)] 51 (0, 0)) (by (with_reducible repeat (first | refine blk_drewN ?_ _ | refine blk_drew ?_ | refine blk_alloc ?_ _)); refine blk_put (cs := #[.bool true, .int .i8 ((rd_T51 t299 x27_1).f1), .int .i64 ((rd_T51 t299 x27_1).f2.f0), .int .i64 ((rd_T51 t299 x27_1).f2.f1), .int .i64 ((rd_T51 t299 x27_1).f2.f2), .int .i64 0]) ?_ 5 _ rfl; (with_reducible repeat (first | refine blk_drewN ?_ _ | refine blk_drew ?_ | refine blk_alloc ?_ _)); refine blk_put (cs := #[.bool true, .int .i8 ((rd_T51 t299 x27_1).f1), .int .i64 ((rd_T51 t299 x27_1).f2.f0), .int .i64 ((rd_T51 t299 x27_1).f2.f1), .int .i64 0, .int .i64 0]) ?_ 4 _ rfl; (with_reducible repeat (first | refine blk_drewN ?_ _ | refine blk_drew ?_ | refine blk_alloc ?_ _)); refine blk_put (cs := #[.bool true, .int .i8 ((rd_T51 t299 x27_1).f1), .int .i64 ((rd_T51 t299 x27_1).f2.f0), .int .i64 0, .int .i64 0, .int .i64 0]) ?_ 3 _ rfl; (with_reducible repeat (first | refine blk_drewN ?_ _ | refine blk_drew ?_ | refine blk_alloc ?_ _)); refine blk_put (cs := #[.bool true, .int .i8 ((rd_T51 t299 x27_1).f1), .int .i64 0, .int .i64 0, .int .i64 0, .int .i64 0]) ?_ 2 _ rfl; (with_reducible repeat (first | refine blk_drewN ?_ _ | refine blk_drew ?_ | refine blk_alloc ?_ _)); refine blk_put (cs := #[.bool true, .int .i8 0, .int .i64 0, .int .i64 0, .int .i64 0, .int .i64 0]) ?_ 1 _ rfl; (with_reducible repeat (first | refine blk_drewN ?_ _ | refine blk_drew ?_ | refine blk_alloc ?_ _)); refine blk_put (cs := #[.bool false, .int .i8 0, .int .i64 0, .int .i64 0, .int .i64 0, .int .i64 0]) ?_ 0 _ rfl; (with_reducible repeat (first | refine blk_drewN ?_ _ | refine blk_drew ?_ | refine blk_alloc ?_ _)); exact BK307.out) hg (Kd.R_ne HO_11.out BK307.out (by decide))); have _ := A_ (hb); have _ := A_ (ho); clear HO_9 HO_25 BK297 BK298 BK307 HB HO_11; rename_i HO_9 HO_25 BK297 BK298 BK307 HB HO310; clear ho hb hg hat))
         go_roundg k1
         case measure => have := HK1.out; omega
         case rel => exact ⟨(y308), (wrap64 (x27_1 + 1)), z9_16_, H', ⟨(by have := HK1.out; omega)⟩, ⟨(by (with_reducible repeat (first | apply Kd.R_alloc | apply Kd.R_drewN | apply Kd.R_drew)); exact Kd.R_mono HO_9.out (fun _ hk => trivial))⟩, ⟨(by (with_reducible repeat (first | apply Kd.R_alloc | apply Kd.R_drewN | apply Kd.R_drew)); exact HO310.out)⟩, ⟨(by (with_reducible repeat (first | apply Kd.R_alloc | apply Kd.R_drewN | apply Kd.R_drew)); exact Kd.R_mono HO_25.out (fun _ hk => trivial))⟩, ⟨z9_2_⟩, ⟨z9_5_⟩, ⟨z9_11_⟩⟩
        ·
         rw [if_neg c20] at H
         exact absurd H (by simp)
       ·
        replace c19 := Bool.eq_false_iff.mpr c19
        subst c19
        have H1 := H; rw [if_neg (show ¬ (false = true) by decide)] at H1
        clear H
        have H := H1
        clear H1
        have H' := A_ H
        clear H
        have p306 : 0 ≤ (x27_1 : Int) := of_decide_eq_true (by assumption)
        have q306 : x27_1 < (t299.length : Int) := of_decide_eq_true (by assumption)
        obtain ⟨ad306, e306, hx306_0, hx306_1, hx306_2, hx306_3, hx306_4, hx306_5⟩ := at_T51 (Kd.R_reads' HO_25.out).2.2 x27_1 p306 q306
        (try rw [← Nbq18.out] at hx306_0)
        cases e306
        replace p306 := eq_true p306
        replace q306 := eq_true q306
        go_wp2_with (first | ((with_reducible refine gate_dst (N := 13) rfl ?_); refine box_event ?hg (N := 13) ?hd (cs := #[.bool false, .int .i8 0, .int .i64 0, .int .i64 0, .int .i64 0, .int .i64 0]) (t := 51) ?hr ?_; (case hd => rfl); (case hg => rfl); (case hr => first | (go_simp; done) | (go_simp; rfl)); intro gb307 hg w26 hbox hb; have _ := A_ (Kd.R_below (Kd.R_elderB z9_18_ gb307 (Nat.le_of_eq hg.symm)) hb); have _ := A_ (Kd.R_below z9_14_ hb); have _ := A_ (Kd.R_below (Kd.R_elderB z9_17_ gb307 (Nat.le_of_eq hg.symm)) hb); have _ := A_ (blk_below (g := gb297) (o := .cells #[.int .i64 a0_0, .int .i64 a0_1, .int .i64 a0_2, .int .i64 a0_3] 31 (0, 0)) z9_2_ hb); have _ := A_ (blk_below (g := gb298) (o := .cells #[.slice A1_0 l1_0.length c1_0, .slice A1_1 l1_1.length c1_1] 33 (0, 0)) z9_5_ hb); have _ := A_ (below_step z9_1_ hb); have _ := A_ (hbox); have _ := A_ ((by rw [hg]; exact (below_size z9_1_) : w.heap.size ≤ gb307)); have _ := A_ ((by rw [hg]; exact (below_size z9_1_) : w.heap.size ≤ gb307)); have _ := A_ ((by rw [hg]; exact Nat.ne_of_lt (blk_lt (g := gb297) (o := .cells #[.int .i64 a0_0, .int .i64 a0_1, .int .i64 a0_2, .int .i64 a0_3] 31 (0, 0)) z9_2_) : gb297 ≠ gb307)); have _ := A_ ((by rw [hg]; exact Nat.ne_of_gt (blk_lt (g := gb297) (o := .cells #[.int .i64 a0_0, .int .i64 a0_1, .int .i64 a0_2, .int .i64 a0_3] 31 (0, 0)) z9_2_) : gb307 ≠ gb297)); have _ := A_ ((by rw [hg]; exact Nat.ne_of_lt (blk_lt (g := gb298) (o := .cells #[.slice A1_0 l1_0.length c1_0, .slice A1_1 l1_1.length c1_1] 33 (0, 0)) z9_5_) : gb298 ≠ gb307)); have _ := A_ ((by rw [hg]; exact Nat.ne_of_gt (blk_lt (g := gb298) (o := .cells #[.slice A1_0 l1_0.length c1_0, .slice A1_1 l1_1.length c1_1] 33 (0, 0)) z9_5_) : gb307 ≠ gb298)); clear HO_9 HO_11 HO_25 BK297 BK298 HB; rename_i HO_9 HO_11 HO_25 BK297 BK298 HB BK307 GW307 GE307 NB297_307 NB307_297 NB298_307 NB307_298; clear hb hbox hg; have hnb27 := NB307_297.out; have hnc27 := NB297_307.out; have hnb28 := NB307_298.out; have hnc28 := NB298_307.out; obtain ⟨hcz29_0, hcz29_1, hcz29_2, hcz29_3, hcz29_4, hcz29_5⟩ := bc6 BK307.out; obtain ⟨hfz29_0, hfz29_1, hfz29_2, hfz29_3, hfz29_4, hfz29_5⟩ := bf6 BK307.out))
        go_roundg k1
        case measure => have := HK1.out; omega
        case rel => exact ⟨(x11_1), (wrap64 (x27_1 + 1)), z9_16_, H', ⟨(by have := HK1.out; omega)⟩, ⟨(by (with_reducible repeat (first | apply Kd.R_alloc | apply Kd.R_drewN | apply Kd.R_drew)); exact Kd.R_mono (Kd.R_far (p := ⟨gb307, 5, none⟩) (Kd.R_far (p := ⟨gb307, 4, none⟩) (Kd.R_far (p := ⟨gb307, 3, none⟩) (Kd.R_far (p := ⟨gb307, 2, none⟩) (Kd.R_far (p := ⟨gb307, 1, none⟩) (Kd.R_far (p := ⟨gb307, 0, none⟩) (Kd.R_mono HO_9.out (fun k_ hk => (⟨hk, hk.2⟩ : _ ∧ k_ ≠ gb307))) (fun _ hk => hk.2) (.bool false)) (fun _ hk => hk.2) (.int .i8 ((rd_T51 t299 x27_1).f1))) (fun _ hk => hk.2) (.int .i64 ((rd_T51 t299 x27_1).f2.f0))) (fun _ hk => hk.2) (.int .i64 ((rd_T51 t299 x27_1).f2.f1))) (fun _ hk => hk.2) (.int .i64 ((rd_T51 t299 x27_1).f2.f2))) (fun _ hk => hk.2) (.int .i64 ((rd_T51 t299 x27_1).f2.f3))) (fun _ hk => trivial))⟩, ⟨(by (with_reducible repeat (first | apply Kd.R_alloc | apply Kd.R_drewN | apply Kd.R_drew)); exact Kd.R_mono (Kd.R_far (p := ⟨gb307, 5, none⟩) (Kd.R_far (p := ⟨gb307, 4, none⟩) (Kd.R_far (p := ⟨gb307, 3, none⟩) (Kd.R_far (p := ⟨gb307, 2, none⟩) (Kd.R_far (p := ⟨gb307, 1, none⟩) (Kd.R_far (p := ⟨gb307, 0, none⟩) (Kd.R_types HO_11.out BK307.out (by decide)) (fun _ hk => hk.2) (.bool false)) (fun _ hk => hk.2) (.int .i8 ((rd_T51 t299 x27_1).f1))) (fun _ hk => hk.2) (.int .i64 ((rd_T51 t299 x27_1).f2.f0))) (fun _ hk => hk.2) (.int .i64 ((rd_T51 t299 x27_1).f2.f1))) (fun _ hk => hk.2) (.int .i64 ((rd_T51 t299 x27_1).f2.f2))) (fun _ hk => hk.2) (.int .i64 ((rd_T51 t299 x27_1).f2.f3))) (fun _ hk => trivial))⟩, ⟨(by (with_reducible repeat (first | apply Kd.R_alloc | apply Kd.R_drewN | apply Kd.R_drew)); exact Kd.R_mono (Kd.R_far (p := ⟨gb307, 5, none⟩) (Kd.R_far (p := ⟨gb307, 4, none⟩) (Kd.R_far (p := ⟨gb307, 3, none⟩) (Kd.R_far (p := ⟨gb307, 2, none⟩) (Kd.R_far (p := ⟨gb307, 1, none⟩) (Kd.R_far (p := ⟨gb307, 0, none⟩) (Kd.R_mono HO_25.out (fun k_ hk => (⟨hk, hk.2⟩ : _ ∧ k_ ≠ gb307))) (fun _ hk => hk.2) (.bool false)) (fun _ hk => hk.2) (.int .i8 ((rd_T51 t299 x27_1).f1))) (fun _ hk => hk.2) (.int .i64 ((rd_T51 t299 x27_1).f2.f0))) (fun _ hk => hk.2) (.int .i64 ((rd_T51 t299 x27_1).f2.f1))) (fun _ hk => hk.2) (.int .i64 ((rd_T51 t299 x27_1).f2.f2))) (fun _ hk => hk.2) (.int .i64 ((rd_T51 t299 x27_1).f2.f3))) (fun _ hk => trivial))⟩, ⟨z9_8_⟩, ⟨z9_7_⟩, ⟨z9_11_⟩⟩
      ·
       rw [if_neg c17] at H
       exact absurd H (by simp)
     ·
      rw [if_neg c16] at H
      exact absurd H (by simp)
    ·
     rw [if_neg c15] at H
     have c15b0 := decide_eq_false c15
     clear c15
     simp only [Option.some.injEq, Prod.mk.injEq] at H
     obtain ⟨rfl, rfl, rfl⟩ := H
     obtain ⟨Ao30, co30, eo30⟩ := Kd.R_slice HO_11.out
     subst eo30
     go_wp2
     go_ret3
     exact ⟨_, z9_12_, z9_14_, z9_1_⟩
 ·
  rw [if_neg c5] at H
  have c5b0 : (t302 == 0) = false := beq_eq_false_iff_ne.mpr c5
  have c5b1 : (t302 != 0) = true := bne_iff_ne.mpr c5
  simp only [Option.some.injEq, Prod.mk.injEq] at H
  obtain ⟨rfl, rfl, rfl⟩ := H
  go_enter Try.func18, Try.ntmps18
  go_wp2_with (first | ((with_reducible refine gate_dst (N := 3) rfl ?_); refine box_event ?hg (N := 3) ?hd (cs := #[.int .i64 a0_0, .int .i64 a0_1, .int .i64 a0_2, .int .i64 a0_3]) (t := 31) ?hr ?_; (case hd => rfl); (case hg => rfl); (case hr => first | (go_simp; done) | (go_simp; rfl)); intro gb297 hg w31 hbox hb; have _ := A_ (below_step z9_3_ hb); have _ := A_ (hbox); have _ := A_ ((by rw [hg]; exact (below_size z9_3_) : w.heap.size ≤ gb297)); have _ := A_ ((by rw [hg]; exact (below_size z9_3_) : w.heap.size ≤ gb297)); clear HB; rename_i HB BK297 GW297 GE297; clear hb hbox hg) | ((with_reducible refine gate_dst (N := 4) rfl ?_); refine box_event ?hg (N := 4) ?hd (cs := #[.slice A1_0 l1_0.length c1_0, .slice A1_1 l1_1.length c1_1]) (t := 33) ?hr ?_; (case hd => rfl); (case hg => rfl); (case hr => first | (go_simp; done) | (go_simp; rfl)); intro gb298 hg w32 hbox hb; have _ := A_ (blk_below (g := gb297) (o := .cells #[.int .i64 a0_0, .int .i64 a0_1, .int .i64 a0_2, .int .i64 a0_3] 31 (0, 0)) z9_2_ hb); have _ := A_ (below_step z9_9_ hb); have _ := A_ (hbox); have _ := A_ ((by rw [hg]; exact (below_size z9_9_) : w.heap.size ≤ gb298)); have _ := A_ ((by rw [hg]; exact (below_size z9_9_) : w.heap.size ≤ gb298)); have _ := A_ ((by rw [hg]; exact Nat.ne_of_lt (blk_lt (g := gb297) (o := .cells #[.int .i64 a0_0, .int .i64 a0_1, .int .i64 a0_2, .int .i64 a0_3] 31 (0, 0)) z9_2_) : gb297 ≠ gb298)); have _ := A_ ((by rw [hg]; exact Nat.ne_of_gt (blk_lt (g := gb297) (o := .cells #[.int .i64 a0_0, .int .i64 a0_1, .int .i64 a0_2, .int .i64 a0_3] 31 (0, 0)) z9_2_) : gb298 ≠ gb297)); clear BK297 HB; rename_i BK297 HB BK298 GW298 GE298 NB297_298 NB298_297; clear hb hbox hg; have hnb33 := NB297_298.out; have hnc33 := NB298_297.out; obtain ⟨hcz34_0, hcz34_1, hcz34_2, hcz34_3⟩ := bc4 BK297.out; obtain ⟨hfz34_0, hfz34_1, hfz34_2, hfz34_3⟩ := bf4 BK297.out; obtain ⟨hcz35_0, hcz35_1⟩ := bc2 BK298.out; obtain ⟨hfz35_0, hfz35_1⟩ := bf2 BK298.out) | ((with_reducible refine gate_callee (f := 43) rfl ?_); refine goesL_ (some 18) rfl rfl Try.func43 (by kernel_rfl) rfl #[.agg #[.int .i64 a0_0, .int .i64 a0_1, .int .i64 a0_2, .int .i64 a0_3], .agg #[.slice A1_0 l1_0.length c1_0, .slice A1_1 l1_1.length c1_1], .int .i64 a2] rfl z9_6_ ?_; (with_reducible refine (impl_Moebius_run.calls k a0_0 a0_1 a0_2 a0_3 _ _ l1_0 _ _ l1_1 a2 t299 t302 _ ?side1 ?side2 ?side3 ?side4 A4.out).mono ?_); (case side1 => have hx_ := (Kd.C_below HR1_0.out HB.out); exact kc_); (case side2 => exact HC1_0.out); (case side3 => have hx_ := (Kd.C_below HR1_1.out HB.out); exact kc_); (case side4 => exact HC1_1.out); rintro e w36 ⟨v300, rfl, ho0, hb⟩; refine ⟨_, rfl, ?_⟩; have _ := A_ (Kd.R_lower ho0 (below_size z9_1_)); have _ := A_ (blk_below (g := gb297) (o := .cells #[.int .i64 a0_0, .int .i64 a0_1, .int .i64 a0_2, .int .i64 a0_3] 31 (0, 0)) z9_2_ hb); have _ := A_ (blk_below (g := gb298) (o := .cells #[.slice A1_0 l1_0.length c1_0, .slice A1_1 l1_1.length c1_1] 33 (0, 0)) z9_5_ hb); have _ := A_ (below_step z9_1_ hb); clear BK297 BK298 HB; rename_i HO301 BK297 BK298 HB; (try clear hb); (try clear ho0)))
  go_ret3
  exact ⟨_, z9_12_, (by first | exact Kd.R_nil _ _ _ _ _ | exact Kd.N_nil _ _ _ _ _ | exact Kd.V_nil _ _ _ _ _ | exact Kd.Q_nil _ _ _ _ _ | exact Kd.S_nil _ _ _ _ _), z9_1_⟩
/-! ### impl_DigitAt: function 26 -/
def impl_DigitAt.f (l0_0 : List Int) (l0_1 : List Int) (a1 : Int) : Option (Int × Int) := (impl_ValidStream.f l0_0 l0_1).bind fun t401 => (if t401 = true then ((impl_within.f a1 0 1000000000).bind fun t402 => (if t402 = true then ((impl_Stream_at.f l0_0 l0_1 a1).bind fun t403 => (some (t403, 0))) else (some (0, 2)))) else (some (0, 1)))
set_option maxHeartbeats 8000000 in
set_option maxRecDepth 100000 in
theorem impl_DigitAt.calls (A0_0 : Option Addr) (c0_0 : Nat) (l0_0 : List Int) (A0_1 : Option Addr) (c0_1 : Nat) (l0_1 : List Int) (a1 : Int) (r1 : Int) (r2 : Int) (w : World) (hr0_0 : Kd.C (Kd.int .i8) w A0_0 l0_0.length l0_0) (hc0_0 : l0_0.length ≤ c0_0) (hr0_1 : Kd.C (Kd.int .i8) w A0_1 l0_1.length l0_1) (hc0_1 : l0_1.length ≤ c0_1) (h : impl_DigitAt.f l0_0 l0_1 a1 = some (r1, r2)) :
  Calls Try.prog 26 #[.agg #[.slice A0_0 l0_0.length c0_0, .slice A0_1 l0_1.length c0_1], .int .i64 a1] w fun e w' => e = .returned (.tuple #[.int .i8 r1, .int .i64 r2]) ∧ Below w.heap.size w w' := by
 have hu33 := Try.underlying33
 have HR0_0 := A_ hr0_0
 have HC0_0 := A_ hc0_0
 clear hr0_0 hc0_0
 have HR0_1 := A_ hr0_1
 have HC0_1 := A_ hc0_1
 clear hr0_1 hc0_1
 have HB := A_ (Below.refl w.heap.size w)
 have H : ((impl_ValidStream.f l0_0 l0_1).bind fun t401 => (if t401 = true then ((impl_within.f a1 0 1000000000).bind fun t402 => (if t402 = true then ((impl_Stream_at.f l0_0 l0_1 a1).bind fun t403 => (some (t403, 0))) else (some (0, 2)))) else (some (0, 1)))) = some (r1, r2) := h
 clear h
 replace H := Option.bind_eq_some_iff.mp H
 obtain ⟨t401, A30, H⟩ := H
 try dsimp only at H
 have A3 := A_ A30
 clear A30
 by_cases c4 : t401 = true
 ·
  subst c4
  have H1 := H; rw [if_pos rfl] at H1
  clear H
  have H := H1
  clear H1
  replace H := Option.bind_eq_some_iff.mp H
  obtain ⟨t402, A50, H⟩ := H
  try dsimp only at H
  have A5 := A_ A50
  clear A50
  by_cases c6 : t402 = true
  ·
   subst c6
   have H1 := H; rw [if_pos rfl] at H1
   clear H
   have H := H1
   clear H1
   replace H := Option.bind_eq_some_iff.mp H
   obtain ⟨t403, A70, H⟩ := H
   try dsimp only at H
   have A7 := A_ A70
   clear A70
   simp only [Option.some.injEq, Prod.mk.injEq] at H
   obtain ⟨rfl, rfl⟩ := H
   go_enter Try.func26, Try.ntmps26
   go_wp2_with (first | ((with_reducible refine gate_dst (N := 2) rfl ?_); refine box_event ?hg (N := 2) ?hd (cs := #[.slice A0_0 l0_0.length c0_0, .slice A0_1 l0_1.length c0_1]) (t := 33) ?hr ?_; (case hd => rfl); (case hg => rfl); (case hr => first | (go_simp; done) | (go_simp; rfl)); intro gb400 hg w8 hbox hb; have _ := A_ (below_step z9_3_ hb); have _ := A_ (hbox); have _ := A_ ((by rw [hg]; exact (below_size z9_3_) : w.heap.size ≤ gb400)); have _ := A_ ((by rw [hg]; exact (below_size z9_3_) : w.heap.size ≤ gb400)); clear HB; rename_i HB BK400 GW400 GE400; clear hb hbox hg; obtain ⟨hcz9_0, hcz9_1⟩ := bc2 BK400.out; obtain ⟨hfz9_0, hfz9_1⟩ := bf2 BK400.out) | ((with_reducible refine gate_callee (f := 50) rfl ?_); refine goesL_ (some 7) rfl rfl Try.func50 (by kernel_rfl) rfl #[.agg #[.slice A0_0 l0_0.length c0_0, .slice A0_1 l0_1.length c0_1]] rfl z9_6_ ?_; (with_reducible refine (impl_ValidStream.calls _ _ l0_0 _ _ l0_1 true _ ?side1 ?side2 ?side3 ?side4 A3.out).mono ?_); (case side1 => have hx_ := (Kd.C_below HR0_0.out HB.out); exact kc_); (case side2 => exact HC0_0.out); (case side3 => have hx_ := (Kd.C_below HR0_1.out HB.out); exact kc_); (case side4 => exact HC0_1.out); rintro e w10 ⟨rfl, hb⟩; refine ⟨_, rfl, ?_⟩; have _ := A_ (blk_below (g := gb400) (o := .cells #[.slice A0_0 l0_0.length c0_0, .slice A0_1 l0_1.length c0_1] 33 (0, 0)) z9_13_ hb); have _ := A_ (below_step z9_4_ hb); clear BK400 HB; rename_i BK400 HB; (try clear hb)) | ((with_reducible refine gate_callee (f := 51) rfl ?_); refine goesL_ (some 10) rfl rfl Try.func51 (by kernel_rfl) rfl #[.int .i64 a1, .int .i64 0, .int .i64 1000000000] rfl z9_6_ ?_; (with_reducible refine (impl_within.calls a1 0 1000000000 true _ A5.out).mono ?_); rintro e w' ⟨rfl, ⟨nd, rfl⟩⟩; refine ⟨_, rfl, ?_⟩; obtain ⟨hcz11_0, hcz11_1⟩ := bc2 BK400.out; obtain ⟨hfz11_0, hfz11_1⟩ := bf2 BK400.out) | ((with_reducible refine gate_callee (f := 52) rfl ?_); refine goesL_ (some 14) rfl rfl Try.func52 (by kernel_rfl) rfl #[.agg #[.slice A0_0 l0_0.length c0_0, .slice A0_1 l0_1.length c0_1], .int .i64 a1] rfl z9_6_ ?_; (with_reducible refine (impl_Stream_at.calls _ _ l0_0 _ _ l0_1 a1 t403 _ ?side1 ?side2 ?side3 ?side4 A7.out).mono ?_); (case side1 => repeat (first | exact (Kd.C_below HR0_0.out z9_4_) | (with_reducible refine Kd.C_alloc ?_ _) | (with_reducible refine Kd.C_drewN ?_ _) | (with_reducible refine Kd.C_drew ?_))); (case side2 => exact HC0_0.out); (case side3 => repeat (first | exact (Kd.C_below HR0_1.out z9_4_) | (with_reducible refine Kd.C_alloc ?_ _) | (with_reducible refine Kd.C_drewN ?_ _) | (with_reducible refine Kd.C_drew ?_))); (case side4 => exact HC0_1.out); rintro e w12 ⟨rfl, hb⟩; refine ⟨_, rfl, ?_⟩; have _ := A_ (blk_below (g := gb400) (o := .cells #[.slice A0_0 l0_0.length c0_0, .slice A0_1 l0_1.length c0_1] 33 (0, 0)) z9_13_ hb); have _ := A_ (below_step z9_4_ hb); clear BK400 HB; rename_i BK400 HB; (try clear hb)))
   go_ret2
   exact ⟨z9_12_, z9_4_⟩
  ·
   replace c6 := Bool.eq_false_iff.mpr c6
   subst c6
   have H1 := H; rw [if_neg (show ¬ (false = true) by decide)] at H1
   clear H
   have H := H1
   clear H1
   simp only [Option.some.injEq, Prod.mk.injEq] at H
   obtain ⟨rfl, rfl⟩ := H
   go_enter Try.func26, Try.ntmps26
   go_wp2_with (first | ((with_reducible refine gate_dst (N := 2) rfl ?_); refine box_event ?hg (N := 2) ?hd (cs := #[.slice A0_0 l0_0.length c0_0, .slice A0_1 l0_1.length c0_1]) (t := 33) ?hr ?_; (case hd => rfl); (case hg => rfl); (case hr => first | (go_simp; done) | (go_simp; rfl)); intro gb400 hg w13 hbox hb; have _ := A_ (below_step z9_3_ hb); have _ := A_ (hbox); have _ := A_ ((by rw [hg]; exact (below_size z9_3_) : w.heap.size ≤ gb400)); have _ := A_ ((by rw [hg]; exact (below_size z9_3_) : w.heap.size ≤ gb400)); clear HB; rename_i HB BK400 GW400 GE400; clear hb hbox hg; obtain ⟨hcz14_0, hcz14_1⟩ := bc2 BK400.out; obtain ⟨hfz14_0, hfz14_1⟩ := bf2 BK400.out) | ((with_reducible refine gate_callee (f := 50) rfl ?_); refine goesL_ (some 7) rfl rfl Try.func50 (by kernel_rfl) rfl #[.agg #[.slice A0_0 l0_0.length c0_0, .slice A0_1 l0_1.length c0_1]] rfl z9_6_ ?_; (with_reducible refine (impl_ValidStream.calls _ _ l0_0 _ _ l0_1 true _ ?side1 ?side2 ?side3 ?side4 A3.out).mono ?_); (case side1 => have hx_ := (Kd.C_below HR0_0.out HB.out); exact kc_); (case side2 => exact HC0_0.out); (case side3 => have hx_ := (Kd.C_below HR0_1.out HB.out); exact kc_); (case side4 => exact HC0_1.out); rintro e w15 ⟨rfl, hb⟩; refine ⟨_, rfl, ?_⟩; have _ := A_ (blk_below (g := gb400) (o := .cells #[.slice A0_0 l0_0.length c0_0, .slice A0_1 l0_1.length c0_1] 33 (0, 0)) z9_13_ hb); have _ := A_ (below_step z9_4_ hb); clear BK400 HB; rename_i BK400 HB; (try clear hb)) | ((with_reducible refine gate_callee (f := 51) rfl ?_); refine goesL_ (some 10) rfl rfl Try.func51 (by kernel_rfl) rfl #[.int .i64 a1, .int .i64 0, .int .i64 1000000000] rfl z9_6_ ?_; (with_reducible refine (impl_within.calls a1 0 1000000000 false _ A5.out).mono ?_); rintro e w' ⟨rfl, ⟨nd, rfl⟩⟩; refine ⟨_, rfl, ?_⟩))
   go_ret2
   exact ⟨z9_12_, z9_4_⟩
 ·
  replace c4 := Bool.eq_false_iff.mpr c4
  subst c4
  have H1 := H; rw [if_neg (show ¬ (false = true) by decide)] at H1
  clear H
  have H := H1
  clear H1
  simp only [Option.some.injEq, Prod.mk.injEq] at H
  obtain ⟨rfl, rfl⟩ := H
  go_enter Try.func26, Try.ntmps26
  go_wp2_with (first | ((with_reducible refine gate_dst (N := 2) rfl ?_); refine box_event ?hg (N := 2) ?hd (cs := #[.slice A0_0 l0_0.length c0_0, .slice A0_1 l0_1.length c0_1]) (t := 33) ?hr ?_; (case hd => rfl); (case hg => rfl); (case hr => first | (go_simp; done) | (go_simp; rfl)); intro gb400 hg w16 hbox hb; have _ := A_ (below_step z9_3_ hb); have _ := A_ (hbox); have _ := A_ ((by rw [hg]; exact (below_size z9_3_) : w.heap.size ≤ gb400)); have _ := A_ ((by rw [hg]; exact (below_size z9_3_) : w.heap.size ≤ gb400)); clear HB; rename_i HB BK400 GW400 GE400; clear hb hbox hg; obtain ⟨hcz17_0, hcz17_1⟩ := bc2 BK400.out; obtain ⟨hfz17_0, hfz17_1⟩ := bf2 BK400.out) | ((with_reducible refine gate_callee (f := 50) rfl ?_); refine goesL_ (some 7) rfl rfl Try.func50 (by kernel_rfl) rfl #[.agg #[.slice A0_0 l0_0.length c0_0, .slice A0_1 l0_1.length c0_1]] rfl z9_6_ ?_; (with_reducible refine (impl_ValidStream.calls _ _ l0_0 _ _ l0_1 false _ ?side1 ?side2 ?side3 ?side4 A3.out).mono ?_); (case side1 => have hx_ := (Kd.C_below HR0_0.out HB.out); exact kc_); (case side2 => exact HC0_0.out); (case side3 => have hx_ := (Kd.C_below HR0_1.out HB.out); exact kc_); (case side4 => exact HC0_1.out); rintro e w18 ⟨rfl, hb⟩; refine ⟨_, rfl, ?_⟩; have _ := A_ (blk_below (g := gb400) (o := .cells #[.slice A0_0 l0_0.length c0_0, .slice A0_1 l0_1.length c0_1] 33 (0, 0)) z9_13_ hb); have _ := A_ (below_step z9_4_ hb); clear BK400 HB; rename_i BK400 HB; (try clear hb)))
  go_ret2
  exact ⟨z9_12_, z9_4_⟩
end Go.Proofs.Ytififhihgkbafaa.PM

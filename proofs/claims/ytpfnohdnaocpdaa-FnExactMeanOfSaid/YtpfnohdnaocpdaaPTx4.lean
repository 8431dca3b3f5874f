import Derived.Test.YtpfnohdnaocpdaaPTx0
import Derived.Test.YtpfnohdnaocpdaaPTx3
namespace Go.Proofs.Ytpfnohdnaocpdaa.PT
open Go.RowKit Go.Proofs.YtpfnohdnaocpdaaW.PrintWords Go.Proofs.YtpfnohdnaocpdaaW.PrintLast Go.Proofs.YtpfnohdnaocpdaaW.PrintMore Go.Proofs.YtpfnohdnaocpdaaRP
attribute [local go_sem] max2_int min2_int max_two min_two max_three min_three max_four min_four Go.Proofs.YtpfnohdnaocpdaaRP.max_eight Go.Proofs.YtpfnohdnaocpdaaRP.tmod_len   -- for this text's walks alone
set_option linter.unusedVariables false
set_option linter.unusedSimpArgs false
theorem z4_1_ {P : Prop} (h : P := by repeat (first | (with_reducible first | exact HB.out | apply below_alloc | apply pw_below_drewN | apply below_drew1 | refine below_set ?_ GE278.out) | exact HB.out)) : P := h
theorem z4_2_ {P : Prop} (h : P := by repeat (first | (with_reducible first | exact HB.out | apply below_alloc | apply pw_below_drewN | apply below_drew1) | exact HB.out)) : P := h
theorem z4_3_ {P : Prop} (h : P := by repeat (first | (with_reducible first | exact HB.out | apply below_alloc | apply pw_below_drewN | apply below_drew1 | refine below_set ?_ GE308.out) | exact HB.out)) : P := h
theorem z4_4_ {P : Prop} (h : P := by (with_reducible repeat (first | refine blk_drewN ?_ _ | refine blk_drew ?_ | refine blk_alloc ?_ _)); exact BK308.out) : P := h
theorem z4_5_ {P : Prop} (h : P := by (with_reducible repeat (first | refine blk_drewN ?_ _ | refine blk_drew ?_ | refine blk_alloc ?_ _)); exact BK278.out) : P := h
theorem z4_6_ {P : Prop} (h : P := by (with_reducible repeat (first | refine blk_drewN ?_ _ | refine blk_drew ?_ | refine blk_alloc ?_ _)); refine blk_put (cs := #[.int .i64 0, .int .i64 0]) ?_ 1 _ rfl; (with_reducible repeat (first | refine blk_drewN ?_ _ | refine blk_drew ?_ | refine blk_alloc ?_ _)); refine blk_put (cs := #[.int .i64 0, .int .i64 0]) ?_ 0 _ rfl; (with_reducible repeat (first | refine blk_drewN ?_ _ | refine blk_drew ?_ | refine blk_alloc ?_ _)); exact BK278.out) : P := h
theorem z4_7_ {P : Prop} (h : P := by repeat (first | (with_reducible first | exact HB.out | apply below_alloc | apply pw_below_drewN | apply below_drew1 | refine below_set ?_ GE278.out | refine below_set ?_ GE285.out) | exact HB.out)) : P := h
theorem z4_8_ {P : Prop} (h : P := by first | rfl | (simp [errW_none, errW_some] <;> rfl) | (simp [*, errW_none, errW_some] <;> rfl)) : P := h
theorem z4_9_ {P : Prop} (h : P := by (try simp only [List.map_toArray, List.map_cons, List.map_nil]); first | done | rfl | (simp only [List.length_drop, List.length_take]; rfl)) : P := h
theorem z4_10_ {P : Prop} (h : P := by repeat (first | (with_reducible first | exact HB.out | apply below_alloc | apply pw_below_drewN | apply below_drew1 | refine below_set ?_ GE308.out | refine below_set ?_ GE309.out) | exact HB.out)) : P := h
theorem z4_11_ {P : Prop} (h : P := by (with_reducible repeat (first | refine blk_drewN ?_ _ | refine blk_drew ?_ | refine blk_alloc ?_ _)); refine blk_far ?_ NB278_285.out _; (with_reducible repeat (first | refine blk_drewN ?_ _ | refine blk_drew ?_ | refine blk_alloc ?_ _)); refine blk_far ?_ NB278_285.out _; (with_reducible repeat (first | refine blk_drewN ?_ _ | refine blk_drew ?_ | refine blk_alloc ?_ _)); exact BK278.out) : P := h
theorem z4_12_ {P : Prop} (h : P := by (with_reducible repeat (first | apply Kd.R_alloc | apply Kd.R_drewN | apply Kd.R_drew)); exact (Kd.R_mono (Kd.R_far (p := ⟨gb285, 1, none⟩) (Kd.R_far (p := ⟨gb285, 0, none⟩) (Kd.R_types HO283.out BK285.out (by decide)) (fun _ hk => hk.2) (.int .i64 (wrap64 (Int.tdiv x0_11 t284)))) (fun _ hk => hk.2) (.int .i64 (wrap64 (Int.tdiv x1_11 t284)))) (fun _ h_ => h_.1))) : P := h
theorem z4_13_ {P : Prop} (h : P := by first | rfl | (simp; done) | (simp [*]; done) | (simp [isE_]; done)) : P := h
theorem z4_14_ {P : Prop} (h : P := by (with_reducible repeat (first | apply Kd.R_alloc | apply Kd.R_drewN | apply Kd.R_drew)); exact HO283.out) : P := h
/-! ### impl_MakeRatio: function 108 -/
mutual
def impl_MakeRatio.j0 : Nat → Int → Int → Bool → Option (Int × Int × Int)
 | 0, _, _, _ => none
 | k + 1, x0, x1, x15 => if x15 = true then (some (0, 0, 3)) else (if x1 = 0 then (some (0, 0, 4)) else (if x1 < 0 then (impl_MakeRatio.j1 k (wrap64 (-x0)) (wrap64 (-x1))) else (impl_MakeRatio.j1 k x0 x1)))
def impl_MakeRatio.j1 : Nat → Int → Int → Option (Int × Int × Int)
 | 0, _, _ => none
 | k + 1, x0, x1 => (impl_common.f k (([x0, x1] : List Int))).bind fun t284 => (if t284 = 0 then (none) else ((impl_ValidRatio.f k (wrap64 (Int.tdiv x0 t284)) (wrap64 (Int.tdiv x1 t284))).bind fun t286 => (if t286 = true then (some (wrap64 (Int.tdiv x0 t284), wrap64 (Int.tdiv x1 t284), 0)) else (some (0, 0, 3)))))
end
def impl_MakeRatio.f (k : Nat) (a0 : Int) (a1 : Int) : Option (Int × Int × Int) := (impl_within.f a0 (-1000000000000000000) 1000000000000000000).bind fun t279 => (if t279 = true then ((impl_within.f a1 (-1000000000000000000) 1000000000000000000).bind fun t280 => (impl_MakeRatio.j0 k a0 a1 (!t280))) else (impl_MakeRatio.j0 k a0 a1 true))
theorem impl_MakeRatio.mono_l : ∀ k, (∀ y0 y1 y2, LeO (impl_MakeRatio.j0 k y0 y1 y2) (impl_MakeRatio.j0 (k + 1) y0 y1 y2)) ∧ (∀ y0 y1, LeO (impl_MakeRatio.j1 k y0 y1) (impl_MakeRatio.j1 (k + 1) y0 y1))
 | 0 => ⟨fun _ _ _ r h => by simp [impl_MakeRatio.j0] at h, fun _ _ r h => by simp [impl_MakeRatio.j1] at h⟩
 | k + 1 => by
  obtain ⟨ih0, ih1⟩ := impl_MakeRatio.mono_l k
  refine ⟨?_, ?_⟩
  ·
   intro y0 y1 y2
   unfold impl_MakeRatio.j0
   repeat' first
   | (with_reducible exact ih0 _ _ _)
   | (with_reducible exact ih1 _ _)
   | (with_reducible exact impl_ValidRatio.mono _ _ _)
   | (with_reducible exact impl_common.mono _ _)
   | (with_reducible exact LeO.refl _)
   | (with_reducible exact LeO.none _)
   | (with_reducible refine LeO.ite ?_ ?_)
   | (with_reducible refine LeO.bind ?_ (fun _ => ?_))
   | exact ih0 _ _ _
   | exact ih1 _ _
   | exact LeO.none _
   | refine LeO.ite ?_ ?_
   | refine LeO.bind ?_ (fun _ => ?_)
  ·
   intro y0 y1
   unfold impl_MakeRatio.j1
   repeat' first
   | (with_reducible exact ih0 _ _ _)
   | (with_reducible exact ih1 _ _)
   | (with_reducible exact impl_ValidRatio.mono _ _ _)
   | (with_reducible exact impl_common.mono _ _)
   | (with_reducible exact LeO.refl _)
   | (with_reducible exact LeO.none _)
   | (with_reducible refine LeO.ite ?_ ?_)
   | (with_reducible refine LeO.bind ?_ (fun _ => ?_))
   | exact ih0 _ _ _
   | exact ih1 _ _
   | exact LeO.none _
   | refine LeO.ite ?_ ?_
   | refine LeO.bind ?_ (fun _ => ?_)
theorem impl_MakeRatio.mono : ∀ a0 a1 k, LeO (impl_MakeRatio.f k a0 a1) (impl_MakeRatio.f (k + 1) a0 a1) := by
 intro a0 a1 k
 obtain ⟨ih0, ih1⟩ := impl_MakeRatio.mono_l k
 unfold impl_MakeRatio.f
 repeat' first
   | (with_reducible exact ih0 _ _ _)
   | (with_reducible exact ih1 _ _)
   | (with_reducible exact impl_ValidRatio.mono _ _ _)
   | (with_reducible exact impl_common.mono _ _)
   | (with_reducible exact LeO.refl _)
   | (with_reducible exact LeO.none _)
   | (with_reducible refine LeO.ite ?_ ?_)
   | (with_reducible refine LeO.bind ?_ (fun _ => ?_))
   | exact ih0 _ _ _
   | exact ih1 _ _
   | exact LeO.none _
   | refine LeO.ite ?_ ?_
   | refine LeO.bind ?_ (fun _ => ?_)
def impl_MakeRatio.T8 : Bool × List (List Nat × List Nat) := (true, [([], []), ([], []), ([0, 1], [0, 1]), ([], []), ([], []), ([3, 4], [3, 4]), ([2, 5], [2, 5]), ([], []), ([7, 6, 0, 1, 2, 3, 4, 5, 6, 7], [6, 7])])
def impl_MakeRatio.B8 : List Nat := [0, 0, 3, 0, 0, 24, 63, 0, 255]
theorem impl_MakeRatio.tab8 : rtab .any (opsOf Try.f108 8) = impl_MakeRatio.T8 := by kernel_rfl
theorem impl_MakeRatio.bits8 : waitsOk impl_MakeRatio.T8.2 impl_MakeRatio.B8 = true := by kernel_rfl
set_option maxHeartbeats 8000000 in
set_option maxRecDepth 100000 in
theorem impl_MakeRatio.calls (k : Nat) (a0 : Int) (a1 : Int) (r1 : Int) (r2 : Int) (r3 : Int) (w : World) (h : impl_MakeRatio.f k a0 a1 = some (r1, r2, r3)) :
  Calls Try.prog 108 #[.int .i64 a0, .int .i64 a1] w fun e w' => e = .returned (.tuple #[.agg #[.int .i64 r1, .int .i64 r2], .int .i64 r3]) ∧ Below w.heap.size w w' := by
 have hu71 := Try.underlying71
 have HB := A_ (Below.refl w.heap.size w)
 have H : ((impl_within.f a0 (-1000000000000000000) 1000000000000000000).bind fun t279 => (if t279 = true then ((impl_within.f a1 (-1000000000000000000) 1000000000000000000).bind fun t280 => (impl_MakeRatio.j0 k a0 a1 (!t280))) else (impl_MakeRatio.j0 k a0 a1 true))) = some (r1, r2, r3) := h
 clear h
 have HC3 := A_ H
 clear H
 go_enter Try.func108, Try.ntmps108
 go_upto_region 1 with (first | ((with_reducible refine gate_dst (N := 4) rfl ?_); refine box_event ?hg (N := 4) ?hd (cs := #[.int .i64 0, .int .i64 0]) (t := 71) ?hr ?_; (case hd => rfl); (case hg => rfl); (case hr => first | (go_simp; done) | (go_simp; rfl)); intro gb278 hg w4 hbox hb; have _ := A_ (below_step z4_2_ hb); have _ := A_ (hbox); have _ := A_ ((by rw [hg]; exact (below_size z4_2_) : w.heap.size ≤ gb278)); have _ := A_ ((by rw [hg]; exact (below_size z4_2_) : w.heap.size ≤ gb278)); clear HB; rename_i HB BK278 GW278 GE278; clear hb hbox hg))
 (try simp only [Act.put, sA_, sB_, sC_])
 go_cut [15] (fun v15 wc => ∃ (kq : Nat) (x15_2 : Bool), v15 = .bool x15_2 ∧ Aside0 (impl_MakeRatio.j0 kq a0 a1 x15_2 = some (r1, r2, r3)) ∧ Aside0 (kq ≤ k) ∧ Aside0 (wc.heap[gb278]? = some (.cells #[.int .i64 0, .int .i64 0] 71 (0, 0))) ∧ Aside0 (Below w.heap.size w wc))
 case first =>
  have H := HC3.out
  clear HC3
  replace H := Option.bind_eq_some_iff.mp H
  obtain ⟨t279, A50, H⟩ := H
  try dsimp only at H
  have A5 := A_ A50
  clear A50
  by_cases c6 : t279 = true
  ·
   subst c6
   have H1 := H; rw [if_pos rfl] at H1
   clear H
   have H := H1
   clear H1
   replace H := Option.bind_eq_some_iff.mp H
   obtain ⟨t280, A70, H⟩ := H
   try dsimp only at H
   have A7 := A_ A70
   clear A70
   have H' := A_ H
   clear H
   go_wp2_with (first | ((with_reducible refine gate_callee (f := 62) rfl ?_); refine goesL_ (some 9) rfl rfl Try.func62 (by kernel_rfl) rfl #[.int .i64 a0, .int .i64 (-1000000000000000000), .int .i64 1000000000000000000] rfl z4_9_ ?_; (with_reducible refine (impl_within.calls a0 (-1000000000000000000) 1000000000000000000 true _ A5.out).mono ?_); rintro e w' ⟨rfl, ⟨nd, rfl⟩⟩; refine ⟨_, rfl, ?_⟩) | (go_at_call 62; (with_reducible refine (impl_within.calls a1 (-1000000000000000000) 1000000000000000000 t280 _ A7.out).mono ?_); rintro e w' ⟨rfl, ⟨nd, rfl⟩⟩))
   go_meet
   case rel => exact ⟨_, (!t280), z4_13_, H', ⟨(by first | omega | exact Nat.le_refl _)⟩, ⟨z4_5_⟩, ⟨z4_1_⟩⟩
  ·
   replace c6 := Bool.eq_false_iff.mpr c6
   subst c6
   have H1 := H; rw [if_neg (show ¬ (false = true) by decide)] at H1
   clear H
   have H := H1
   clear H1
   have H' := A_ H
   clear H
   go_wp2_with (first | ((with_reducible refine gate_callee (f := 62) rfl ?_); refine goesL_ (some 9) rfl rfl Try.func62 (by kernel_rfl) rfl #[.int .i64 a0, .int .i64 (-1000000000000000000), .int .i64 1000000000000000000] rfl z4_9_ ?_; (with_reducible refine (impl_within.calls a0 (-1000000000000000000) 1000000000000000000 false _ A5.out).mono ?_); rintro e w' ⟨rfl, ⟨nd, rfl⟩⟩; refine ⟨_, rfl, ?_⟩))
   go_meet
   case rel => exact ⟨_, (true), z4_13_, H', ⟨(by first | omega | exact Nat.le_refl _)⟩, ⟨z4_5_⟩, ⟨z4_1_⟩⟩
 case rest =>
  clear HC3
  try clear c1
  try clear p2
  try clear c6
  obtain ⟨kq, x15_2, rfl, HA, HJ2, BK278, HB⟩ := hcut
  cases kq with
  | zero => exact absurd HA.out (by simp [impl_MakeRatio.j0])
  | succ kj2 =>
   have H := HA.out
   clear HA
   simp only [impl_MakeRatio.j0] at H
   by_cases c8 : x15_2 = true
   ·
    subst c8
    have H1 := H; rw [if_pos rfl] at H1
    clear H
    have H := H1
    clear H1
    simp only [Option.some.injEq, Prod.mk.injEq] at H
    obtain ⟨rfl, rfl, rfl⟩ := H
    obtain ⟨hcz9_0, hcz9_1⟩ := bc2 BK278.out
    obtain ⟨hfz9_0, hfz9_1⟩ := bf2 BK278.out
    go_wp2
    refine bodyPost_ret (results_ct rfl _ _ gb278 71 #[.int .i64 0, .int .i64 0] (0, 0) _ rfl z4_6_ Try.underlying71 rfl (by kernel_rfl)) rfl ?_
    exact ⟨z4_8_, z4_1_⟩
   ·
    replace c8 := Bool.eq_false_iff.mpr c8
    subst c8
    have H1 := H; rw [if_neg (show ¬ (false = true) by decide)] at H1
    clear H
    have H := H1
    clear H1
    by_cases c10 : a1 = 0
    ·
     rw [if_pos c10] at H
     have c10b0 := beq_iff_eq.mpr c10
     have c10b1 := bne_eq_false_iff_eq.mpr c10
     clear c10
     simp only [Option.some.injEq, Prod.mk.injEq] at H
     obtain ⟨rfl, rfl, rfl⟩ := H
     obtain ⟨hcz11_0, hcz11_1⟩ := bc2 BK278.out
     obtain ⟨hfz11_0, hfz11_1⟩ := bf2 BK278.out
     go_wp2
     refine bodyPost_ret (results_ct rfl _ _ gb278 71 #[.int .i64 0, .int .i64 0] (0, 0) _ rfl z4_6_ Try.underlying71 rfl (by kernel_rfl)) rfl ?_
     exact ⟨z4_8_, z4_1_⟩
    ·
     rw [if_neg c10] at H
     have c10b0 : (a1 == 0) = false := beq_eq_false_iff_ne.mpr c10
     have c10b1 : (a1 != 0) = true := bne_iff_ne.mpr c10
     have HC12 := A_ H
     clear H
     go_upto_if 21 with (fail)
     go_cut [0, 1] (fun v0 v1 wc => ∃ (kq : Nat) (x0_11 : Int) (x1_11 : Int), v0 = .int .i64 x0_11 ∧ v1 = .int .i64 x1_11 ∧ Aside0 (impl_MakeRatio.j1 kq x0_11 x1_11 = some (r1, r2, r3)) ∧ Aside0 (kq ≤ kj2) ∧ Aside0 (wc.heap[gb278]? = some (.cells #[.int .i64 0, .int .i64 0] 71 (0, 0))) ∧ Aside0 (Below w.heap.size w wc))
     case first =>
      have H := HC12.out
      clear HC12
      by_cases c13 : a1 < 0
      ·
       rw [if_pos c13] at H
       have c13b0 := decide_eq_true c13
       clear c13
       (first | rw [c13b0] | (simp only [i64_w, i32_w]; rw [c13b0]) | skip)
       have H' := A_ H
       clear H
       go_wp2
       go_meet
       case rel => exact ⟨_, (wrap64 (-a0)), (wrap64 (-a1)), z4_13_, z4_13_, H', ⟨(by have := HJ2.out; first | omega | exact Nat.le_refl _)⟩, ⟨z4_5_⟩, ⟨z4_1_⟩⟩
      ·
       rw [if_neg c13] at H
       have c13b0 := decide_eq_false c13
       clear c13
       (first | rw [c13b0] | (simp only [i64_w, i32_w]; rw [c13b0]) | skip)
       have H' := A_ H
       clear H
       go_wp2
       go_meet
       case rel => exact ⟨_, (a0), (a1), z4_13_, z4_13_, H', ⟨(by have := HJ2.out; first | omega | exact Nat.le_refl _)⟩, ⟨z4_5_⟩, ⟨z4_1_⟩⟩
     case rest =>
      clear HC12
      try clear c1
      try clear p2
      try clear c6
      try clear p6
      try clear c8
      try clear c10
      try clear c10b0
      try clear c10b1
      try clear c13
      try clear c13b0
      try clear hcz11_0
      try clear hcz11_1
      try clear hcz9_0
      try clear hcz9_1
      try clear hfz11_0
      try clear hfz11_1
      try clear hfz9_0
      try clear hfz9_1
      try clear p2
      obtain ⟨kq, x0_11, x1_11, rfl, rfl, HA, HJ11, BK278, HB⟩ := hcut
      cases kq with
      | zero => exact absurd HA.out (by simp [impl_MakeRatio.j1])
      | succ kj11 =>
       have H := HA.out
       clear HA
       simp only [impl_MakeRatio.j1] at H
       obtain ⟨y281, hy281⟩ : ∃ y_ : List Int, y_ = (([x0_11, x1_11] : List Int)) := ⟨_, rfl⟩
       replace H : ((impl_common.f kj11 y281).bind fun t284 => (if t284 = 0 then (none) else ((impl_ValidRatio.f kj11 (wrap64 (Int.tdiv x0_11 t284)) (wrap64 (Int.tdiv x1_11 t284))).bind fun t286 => (if t286 = true then (some (wrap64 (Int.tdiv x0_11 t284), wrap64 (Int.tdiv x1_11 t284), 0)) else (some (0, 0, 3)))))) = some (r1, r2, r3) := by first | (rw [hy281]; with_reducible exact H) | (have H2_ := (Option.bind_some _ _).symm.trans H; rw [hy281]; with_reducible exact H2_) | (have H2_ := (Option.bind_some _ _).symm.trans H; with_reducible exact H2_) | with_reducible exact H | (rw [hy281]; exact H) | exact H
       have Ny281 := A_ hy281
       clear hy281
       replace H := Option.bind_eq_some_iff.mp H
       obtain ⟨t284, A140, H⟩ := H
       try dsimp only at H
       have A14 := A_ A140
       clear A140
       by_cases c15 : t284 = 0
       ·
        rw [if_pos c15] at H
        exact absurd H (by simp)
       ·
        rw [if_neg c15] at H
        have c15b0 : (t284 == 0) = false := beq_eq_false_iff_ne.mpr c15
        have c15b1 : (t284 != 0) = true := bne_iff_ne.mpr c15
        replace H := Option.bind_eq_some_iff.mp H
        obtain ⟨t286, A160, H⟩ := H
        try dsimp only at H
        have A16 := A_ A160
        clear A160
        have HZ_ := A_ H
        clear H
        try go_wp2_with (first | ((with_reducible refine gate_dst (N := 28) rfl ?_); refine Kd.R_lit (Kd.int .i64) _ 2 ?hg (N := 28) ?hd (xs := ([x0_11, x1_11] : List Int)) (inner := [.int .i64 x0_11, .int .i64 x1_11]) (ok := fun _ => True) (okp := fun _ => True) ?hr ?hp (fun _ hk => hk) trivial (Below.refl _ _) (Nat.le_refl _) (by simp) ?_; (case hd => rfl); (case hg => rfl); (case hr => first | (go_simp; done) | (go_simp; rfl)); (case hp => exact (Reps.one (show Kd.M (Kd.int .i64) _ _ _ x0_11 [.int .i64 x0_11] from rfl) (Reps.one (show Kd.M (Kd.int .i64) _ _ _ x1_11 [.int .i64 x1_11] from rfl) (Reps.none _ _)))); intro v282 w18 ho19 hb hg_ hnew_; clear hg_ hnew_; (first | rw [← Ny281.out] at ho19 | (simp only [Int.reduceToNat] at ho19; rw [← Ny281.out] at ho19)); have _ := A_ (Kd.R_lower ho19 (below_size z4_1_)); have _ := A_ (blk_below (g := gb278) (o := .cells #[.int .i64 0, .int .i64 0] 71 (0, 0)) z4_5_ hb); have _ := A_ (below_step z4_1_ hb); clear BK278 HB; rename_i HO283 BK278 HB; clear hb ho19; obtain ⟨Ao20, co20, eo20⟩ := Kd.R_slice HO283.out; subst eo20) | ((with_reducible refine gate_callee (f := 133) rfl ?_); refine goesL_ (some 29) rfl rfl Try.func133 (by kernel_rfl) rfl #[.slice Ao20 y281.length co20] rfl z4_9_ ?_; (with_reducible refine (impl_common.calls kj11 _ _ y281 t284 _ ?side1 ?side2 A14.out).mono ?_); (case side1 => have hx_ := (Kd.R_reads' HO283.out).2.2; exact kc_); (case side2 => exact (Kd.R_reads' HO283.out).2.1); rintro e w21 ⟨rfl, hb⟩; refine ⟨_, rfl, ?_⟩; have _ := A_ (Kd.R_below z4_14_ hb); have _ := A_ (blk_below (g := gb278) (o := .cells #[.int .i64 0, .int .i64 0] 71 (0, 0)) z4_5_ hb); have _ := A_ (below_step z4_1_ hb); clear HO283 BK278 HB; rename_i HO283 BK278 HB; (try clear hb)))
        have _ := A_ (Kd.R_drew HO283.out)
        have _ := A_ (blk_drew BK278.out)
        have _ := A_ (below_drew1 HB.out)
        clear HO283 BK278 HB
        rename_i HO283 BK278 HB
        refine start_ (n := 9) (S := fun w' => True) (ds := []) #[false, false, false, false, false, false, false, false, false] (by kernel_rfl) rfl rfl trivial (fun hHeld => ?_); refine with_tabW impl_MakeRatio.tab8 impl_MakeRatio.bits8 (fun HT_ HW_ => ?_)
        generalize w21.drew = w22 at HO283 BK278 HB hHeld ⊢
        refine pure_ (i := 0) (N := some 30) (v := ?_) (a' := ?_) #[true, false, false, false, false, false, false, false, false] rfl rfl (any_of HT_.out (by kernel_rfl)) (fun _ _ _ h => h) (Or.inl ⟨by rfl, ?_⟩) ?_ ?_
        rotate_left
        ·
         intro w'
         go_simp
         with_reducible rfl
        rotate_left
        ·
         simp only [Act.put, sA_, sB_, sC_, i64_w, i32_w]
         rfl
        refine pure_ (i := 1) (N := some 31) (v := ?_) (a' := ?_) #[true, true, false, false, false, false, false, false, false] rfl rfl (any_of HT_.out (by kernel_rfl)) (fun _ _ _ h => h) (Or.inl ⟨by rfl, ?_⟩) ?_ ?_
        rotate_left
        ·
         intro w'
         go_simp
         with_reducible rfl
        rotate_left
        ·
         simp only [Act.put, sA_, sB_, sC_, i64_w, i32_w]
         rfl
        refine pure_ (i := 2) (N := some 32) (v := ?_) (a' := ?_) #[true, true, true, false, false, false, false, false, false] rfl rfl (any_of HT_.out (by kernel_rfl)) (fun _ _ _ h => h) (Or.inl ⟨by rfl, ?_⟩) ?_ ?_
        rotate_left
        ·
         intro w'
         go_simp
         with_reducible rfl
        rotate_left
        ·
         simp only [Act.put, sA_, sB_, sC_, i64_w, i32_w]
         rfl
        refine pure_ (i := 3) (N := some 33) (v := ?_) (a' := ?_) #[true, true, true, true, false, false, false, false, false] rfl rfl (any_of HT_.out (by kernel_rfl)) (fun _ _ _ h => h) (Or.inl ⟨by rfl, ?_⟩) ?_ ?_
        rotate_left
        ·
         intro w'
         go_simp
         with_reducible rfl
        rotate_left
        ·
         simp only [Act.put, sA_, sB_, sC_, i64_w, i32_w]
         rfl
        refine pure_ (i := 4) (N := some 34) (v := ?_) (a' := ?_) #[true, true, true, true, true, false, false, false, false] rfl rfl (any_of HT_.out (by kernel_rfl)) (fun _ _ _ h => h) (Or.inl ⟨by rfl, ?_⟩) ?_ ?_
        rotate_left
        ·
         intro w'
         go_simp
         with_reducible rfl
        rotate_left
        ·
         simp only [Act.put, sA_, sB_, sC_, i64_w, i32_w]
         rfl
        refine pure_ (i := 5) (N := some 35) (v := ?_) (a' := ?_) #[true, true, true, true, true, true, false, false, false] rfl rfl (any_of HT_.out (by kernel_rfl)) (fun _ _ _ h => h) (Or.inl ⟨by rfl, ?_⟩) ?_ ?_
        rotate_left
        ·
         intro w'
         go_simp
         with_reducible rfl
        rotate_left
        ·
         simp only [Act.put, sA_, sB_, sC_, i64_w, i32_w]
         rfl
        refine pure_ (i := 6) (N := some 36) (v := ?_) (a' := ?_) #[true, true, true, true, true, true, true, false, false] rfl rfl (any_of HT_.out (by kernel_rfl)) (fun _ _ _ h => h) (Or.inl ⟨by rfl, ?_⟩) ?_ ?_
        rotate_left
        ·
         intro w'
         go_simp
         with_reducible rfl
        rotate_left
        ·
         simp only [Act.put, sA_, sB_, sC_, i64_w, i32_w]
         rfl
        refine one_ (i := 7) (N := some 7) #[true, true, true, true, true, true, true, true, false] rfl rfl (one_of HT_.out (by kernel_rfl)) (by decide) (fun K hK => ?_)
        refine box_step ?hg (N := 7) ?hd (cs := #[.int .i64 0, .int .i64 0]) (t := 71) ?hr ?_; (case hd => rfl); (case hg => rfl); (case hr => first | (go_simp; done) | (go_simp; rfl))
        intro gb285 hg w23 hbox hb
        have _ := A_ (Kd.R_below z4_14_ hb)
        have _ := A_ (blk_below (g := gb278) (o := .cells #[.int .i64 0, .int .i64 0] 71 (0, 0)) z4_5_ hb)
        have _ := A_ (below_step z4_1_ hb)
        have _ := A_ (hbox)
        have _ := A_ ((by rw [hg]; exact (below_size z4_1_) : w.heap.size ≤ gb285))
        have _ := A_ ((by rw [hg]; exact (below_size z4_1_) : w.heap.size ≤ gb285))
        have _ := A_ ((by rw [hg]; exact Nat.ne_of_lt (blk_lt (g := gb278) (o := .cells #[.int .i64 0, .int .i64 0] 71 (0, 0)) z4_5_) : gb278 ≠ gb285))
        have _ := A_ ((by rw [hg]; exact Nat.ne_of_gt (blk_lt (g := gb278) (o := .cells #[.int .i64 0, .int .i64 0] 71 (0, 0)) z4_5_) : gb285 ≠ gb278))
        clear HO283 BK278 HB
        rename_i HO283 BK278 HB BK285 GW285 GE285 NB278_285 NB285_278
        clear hb hbox hg
        refine hK.out _ _ trivial (fun hHeld => ?_)
        clear hK K
        refine norm_ (a' := ?_) ?_ ?_
        rotate_left
        ·
         show Act.put _ (some 7) _ = _
         simp only [Act.put, sA_, sB_, sC_, i64_w, i32_w]
         rfl
        refine one_ (i := 8) (N := none) #[true, true, true, true, true, true, true, true, true] rfl rfl (one_of HT_.out (by kernel_rfl)) (by decide) (fun K hK => ?_)
        have hs24 : w23.cell? ⟨gb285, 0, none⟩ = some (.int .i64 0) := (blk_cell BK285.out 0).trans rfl
        have hfs24 := blk_frozen BK285.out 0
        have hns24_0 := NB278_285.out
        have hms24_0 := NB285_278.out
        have hs25 : w23.cell? ⟨gb285, 1, none⟩ = some (.int .i64 0) := (blk_cell BK285.out 1).trans rfl
        have hfs25 := blk_frozen BK285.out 1
        have hns25_0 := NB278_285.out
        have hms25_0 := NB285_278.out
        refine skip_ (w1 := ?_) (by rfl) rfl ?_ ?_
        rotate_left
        ·
         go_simp
         rfl
        refine hK.out _ _ trivial (fun hHeld => ?_)
        clear hK K
        refine done_ (done_of HT_.out (by kernel_rfl)) ?_
        have hnb26 := NB285_278.out
        have hnc26 := NB278_285.out
        obtain ⟨hcz27_0, hcz27_1⟩ := bc2 BK285.out
        obtain ⟨hfz27_0, hfz27_1⟩ := bf2 BK285.out
        have H := HZ_.out
        clear HZ_
        by_cases c17 : t286 = true
        ·
         subst c17
         have H1 := H; rw [if_pos rfl] at H1
         clear H
         have H := H1
         clear H1
         simp only [Option.some.injEq, Prod.mk.injEq] at H
         obtain ⟨rfl, rfl, rfl⟩ := H
         try go_wp2_with (first | ((with_reducible refine gate_callee (f := 145) rfl ?_); refine goesL_ (some 38) rfl rfl Try.func145 (by kernel_rfl) rfl #[.agg #[.int .i64 (wrap64 (Int.tdiv x0_11 t284)), .int .i64 (wrap64 (Int.tdiv x1_11 t284))]] rfl z4_9_ ?_; (with_reducible refine (impl_ValidRatio.calls kj11 (wrap64 (Int.tdiv x0_11 t284)) (wrap64 (Int.tdiv x1_11 t284)) true _ A16.out).mono ?_); rintro e w28 ⟨rfl, hb⟩; refine ⟨_, rfl, ?_⟩; have _ := A_ (Kd.R_below z4_12_ hb); have _ := A_ (blk_below (g := gb278) (o := .cells #[.int .i64 0, .int .i64 0] 71 (0, 0)) z4_11_ hb); have _ := A_ (blk_below (g := gb285) (o := .cells #[.int .i64 (wrap64 (Int.tdiv x0_11 t284)), .int .i64 (wrap64 (Int.tdiv x1_11 t284))] 71 (0, 0)) (by (with_reducible repeat (first | refine blk_drewN ?_ _ | refine blk_drew ?_ | refine blk_alloc ?_ _)); refine blk_put (cs := #[.int .i64 (wrap64 (Int.tdiv x0_11 t284)), .int .i64 0]) ?_ 1 _ rfl; (with_reducible repeat (first | refine blk_drewN ?_ _ | refine blk_drew ?_ | refine blk_alloc ?_ _)); refine blk_put (cs := #[.int .i64 0, .int .i64 0]) ?_ 0 _ rfl; (with_reducible repeat (first | refine blk_drewN ?_ _ | refine blk_drew ?_ | refine blk_alloc ?_ _)); exact BK285.out) hb); have _ := A_ (below_step z4_7_ hb); clear HO283 BK278 BK285 HB; rename_i HO283 BK278 BK285 HB; (try clear hb); obtain ⟨hcz29_0, hcz29_1⟩ := bc2 BK285.out; obtain ⟨hfz29_0, hfz29_1⟩ := bf2 BK285.out; obtain ⟨hcz30_0, hcz30_1⟩ := bc2 BK278.out; obtain ⟨hfz30_0, hfz30_1⟩ := bf2 BK278.out))
         refine bodyPost_ret (results_ct rfl _ _ gb278 71 #[.int .i64 (wrap64 (Int.tdiv x0_11 t284)), .int .i64 (wrap64 (Int.tdiv x1_11 t284))] (0, 0) _ rfl (by (with_reducible repeat (first | refine blk_drewN ?_ _ | refine blk_drew ?_ | refine blk_alloc ?_ _)); refine blk_put (cs := #[.int .i64 (wrap64 (Int.tdiv x0_11 t284)), .int .i64 0]) ?_ 1 _ rfl; (with_reducible repeat (first | refine blk_drewN ?_ _ | refine blk_drew ?_ | refine blk_alloc ?_ _)); refine blk_put (cs := #[.int .i64 0, .int .i64 0]) ?_ 0 _ rfl; (with_reducible repeat (first | refine blk_drewN ?_ _ | refine blk_drew ?_ | refine blk_alloc ?_ _)); exact BK278.out) Try.underlying71 rfl (by kernel_rfl)) rfl ?_
         exact ⟨z4_8_, z4_7_⟩
        ·
         replace c17 := Bool.eq_false_iff.mpr c17
         subst c17
         have H1 := H; rw [if_neg (show ¬ (false = true) by decide)] at H1
         clear H
         have H := H1
         clear H1
         simp only [Option.some.injEq, Prod.mk.injEq] at H
         obtain ⟨rfl, rfl, rfl⟩ := H
         try go_wp2_with (first | ((with_reducible refine gate_callee (f := 145) rfl ?_); refine goesL_ (some 38) rfl rfl Try.func145 (by kernel_rfl) rfl #[.agg #[.int .i64 (wrap64 (Int.tdiv x0_11 t284)), .int .i64 (wrap64 (Int.tdiv x1_11 t284))]] rfl z4_9_ ?_; (with_reducible refine (impl_ValidRatio.calls kj11 (wrap64 (Int.tdiv x0_11 t284)) (wrap64 (Int.tdiv x1_11 t284)) false _ A16.out).mono ?_); rintro e w41 ⟨rfl, hb⟩; refine ⟨_, rfl, ?_⟩; have _ := A_ (Kd.R_below z4_12_ hb); have _ := A_ (blk_below (g := gb278) (o := .cells #[.int .i64 0, .int .i64 0] 71 (0, 0)) z4_11_ hb); have _ := A_ (blk_below (g := gb285) (o := .cells #[.int .i64 (wrap64 (Int.tdiv x0_11 t284)), .int .i64 (wrap64 (Int.tdiv x1_11 t284))] 71 (0, 0)) (by (with_reducible repeat (first | refine blk_drewN ?_ _ | refine blk_drew ?_ | refine blk_alloc ?_ _)); refine blk_put (cs := #[.int .i64 (wrap64 (Int.tdiv x0_11 t284)), .int .i64 0]) ?_ 1 _ rfl; (with_reducible repeat (first | refine blk_drewN ?_ _ | refine blk_drew ?_ | refine blk_alloc ?_ _)); refine blk_put (cs := #[.int .i64 0, .int .i64 0]) ?_ 0 _ rfl; (with_reducible repeat (first | refine blk_drewN ?_ _ | refine blk_drew ?_ | refine blk_alloc ?_ _)); exact BK285.out) hb); have _ := A_ (below_step z4_7_ hb); clear HO283 BK278 BK285 HB; rename_i HO283 BK278 BK285 HB; (try clear hb); obtain ⟨hcz42_0, hcz42_1⟩ := bc2 BK278.out; obtain ⟨hfz42_0, hfz42_1⟩ := bf2 BK278.out))
         refine bodyPost_ret (results_ct rfl _ _ gb278 71 #[.int .i64 0, .int .i64 0] (0, 0) _ rfl z4_6_ Try.underlying71 rfl (by kernel_rfl)) rfl ?_
         exact ⟨z4_8_, z4_7_⟩
/-! ### laws_eqRatio: function 53 -/
def laws_eqRatio.f (a0_0 : Int) (a0_1 : Int) (a1_0 : Int) (a1_1 : Int) : Option (Bool) := if a0_0 = a1_0 then (if a0_1 = a1_1 then (some true) else (some false)) else (some false)
set_option maxHeartbeats 8000000 in
set_option maxRecDepth 100000 in
theorem laws_eqRatio.calls (a0_0 : Int) (a0_1 : Int) (a1_0 : Int) (a1_1 : Int) (r : Bool) (w : World) (h : laws_eqRatio.f a0_0 a0_1 a1_0 a1_1 = some r) :
  Calls Try.prog 53 #[.agg #[.int .i64 a0_0, .int .i64 a0_1], .agg #[.int .i64 a1_0, .int .i64 a1_1]] w fun e w' => e = .returned (.bool r) ∧ Below w.heap.size w w' := by
 have hu71 := Try.underlying71
 have HB := A_ (Below.refl w.heap.size w)
 have H : (if a0_0 = a1_0 then (if a0_1 = a1_1 then (some true) else (some false)) else (some false)) = some r := h
 clear h
 by_cases c3 : a0_0 = a1_0
 ·
  rw [if_pos c3] at H
  have c3b0 := beq_iff_eq.mpr c3
  have c3b1 := bne_eq_false_iff_eq.mpr c3
  clear c3
  by_cases c4 : a0_1 = a1_1
  ·
   rw [if_pos c4] at H
   have c4b0 := beq_iff_eq.mpr c4
   have c4b1 := bne_eq_false_iff_eq.mpr c4
   clear c4
   obtain rfl := Option.some.inj H
   go_enter Try.func53, Try.ntmps53
   go_wp2_with (first | ((with_reducible refine gate_dst (N := 2) rfl ?_); refine box_event ?hg (N := 2) ?hd (cs := #[.int .i64 a0_0, .int .i64 a0_1]) (t := 71) ?hr ?_; (case hd => rfl); (case hg => rfl); (case hr => first | (go_simp; done) | (go_simp; rfl)); intro gb308 hg w5 hbox hb; have _ := A_ (below_step z4_2_ hb); have _ := A_ (hbox); have _ := A_ ((by rw [hg]; exact (below_size z4_2_) : w.heap.size ≤ gb308)); have _ := A_ ((by rw [hg]; exact (below_size z4_2_) : w.heap.size ≤ gb308)); clear HB; rename_i HB BK308 GW308 GE308; clear hb hbox hg) | ((with_reducible refine gate_dst (N := 3) rfl ?_); refine box_event ?hg (N := 3) ?hd (cs := #[.int .i64 a1_0, .int .i64 a1_1]) (t := 71) ?hr ?_; (case hd => rfl); (case hg => rfl); (case hr => first | (go_simp; done) | (go_simp; rfl)); intro gb309 hg w6 hbox hb; have _ := A_ (blk_below (g := gb308) (o := .cells #[.int .i64 a0_0, .int .i64 a0_1] 71 (0, 0)) z4_4_ hb); have _ := A_ (below_step z4_3_ hb); have _ := A_ (hbox); have _ := A_ ((by rw [hg]; exact (below_size z4_3_) : w.heap.size ≤ gb309)); have _ := A_ ((by rw [hg]; exact (below_size z4_3_) : w.heap.size ≤ gb309)); have _ := A_ ((by rw [hg]; exact Nat.ne_of_lt (blk_lt (g := gb308) (o := .cells #[.int .i64 a0_0, .int .i64 a0_1] 71 (0, 0)) z4_4_) : gb308 ≠ gb309)); have _ := A_ ((by rw [hg]; exact Nat.ne_of_gt (blk_lt (g := gb308) (o := .cells #[.int .i64 a0_0, .int .i64 a0_1] 71 (0, 0)) z4_4_) : gb309 ≠ gb308)); clear BK308 HB; rename_i BK308 HB BK309 GW309 GE309 NB308_309 NB309_308; clear hb hbox hg; have hnb7 := NB308_309.out; have hnc7 := NB309_308.out; obtain ⟨hcz8_0, hcz8_1⟩ := bc2 BK308.out; obtain ⟨hfz8_0, hfz8_1⟩ := bf2 BK308.out; obtain ⟨hcz9_0, hcz9_1⟩ := bc2 BK309.out; obtain ⟨hfz9_0, hfz9_1⟩ := bf2 BK309.out))
   go_ret
   exact ⟨z4_8_, z4_10_⟩
  ·
   rw [if_neg c4] at H
   have c4b0 : (a0_1 == a1_1) = false := beq_eq_false_iff_ne.mpr c4
   have c4b1 : (a0_1 != a1_1) = true := bne_iff_ne.mpr c4
   obtain rfl := Option.some.inj H
   go_enter Try.func53, Try.ntmps53
   go_wp2_with (first | ((with_reducible refine gate_dst (N := 2) rfl ?_); refine box_event ?hg (N := 2) ?hd (cs := #[.int .i64 a0_0, .int .i64 a0_1]) (t := 71) ?hr ?_; (case hd => rfl); (case hg => rfl); (case hr => first | (go_simp; done) | (go_simp; rfl)); intro gb308 hg w10 hbox hb; have _ := A_ (below_step z4_2_ hb); have _ := A_ (hbox); have _ := A_ ((by rw [hg]; exact (below_size z4_2_) : w.heap.size ≤ gb308)); have _ := A_ ((by rw [hg]; exact (below_size z4_2_) : w.heap.size ≤ gb308)); clear HB; rename_i HB BK308 GW308 GE308; clear hb hbox hg) | ((with_reducible refine gate_dst (N := 3) rfl ?_); refine box_event ?hg (N := 3) ?hd (cs := #[.int .i64 a1_0, .int .i64 a1_1]) (t := 71) ?hr ?_; (case hd => rfl); (case hg => rfl); (case hr => first | (go_simp; done) | (go_simp; rfl)); intro gb309 hg w11 hbox hb; have _ := A_ (blk_below (g := gb308) (o := .cells #[.int .i64 a0_0, .int .i64 a0_1] 71 (0, 0)) z4_4_ hb); have _ := A_ (below_step z4_3_ hb); have _ := A_ (hbox); have _ := A_ ((by rw [hg]; exact (below_size z4_3_) : w.heap.size ≤ gb309)); have _ := A_ ((by rw [hg]; exact (below_size z4_3_) : w.heap.size ≤ gb309)); have _ := A_ ((by rw [hg]; exact Nat.ne_of_lt (blk_lt (g := gb308) (o := .cells #[.int .i64 a0_0, .int .i64 a0_1] 71 (0, 0)) z4_4_) : gb308 ≠ gb309)); have _ := A_ ((by rw [hg]; exact Nat.ne_of_gt (blk_lt (g := gb308) (o := .cells #[.int .i64 a0_0, .int .i64 a0_1] 71 (0, 0)) z4_4_) : gb309 ≠ gb308)); clear BK308 HB; rename_i BK308 HB BK309 GW309 GE309 NB308_309 NB309_308; clear hb hbox hg; have hnb12 := NB308_309.out; have hnc12 := NB309_308.out; obtain ⟨hcz13_0, hcz13_1⟩ := bc2 BK308.out; obtain ⟨hfz13_0, hfz13_1⟩ := bf2 BK308.out; obtain ⟨hcz14_0, hcz14_1⟩ := bc2 BK309.out; obtain ⟨hfz14_0, hfz14_1⟩ := bf2 BK309.out))
   go_ret
   exact ⟨z4_8_, z4_10_⟩
 ·
  rw [if_neg c3] at H
  have c3b0 : (a0_0 == a1_0) = false := beq_eq_false_iff_ne.mpr c3
  have c3b1 : (a0_0 != a1_0) = true := bne_iff_ne.mpr c3
  obtain rfl := Option.some.inj H
  go_enter Try.func53, Try.ntmps53
  go_wp2_with (first | ((with_reducible refine gate_dst (N := 2) rfl ?_); refine box_event ?hg (N := 2) ?hd (cs := #[.int .i64 a0_0, .int .i64 a0_1]) (t := 71) ?hr ?_; (case hd => rfl); (case hg => rfl); (case hr => first | (go_simp; done) | (go_simp; rfl)); intro gb308 hg w15 hbox hb; have _ := A_ (below_step z4_2_ hb); have _ := A_ (hbox); have _ := A_ ((by rw [hg]; exact (below_size z4_2_) : w.heap.size ≤ gb308)); have _ := A_ ((by rw [hg]; exact (below_size z4_2_) : w.heap.size ≤ gb308)); clear HB; rename_i HB BK308 GW308 GE308; clear hb hbox hg) | ((with_reducible refine gate_dst (N := 3) rfl ?_); refine box_event ?hg (N := 3) ?hd (cs := #[.int .i64 a1_0, .int .i64 a1_1]) (t := 71) ?hr ?_; (case hd => rfl); (case hg => rfl); (case hr => first | (go_simp; done) | (go_simp; rfl)); intro gb309 hg w16 hbox hb; have _ := A_ (blk_below (g := gb308) (o := .cells #[.int .i64 a0_0, .int .i64 a0_1] 71 (0, 0)) z4_4_ hb); have _ := A_ (below_step z4_3_ hb); have _ := A_ (hbox); have _ := A_ ((by rw [hg]; exact (below_size z4_3_) : w.heap.size ≤ gb309)); have _ := A_ ((by rw [hg]; exact (below_size z4_3_) : w.heap.size ≤ gb309)); have _ := A_ ((by rw [hg]; exact Nat.ne_of_lt (blk_lt (g := gb308) (o := .cells #[.int .i64 a0_0, .int .i64 a0_1] 71 (0, 0)) z4_4_) : gb308 ≠ gb309)); have _ := A_ ((by rw [hg]; exact Nat.ne_of_gt (blk_lt (g := gb308) (o := .cells #[.int .i64 a0_0, .int .i64 a0_1] 71 (0, 0)) z4_4_) : gb309 ≠ gb308)); clear BK308 HB; rename_i BK308 HB BK309 GW309 GE309 NB308_309 NB309_308; clear hb hbox hg; have hnb17 := NB308_309.out; have hnc17 := NB309_308.out; obtain ⟨hcz18_0, hcz18_1⟩ := bc2 BK308.out; obtain ⟨hfz18_0, hfz18_1⟩ := bf2 BK308.out; obtain ⟨hcz19_0, hcz19_1⟩ := bc2 BK309.out; obtain ⟨hfz19_0, hfz19_1⟩ := bf2 BK309.out))
  go_ret
  exact ⟨z4_8_, z4_10_⟩
end Go.Proofs.Ytpfnohdnaocpdaa.PT

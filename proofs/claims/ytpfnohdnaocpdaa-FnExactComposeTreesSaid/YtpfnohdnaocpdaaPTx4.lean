import Derived.Test.YtpfnohdnaocpdaaPTx0
import Derived.Test.YtpfnohdnaocpdaaPTx1
import Derived.Test.YtpfnohdnaocpdaaPTx3
namespace Go.Proofs.Ytpfnohdnaocpdaa.PT
open Go.RowKit Go.Proofs.YtpfnohdnaocpdaaW.PrintWords Go.Proofs.YtpfnohdnaocpdaaW.PrintLast Go.Proofs.YtpfnohdnaocpdaaW.PrintMore Go.Proofs.YtpfnohdnaocpdaaRP
attribute [local go_sem] max2_int min2_int max_two min_two max_three min_three max_four min_four Go.Proofs.YtpfnohdnaocpdaaRP.max_eight Go.Proofs.YtpfnohdnaocpdaaRP.tmod_len   -- for this text's walks alone
set_option linter.unusedVariables false
set_option linter.unusedSimpArgs false
attribute [local go_sem high] eqA98
theorem z4_1_ {P : Prop} (h : P := by repeat (first | (with_reducible first | exact HK.out | apply Kept.alloc | apply Kept.drewN | apply Kept.drew | refine Kept.setCell ?_ (.inr GW174.out) _) | exact HK.out)) : P := h
theorem z4_2_ {P : Prop} (h : P := by repeat (first | (with_reducible first | exact HB.out | apply below_alloc | apply pw_below_drewN | apply below_drew1 | refine below_set ?_ GE174.out) | exact HB.out)) : P := h
theorem z4_3_ {P : Prop} (h : P := by repeat (first | (with_reducible first | exact HB.out | apply below_alloc | apply pw_below_drewN | apply below_drew1) | exact HB.out)) : P := h
theorem z4_4_ {P : Prop} (h : P := by (with_reducible repeat (first | refine blk_drewN ?_ _ | refine blk_drew ?_ | refine blk_alloc ?_ _)); exact BK174.out) : P := h
theorem z4_5_ {P : Prop} (h : P := by (with_reducible repeat (first | apply Kd.R_alloc | apply Kd.R_drewN | apply Kd.R_drew)); exact HO2.out) : P := h
theorem z4_6_ {P : Prop} (h : P := by first | exact HK.out.1 | exact (show Kept w _ (fun k_ => P2_ k_) from by repeat (first | (with_reducible first | exact HK.out | apply Kept.alloc | apply Kept.drewN | apply Kept.drew) | exact HK.out)).1) : P := h
theorem z4_7_ {P : Prop} (h : P := by repeat (first | (with_reducible first | exact HK.out | apply Kept.alloc | apply Kept.drewN | apply Kept.drew) | exact HK.out)) : P := h
theorem z4_8_ {P : Prop} (h : P := by first | exact HK.out.1 | exact (show Kept w _ (fun k_ => P2_ k_) from by repeat (first | (with_reducible first | exact HK.out | apply Kept.alloc | apply Kept.drewN | apply Kept.drew | refine Kept.setCell ?_ (.inr GW174.out) _) | exact HK.out)).1) : P := h
theorem z4_9_ {P : Prop} (h : P := by (with_reducible repeat (first | apply Kd.R_alloc | apply Kd.R_drewN | apply Kd.R_drew)); exact HO_2.out) : P := h
theorem z4_10_ {P : Prop} (h : P := by first | rfl | (simp [errW_none, errW_some] <;> rfl) | (simp [*, errW_none, errW_some] <;> rfl)) : P := h
/-! ### spec_l06Join: function 67 -/
def spec_l06Join.l0 : Nat → List (S98) → Int → Int → Int → Option ((List (S98)) × Int × Int)
 | 0, _, _, _, _ => none
 | k + 1, x2, x12, x175000, x175001 => if x12 < (x2.length : Int) then (if 0 ≤ x12 then (if (((rd_T98 x2 x12).f0) == x175000 && (((rd_T98 x2 x12).f1) == x175001)) = true then (some (x2, IntKind.i16.wrap (x12), 0)) else (spec_l06Join.l0 k x2 (wrap64 (x12 + 1)) x175000 x175001)) else (none)) else (if x2.length < 35184372088832 then (some ((x2 ++ [(⟨x175000, x175001⟩ : S98)]), IntKind.i16.wrap ((x2.length : Int)), 0)) else (none))
def spec_l06Join.f (k : Nat) (l0 : List (S34)) (l1 : List (S34)) (l2 : List (S98)) (a3_0 : Int) (a3_1 : Int) : Option ((List (S98)) × Int × Int) := (spec_l06Loud.f k l0 l1 a3_0 a3_1).bind fun bt175 => (if bt175.2.2 = true then (spec_l06Join.l0 k l2 0 bt175.1 bt175.2.1) else (some (l2, (-1), 4)))
theorem spec_l06Join.mono_l : ∀ k, (∀ y0 y1 y2 y3, LeO (spec_l06Join.l0 k y0 y1 y2 y3) (spec_l06Join.l0 (k + 1) y0 y1 y2 y3))
 | 0 => fun _ _ _ _ r h => by simp [spec_l06Join.l0] at h
 | k + 1 => by
  have ih0 := spec_l06Join.mono_l k
  ·
   intro y0 y1 y2 y3
   unfold spec_l06Join.l0
   repeat' first
   | (with_reducible exact ih0 _ _ _ _)
   | (with_reducible exact spec_l06Loud.mono _ _ _ _ _)
   | (with_reducible exact LeO.refl _)
   | (with_reducible exact LeO.none _)
   | (with_reducible refine LeO.ite ?_ ?_)
   | (with_reducible refine LeO.bind ?_ (fun _ => ?_))
   | exact ih0 _ _ _ _
   | exact LeO.none _
   | refine LeO.ite ?_ ?_
   | refine LeO.bind ?_ (fun _ => ?_)
theorem spec_l06Join.mono : ∀ a0 a1 a2 a3 a4 k, LeO (spec_l06Join.f k a0 a1 a2 a3 a4) (spec_l06Join.f (k + 1) a0 a1 a2 a3 a4) := by
 intro a0 a1 a2 a3 a4 k
 have ih0 := spec_l06Join.mono_l k
 unfold spec_l06Join.f
 repeat' first
   | (with_reducible exact ih0 _ _ _ _)
   | (with_reducible exact spec_l06Loud.mono _ _ _ _ _)
   | (with_reducible exact LeO.refl _)
   | (with_reducible exact LeO.none _)
   | (with_reducible refine LeO.ite ?_ ?_)
   | (with_reducible refine LeO.bind ?_ (fun _ => ?_))
   | exact ih0 _ _ _ _
   | exact LeO.none _
   | refine LeO.ite ?_ ?_
   | refine LeO.bind ?_ (fun _ => ?_)
set_option maxHeartbeats 8000000 in
set_option maxRecDepth 100000 in
theorem spec_l06Join.calls (k : Nat) (A0 : Option Addr) (c0 : Nat) (l0 : List (S34)) (A1 : Option Addr) (c1 : Nat) (l1 : List (S34)) (P2_ : Nat → Prop) (u9000_ : Value) (l2 : List (S98)) (a3_0 : Int) (a3_1 : Int) (r1 : List (S98)) (r2 : Int) (r3 : Int) (w0 w : World) (hB : Below w0.heap.size w0 w) (hr0 : ∀ W_, Kept w W_ (fun k_ => P2_ k_) → Kd.C k34 W_ A0 l0.length l0) (hc0 : l0.length ≤ c0) (hr1 : ∀ W_, Kept w W_ (fun k_ => P2_ k_) → Kd.C k34 W_ A1 l1.length l1) (hc1 : l1.length ≤ c1) (ho2 : Kd.R k98 98 w w0.heap.size P2_ u9000_ l2) (h : spec_l06Join.f k l0 l1 l2 a3_0 a3_1 = some (r1, r2, r3)) :
  Calls Try.prog 67 #[.pointer A0, .pointer A1, u9000_, .agg #[.int .i16 a3_0, .int .i16 a3_1]] w fun e w' => ∃ v0_ : Value, e = .returned (.tuple #[v0_, .int .i16 r2, .int .i64 r3]) ∧ Kd.R k98 98 w' w0.heap.size (fun k_ => (P2_ k_ ∨ w.heap.size ≤ k_)) v0_ r1 ∧ Below w0.heap.size w0 w' ∧ Kept w w' (fun k_ => P2_ k_) := by
 have hu98 := Try.underlying98
 have HR0 := A_ hr0
 have HC0 := A_ hc0
 clear hr0 hc0
 have HR1 := A_ hr1
 have HC1 := A_ hc1
 clear hr1 hc1
 have HO2 := A_ (show Kd.R k98 98 w w0.heap.size (fun k_ => (P2_ k_ ∨ w.heap.size ≤ k_)) u9000_ l2 from Kd.R_mono ho2 (fun k_ hk => (.inl hk)))
 have HK := A_ (Kept.refl w (fun k_ => P2_ k_))
 have HW0 := A_ hB.size
 have HB := A_ hB
 clear hB
 have H : ((spec_l06Loud.f k l0 l1 a3_0 a3_1).bind fun bt175 => (if bt175.2.2 = true then (spec_l06Join.l0 k l2 0 bt175.1 bt175.2.1) else (some (l2, (-1), 4)))) = some (r1, r2, r3) := h
 clear h
 replace H := Option.bind_eq_some_iff.mp H
 obtain ⟨⟨t175, t176, t177⟩, A50, H⟩ := H
 try dsimp only at H
 have A5 := A_ A50
 clear A50
 by_cases c6 : t177 = true
 ·
  subst c6
  have H1 := H; rw [if_pos rfl] at H1
  clear H
  have H := H1
  clear H1
  have H' := A_ H
  clear H
  go_enter Try.func67, Try.ntmps67
  go_wp2_with (first | ((with_reducible refine gate_dst (N := 7) rfl ?_); refine box_event ?hg (N := 7) ?hd (cs := #[.int .i16 a3_0, .int .i16 a3_1]) (t := 98) ?hr ?_; (case hd => rfl); (case hg => rfl); (case hr => first | (go_simp; done) | (go_simp; rfl)); intro gb174 hg w7 hbox hb; have _ := A_ (Kd.R_below (Kd.R_elderB z4_5_ gb174 (Nat.le_of_eq hg.symm)) hb); have _ := A_ (Kept.below (S := (fun k_ => P2_ k_)) z4_7_ hb); have _ := A_ (below_step z4_3_ hb); have _ := A_ (hbox); have _ := A_ ((by rw [hg]; exact z4_6_ : w.heap.size ≤ gb174)); have _ := A_ ((by rw [hg]; exact (below_size z4_3_) : w0.heap.size ≤ gb174)); clear HO2 HK HB; rename_i HO2 HK HB BK174 GW174 GE174; clear hb hbox hg; obtain ⟨hcz8_0, hcz8_1⟩ := bc2 BK174.out; obtain ⟨hfz8_0, hfz8_1⟩ := bf2 BK174.out) | (go_at_call 117; (with_reducible refine (spec_l06Loud.calls k _ (l0).length l0 _ (l1).length l1 a3_0 a3_1 t175 t176 true _ ?side1 ?side2 ?side3 ?side4 A5.out).mono ?_); (case side1 => exact Kd.C_kept_now HR0.out z4_1_); (case side2 => exact Nat.le_refl _); (case side3 => exact Kd.C_kept_now HR1.out z4_1_); (case side4 => exact Nat.le_refl _); rintro e w9 ⟨rfl, hb⟩; have _ := A_ (Kd.R_below z4_5_ hb); have _ := A_ (blk_below (g := gb174) (o := .cells #[.int .i16 a3_0, .int .i16 a3_1] 98 (0, 0)) z4_4_ hb); have _ := A_ (Kept.below (S := (fun k_ => P2_ k_)) z4_1_ hb); have _ := A_ (below_step z4_2_ hb); clear HO2 BK174 HK HB; rename_i HO2 BK174 HK HB; (try clear hb); obtain ⟨hcz10_0, hcz10_1⟩ := bc2 BK174.out; obtain ⟨hfz10_0, hfz10_1⟩ := bf2 BK174.out))
  repeat (go_quiet (first | ((with_reducible refine gate_dst (N := 7) rfl ?_); refine box_event ?hg (N := 7) ?hd (cs := #[.int .i16 a3_0, .int .i16 a3_1]) (t := 98) ?hr ?_; (case hd => rfl); (case hg => rfl); (case hr => first | (go_simp; done) | (go_simp; rfl)); intro gb174 hg w7 hbox hb; have _ := A_ (Kd.R_below (Kd.R_elderB z4_5_ gb174 (Nat.le_of_eq hg.symm)) hb); have _ := A_ (Kept.below (S := (fun k_ => P2_ k_)) z4_7_ hb); have _ := A_ (below_step z4_3_ hb); have _ := A_ (hbox); have _ := A_ ((by rw [hg]; exact z4_6_ : w.heap.size ≤ gb174)); have _ := A_ ((by rw [hg]; exact (below_size z4_3_) : w0.heap.size ≤ gb174)); clear HO2 HK HB; rename_i HO2 HK HB BK174 GW174 GE174; clear hb hbox hg; obtain ⟨hcz8_0, hcz8_1⟩ := bc2 BK174.out; obtain ⟨hfz8_0, hfz8_1⟩ := bf2 BK174.out) | (go_at_call 117; (with_reducible refine (spec_l06Loud.calls k _ (l0).length l0 _ (l1).length l1 a3_0 a3_1 t175 t176 true _ ?side1 ?side2 ?side3 ?side4 A5.out).mono ?_); (case side1 => exact Kd.C_kept_now HR0.out z4_1_); (case side2 => exact Nat.le_refl _); (case side3 => exact Kd.C_kept_now HR1.out z4_1_); (case side4 => exact Nat.le_refl _); rintro e w9 ⟨rfl, hb⟩; have _ := A_ (Kd.R_below z4_5_ hb); have _ := A_ (blk_below (g := gb174) (o := .cells #[.int .i16 a3_0, .int .i16 a3_1] 98 (0, 0)) z4_4_ hb); have _ := A_ (Kept.below (S := (fun k_ => P2_ k_)) z4_1_ hb); have _ := A_ (below_step z4_2_ hb); clear HO2 BK174 HK HB; rename_i HO2 BK174 HK HB; (try clear hb); obtain ⟨hcz10_0, hcz10_1⟩ := bc2 BK174.out; obtain ⟨hfz10_0, hfz10_1⟩ := bf2 BK174.out)); try go_wp2_with (first | ((with_reducible refine gate_dst (N := 7) rfl ?_); refine box_event ?hg (N := 7) ?hd (cs := #[.int .i16 a3_0, .int .i16 a3_1]) (t := 98) ?hr ?_; (case hd => rfl); (case hg => rfl); (case hr => first | (go_simp; done) | (go_simp; rfl)); intro gb174 hg w7 hbox hb; have _ := A_ (Kd.R_below (Kd.R_elderB z4_5_ gb174 (Nat.le_of_eq hg.symm)) hb); have _ := A_ (Kept.below (S := (fun k_ => P2_ k_)) z4_7_ hb); have _ := A_ (below_step z4_3_ hb); have _ := A_ (hbox); have _ := A_ ((by rw [hg]; exact z4_6_ : w.heap.size ≤ gb174)); have _ := A_ ((by rw [hg]; exact (below_size z4_3_) : w0.heap.size ≤ gb174)); clear HO2 HK HB; rename_i HO2 HK HB BK174 GW174 GE174; clear hb hbox hg; obtain ⟨hcz8_0, hcz8_1⟩ := bc2 BK174.out; obtain ⟨hfz8_0, hfz8_1⟩ := bf2 BK174.out) | (go_at_call 117; (with_reducible refine (spec_l06Loud.calls k _ (l0).length l0 _ (l1).length l1 a3_0 a3_1 t175 t176 true _ ?side1 ?side2 ?side3 ?side4 A5.out).mono ?_); (case side1 => exact Kd.C_kept_now HR0.out z4_1_); (case side2 => exact Nat.le_refl _); (case side3 => exact Kd.C_kept_now HR1.out z4_1_); (case side4 => exact Nat.le_refl _); rintro e w9 ⟨rfl, hb⟩; have _ := A_ (Kd.R_below z4_5_ hb); have _ := A_ (blk_below (g := gb174) (o := .cells #[.int .i16 a3_0, .int .i16 a3_1] 98 (0, 0)) z4_4_ hb); have _ := A_ (Kept.below (S := (fun k_ => P2_ k_)) z4_1_ hb); have _ := A_ (below_step z4_2_ hb); clear HO2 BK174 HK HB; rename_i HO2 BK174 HK HB; (try clear hb); obtain ⟨hcz10_0, hcz10_1⟩ := bc2 BK174.out; obtain ⟨hfz10_0, hfz10_1⟩ := bf2 BK174.out)))
  go_loopg [12] k (fun kq v12 w' => ∃ (x12_1 : Int), v12 = .int .i64 x12_1 ∧ Aside0 (spec_l06Join.l0 kq l2 x12_1 t175 t176 = some (r1, r2, r3)) ∧ Aside0 (kq ≤ k) ∧ Aside0 (Kd.R k98 98 w' w0.heap.size (fun k_ => (P2_ k_ ∨ w.heap.size ≤ k_) ∧ k_ ≠ gb174) u9000_ l2) ∧ Aside0 (w'.heap[gb174]? = some (.cells #[.int .i16 t175, .int .i16 t176] 98 (0, 0))) ∧ Aside0 (Kept w w' (fun k_ => P2_ k_)) ∧ Aside0 (Below w0.heap.size w0 w'))
  case atStart => exact ⟨(0), (by first | rfl | (simp; done) | (simp [*]; done) | (simp [isE_]; done)), H', ⟨Nat.le_refl _⟩, ⟨(by (with_reducible repeat (first | apply Kd.R_alloc | apply Kd.R_drewN | apply Kd.R_drew)); exact Kd.R_mono (Kd.R_far (p := ⟨gb174, 1, none⟩) (Kd.R_far (p := ⟨gb174, 0, none⟩) (Kd.R_mono HO2.out (fun k_ hk => (⟨hk, hk.2⟩ : _ ∧ k_ ≠ gb174))) (fun _ hk => hk.2) (.int .i16 t175)) (fun _ hk => hk.2) (.int .i16 t176)) (fun _ hk => ⟨hk.1.1, hk.1.2⟩))⟩, ⟨(by (with_reducible repeat (first | refine blk_drewN ?_ _ | refine blk_drew ?_ | refine blk_alloc ?_ _)); refine blk_put (cs := #[.int .i16 t175, .int .i16 a3_1]) ?_ 1 _ rfl; (with_reducible repeat (first | refine blk_drewN ?_ _ | refine blk_drew ?_ | refine blk_alloc ?_ _)); refine blk_put (cs := #[.int .i16 a3_0, .int .i16 a3_1]) ?_ 0 _ rfl; (with_reducible repeat (first | refine blk_drewN ?_ _ | refine blk_drew ?_ | refine blk_alloc ?_ _)); exact BK174.out)⟩, ⟨z4_1_⟩, ⟨z4_2_⟩⟩
  case round =>
   clear H'
   try clear c1
   try clear p2
   try clear c6
   try clear hcz10_0
   try clear hcz10_1
   try clear hcz8_0
   try clear hcz8_1
   try clear hfz10_0
   try clear hfz10_1
   try clear hfz8_0
   try clear hfz8_1
   obtain ⟨x12_1, rfl, HA, HK1, HO_2, BK174, HK, HB⟩ := hrel
   cases gk with
   | zero => exact absurd HA.out (by simp [spec_l06Join.l0])
   | succ k1 =>
    have H := HA.out
    clear HA
    simp only [spec_l06Join.l0] at H
    by_cases c11 : x12_1 < (l2.length : Int)
    ·
     rw [if_pos c11] at H
     have c11b0 := decide_eq_true c11
     clear c11
     by_cases c12 : 0 ≤ x12_1
     ·
      rw [if_pos c12] at H
      have c12b0 := decide_eq_true c12
      clear c12
      by_cases c13 : (((rd_T98 l2 x12_1).f0) == t175 && (((rd_T98 l2 x12_1).f1) == t176)) = true
      ·
       rw [if_pos c13] at H
       have c13b0 : (((rd_T98 l2 x12_1).f0) == t175 && (((rd_T98 l2 x12_1).f1) == t176)) = true := c13
       (try (have c13b1 : decide (((rd_T98 l2 x12_1).f0) = t175 && (((rd_T98 l2 x12_1).f1) == t176)) = true := by simpa using c13))
       (try (have c13b2 : (((rd_T98 l2 x12_1).f0) == t175 && (((rd_T98 l2 x12_1).f1) == t176)) = true := by simpa using c13))
       clear c13
       simp only [Option.some.injEq, Prod.mk.injEq] at H
       obtain ⟨rfl, rfl, rfl⟩ := H
       obtain ⟨Ao14, co14, eo14⟩ := Kd.R_slice HO_2.out
       subst eo14
       have p178 : 0 ≤ (x12_1 : Int) := of_decide_eq_true (by assumption)
       have q178 : x12_1 < (l2.length : Int) := of_decide_eq_true (by assumption)
       obtain ⟨ad178, e178, hx178_0, hx178_1⟩ := at_T98 (Kd.R_reads' HO_2.out).2.2 x12_1 p178 q178
       cases e178
       replace p178 := eq_true p178
       replace q178 := eq_true q178
       obtain ⟨hcz15_0, hcz15_1⟩ := bc2 BK174.out
       obtain ⟨hfz15_0, hfz15_1⟩ := bf2 BK174.out
       go_wp2
       repeat (go_quiet (fail); try go_wp2)
       go_ret3
       exact ⟨_, z4_10_, (by (with_reducible repeat (first | apply Kd.R_alloc | apply Kd.R_drewN | apply Kd.R_drew)); exact Kd.R_mono HO_2.out (fun _ hk => hk.1)), z4_2_, z4_1_⟩
      ·
       rw [if_neg c13] at H
       have c13b0 : (((rd_T98 l2 x12_1).f0) == t175 && (((rd_T98 l2 x12_1).f1) == t176)) = false := by simpa using c13
       (try (have c13b1 : decide (((rd_T98 l2 x12_1).f0) = t175 && (((rd_T98 l2 x12_1).f1) == t176)) = false := by simpa using c13))
       (try (have c13b2 : (((rd_T98 l2 x12_1).f0) == t175 && (((rd_T98 l2 x12_1).f1) == t176)) = false := by simpa using c13))
       (try (have c13b3 : ¬ (((rd_T98 l2 x12_1).f0) = t175 && (((rd_T98 l2 x12_1).f1) == t176)) := by simpa using c13))
       clear c13
       have H' := A_ H
       clear H
       obtain ⟨Ao16, co16, eo16⟩ := Kd.R_slice HO_2.out
       subst eo16
       have p178 : 0 ≤ (x12_1 : Int) := of_decide_eq_true (by assumption)
       have q178 : x12_1 < (l2.length : Int) := of_decide_eq_true (by assumption)
       obtain ⟨ad178, e178, hx178_0, hx178_1⟩ := at_T98 (Kd.R_reads' HO_2.out).2.2 x12_1 p178 q178
       cases e178
       replace p178 := eq_true p178
       replace q178 := eq_true q178
       obtain ⟨hcz17_0, hcz17_1⟩ := bc2 BK174.out
       obtain ⟨hfz17_0, hfz17_1⟩ := bf2 BK174.out
       go_wp2
       repeat (go_quiet (fail); try go_wp2)
       go_roundg k1
       case measure => have := HK1.out; omega
       case rel => exact ⟨(wrap64 (x12_1 + 1)), (by first | rfl | (simp; done) | (simp [*]; done) | (simp [isE_]; done)), H', ⟨(by have := HK1.out; omega)⟩, ⟨z4_9_⟩, ⟨z4_4_⟩, ⟨z4_1_⟩, ⟨z4_2_⟩⟩
     ·
      rw [if_neg c12] at H
      exact absurd H (by simp)
    ·
     rw [if_neg c11] at H
     have c11b0 := decide_eq_false c11
     clear c11
     by_cases c18 : l2.length < 35184372088832
     ·
      rw [if_pos c18] at H
      have LMc18 := A_ c18
      clear c18
      obtain ⟨y179, hy179⟩ : ∃ y_ : List (S98), y_ = (l2 ++ [(⟨t175, t176⟩ : S98)]) := ⟨_, rfl⟩
      replace H : (some (y179, IntKind.i16.wrap ((l2.length : Int)), 0)) = some (r1, r2, r3) := by first | (rw [hy179]; with_reducible exact H) | (have H2_ := (Option.bind_some _ _).symm.trans H; rw [hy179]; with_reducible exact H2_) | (have H2_ := (Option.bind_some _ _).symm.trans H; with_reducible exact H2_) | with_reducible exact H | (rw [hy179]; exact H) | exact H
      have Ny179 := A_ hy179
      clear hy179
      simp only [Option.some.injEq, Prod.mk.injEq] at H
      obtain ⟨rfl, rfl, rfl⟩ := H
      obtain ⟨Ao19, co19, eo19⟩ := Kd.R_slice HO_2.out
      subst eo19
      obtain ⟨hcz20_0, hcz20_1⟩ := bc2 BK174.out
      obtain ⟨hfz20_0, hfz20_1⟩ := bf2 BK174.out
      go_wp2_with (first | ((with_reducible refine gate_builtin (b := .append) (xs := #[.tmp 38, .tmp 40]) rfl ?_); at_builtin; refine Kd.R_append k98 (w0 := w0) w0.heap.size rfl (.tmp 38) (.tmp 40) 94 98 (.agg #[(.int .i16 0), (.int .i16 0)]) 4 rfl Try.underlying94 info98 rfl (by decide) (by omega) (.slice Ao19 l2.length co19) l2 (⟨t175, t176⟩ : S98) [.int .i16 t175, .int .i16 t176] (fun k_ => (P2_ k_ ∨ w.heap.size ≤ k_) ∧ k_ ≠ gb174) (fun _ => False) rfl rfl ?aP (fun _ hk => hk.elim) ?aF ?aO ?aB ?aS ?aL ?_; (case aP => exact k98_mkM _ _ _ (⟨t175, t176⟩ : S98)); (case aB => exact z4_2_); (case aF => exact (fun k_ hk => ⟨(.inr (Nat.le_trans z4_8_ hk)), Kd.freshB (g := gb174) (o := .cells #[.int .i16 t175, .int .i16 t176] 98 (0, 0)) z4_4_ k_ hk⟩)); (case aO => exact z4_9_); (case aS => exact (below_size z4_2_)); (case aL => have := LMc18.out; omega); intro v180 w21 ho hb hg hat; rw [← Ny179.out] at ho; have _ := A_ (blk_grown (g := gb174) (o := .cells #[.int .i16 t175, .int .i16 t176] 98 (0, 0)) z4_4_ hg (Kd.R_away HO_2.out (fun _ hk => hk.2))); have _ := A_ (hb); have _ := A_ (Kept.of_grown (S := (fun k_ => P2_ k_)) hg z4_1_ (fun k_ e_ => (HO_2.out.1 k_ e_).1)); have _ := A_ (ho); clear BK174 HB HK HO_2; rename_i BK174 HB HK HO181; clear ho hb hg hat))
      repeat (go_quiet (first | ((with_reducible refine gate_builtin (b := .append) (xs := #[.tmp 38, .tmp 40]) rfl ?_); at_builtin; refine Kd.R_append k98 (w0 := w0) w0.heap.size rfl (.tmp 38) (.tmp 40) 94 98 (.agg #[(.int .i16 0), (.int .i16 0)]) 4 rfl Try.underlying94 info98 rfl (by decide) (by omega) (.slice Ao19 l2.length co19) l2 (⟨t175, t176⟩ : S98) [.int .i16 t175, .int .i16 t176] (fun k_ => (P2_ k_ ∨ w.heap.size ≤ k_) ∧ k_ ≠ gb174) (fun _ => False) rfl rfl ?aP (fun _ hk => hk.elim) ?aF ?aO ?aB ?aS ?aL ?_; (case aP => exact k98_mkM _ _ _ (⟨t175, t176⟩ : S98)); (case aB => exact z4_2_); (case aF => exact (fun k_ hk => ⟨(.inr (Nat.le_trans z4_8_ hk)), Kd.freshB (g := gb174) (o := .cells #[.int .i16 t175, .int .i16 t176] 98 (0, 0)) z4_4_ k_ hk⟩)); (case aO => exact z4_9_); (case aS => exact (below_size z4_2_)); (case aL => have := LMc18.out; omega); intro v180 w21 ho hb hg hat; rw [← Ny179.out] at ho; have _ := A_ (blk_grown (g := gb174) (o := .cells #[.int .i16 t175, .int .i16 t176] 98 (0, 0)) z4_4_ hg (Kd.R_away HO_2.out (fun _ hk => hk.2))); have _ := A_ (hb); have _ := A_ (Kept.of_grown (S := (fun k_ => P2_ k_)) hg z4_1_ (fun k_ e_ => (HO_2.out.1 k_ e_).1)); have _ := A_ (ho); clear BK174 HB HK HO_2; rename_i BK174 HB HK HO181; clear ho hb hg hat)); try go_wp2_with (first | ((with_reducible refine gate_builtin (b := .append) (xs := #[.tmp 38, .tmp 40]) rfl ?_); at_builtin; refine Kd.R_append k98 (w0 := w0) w0.heap.size rfl (.tmp 38) (.tmp 40) 94 98 (.agg #[(.int .i16 0), (.int .i16 0)]) 4 rfl Try.underlying94 info98 rfl (by decide) (by omega) (.slice Ao19 l2.length co19) l2 (⟨t175, t176⟩ : S98) [.int .i16 t175, .int .i16 t176] (fun k_ => (P2_ k_ ∨ w.heap.size ≤ k_) ∧ k_ ≠ gb174) (fun _ => False) rfl rfl ?aP (fun _ hk => hk.elim) ?aF ?aO ?aB ?aS ?aL ?_; (case aP => exact k98_mkM _ _ _ (⟨t175, t176⟩ : S98)); (case aB => exact z4_2_); (case aF => exact (fun k_ hk => ⟨(.inr (Nat.le_trans z4_8_ hk)), Kd.freshB (g := gb174) (o := .cells #[.int .i16 t175, .int .i16 t176] 98 (0, 0)) z4_4_ k_ hk⟩)); (case aO => exact z4_9_); (case aS => exact (below_size z4_2_)); (case aL => have := LMc18.out; omega); intro v180 w21 ho hb hg hat; rw [← Ny179.out] at ho; have _ := A_ (blk_grown (g := gb174) (o := .cells #[.int .i16 t175, .int .i16 t176] 98 (0, 0)) z4_4_ hg (Kd.R_away HO_2.out (fun _ hk => hk.2))); have _ := A_ (hb); have _ := A_ (Kept.of_grown (S := (fun k_ => P2_ k_)) hg z4_1_ (fun k_ e_ => (HO_2.out.1 k_ e_).1)); have _ := A_ (ho); clear BK174 HB HK HO_2; rename_i BK174 HB HK HO181; clear ho hb hg hat)))
      go_ret3
      exact ⟨_, z4_10_, (by (with_reducible repeat (first | apply Kd.R_alloc | apply Kd.R_drewN | apply Kd.R_drew)); exact Kd.R_mono HO181.out (fun _ hk => hk.1)), z4_2_, z4_1_⟩
     ·
      rw [if_neg c18] at H
      exact absurd H (by simp)
 ·
  replace c6 := Bool.eq_false_iff.mpr c6
  subst c6
  have H1 := H; rw [if_neg (show ¬ (false = true) by decide)] at H1
  clear H
  have H := H1
  clear H1
  simp only [Option.some.injEq, Prod.mk.injEq] at H
  obtain ⟨rfl, rfl, rfl⟩ := H
  go_enter Try.func67, Try.ntmps67
  go_wp2_with (first | ((with_reducible refine gate_dst (N := 7) rfl ?_); refine box_event ?hg (N := 7) ?hd (cs := #[.int .i16 a3_0, .int .i16 a3_1]) (t := 98) ?hr ?_; (case hd => rfl); (case hg => rfl); (case hr => first | (go_simp; done) | (go_simp; rfl)); intro gb174 hg w22 hbox hb; have _ := A_ (Kd.R_below (Kd.R_elderB z4_5_ gb174 (Nat.le_of_eq hg.symm)) hb); have _ := A_ (Kept.below (S := (fun k_ => P2_ k_)) z4_7_ hb); have _ := A_ (below_step z4_3_ hb); have _ := A_ (hbox); have _ := A_ ((by rw [hg]; exact z4_6_ : w.heap.size ≤ gb174)); have _ := A_ ((by rw [hg]; exact (below_size z4_3_) : w0.heap.size ≤ gb174)); clear HO2 HK HB; rename_i HO2 HK HB BK174 GW174 GE174; clear hb hbox hg; obtain ⟨hcz23_0, hcz23_1⟩ := bc2 BK174.out; obtain ⟨hfz23_0, hfz23_1⟩ := bf2 BK174.out) | (go_at_call 117; (with_reducible refine (spec_l06Loud.calls k _ (l0).length l0 _ (l1).length l1 a3_0 a3_1 t175 t176 false _ ?side1 ?side2 ?side3 ?side4 A5.out).mono ?_); (case side1 => exact Kd.C_kept_now HR0.out z4_1_); (case side2 => exact Nat.le_refl _); (case side3 => exact Kd.C_kept_now HR1.out z4_1_); (case side4 => exact Nat.le_refl _); rintro e w24 ⟨rfl, hb⟩; have _ := A_ (Kd.R_below z4_5_ hb); have _ := A_ (blk_below (g := gb174) (o := .cells #[.int .i16 a3_0, .int .i16 a3_1] 98 (0, 0)) z4_4_ hb); have _ := A_ (Kept.below (S := (fun k_ => P2_ k_)) z4_1_ hb); have _ := A_ (below_step z4_2_ hb); clear HO2 BK174 HK HB; rename_i HO2 BK174 HK HB; (try clear hb); obtain ⟨hcz25_0, hcz25_1⟩ := bc2 BK174.out; obtain ⟨hfz25_0, hfz25_1⟩ := bf2 BK174.out))
  repeat (go_quiet (first | ((with_reducible refine gate_dst (N := 7) rfl ?_); refine box_event ?hg (N := 7) ?hd (cs := #[.int .i16 a3_0, .int .i16 a3_1]) (t := 98) ?hr ?_; (case hd => rfl); (case hg => rfl); (case hr => first | (go_simp; done) | (go_simp; rfl)); intro gb174 hg w22 hbox hb; have _ := A_ (Kd.R_below (Kd.R_elderB z4_5_ gb174 (Nat.le_of_eq hg.symm)) hb); have _ := A_ (Kept.below (S := (fun k_ => P2_ k_)) z4_7_ hb); have _ := A_ (below_step z4_3_ hb); have _ := A_ (hbox); have _ := A_ ((by rw [hg]; exact z4_6_ : w.heap.size ≤ gb174)); have _ := A_ ((by rw [hg]; exact (below_size z4_3_) : w0.heap.size ≤ gb174)); clear HO2 HK HB; rename_i HO2 HK HB BK174 GW174 GE174; clear hb hbox hg; obtain ⟨hcz23_0, hcz23_1⟩ := bc2 BK174.out; obtain ⟨hfz23_0, hfz23_1⟩ := bf2 BK174.out) | (go_at_call 117; (with_reducible refine (spec_l06Loud.calls k _ (l0).length l0 _ (l1).length l1 a3_0 a3_1 t175 t176 false _ ?side1 ?side2 ?side3 ?side4 A5.out).mono ?_); (case side1 => exact Kd.C_kept_now HR0.out z4_1_); (case side2 => exact Nat.le_refl _); (case side3 => exact Kd.C_kept_now HR1.out z4_1_); (case side4 => exact Nat.le_refl _); rintro e w24 ⟨rfl, hb⟩; have _ := A_ (Kd.R_below z4_5_ hb); have _ := A_ (blk_below (g := gb174) (o := .cells #[.int .i16 a3_0, .int .i16 a3_1] 98 (0, 0)) z4_4_ hb); have _ := A_ (Kept.below (S := (fun k_ => P2_ k_)) z4_1_ hb); have _ := A_ (below_step z4_2_ hb); clear HO2 BK174 HK HB; rename_i HO2 BK174 HK HB; (try clear hb); obtain ⟨hcz25_0, hcz25_1⟩ := bc2 BK174.out; obtain ⟨hfz25_0, hfz25_1⟩ := bf2 BK174.out)); try go_wp2_with (first | ((with_reducible refine gate_dst (N := 7) rfl ?_); refine box_event ?hg (N := 7) ?hd (cs := #[.int .i16 a3_0, .int .i16 a3_1]) (t := 98) ?hr ?_; (case hd => rfl); (case hg => rfl); (case hr => first | (go_simp; done) | (go_simp; rfl)); intro gb174 hg w22 hbox hb; have _ := A_ (Kd.R_below (Kd.R_elderB z4_5_ gb174 (Nat.le_of_eq hg.symm)) hb); have _ := A_ (Kept.below (S := (fun k_ => P2_ k_)) z4_7_ hb); have _ := A_ (below_step z4_3_ hb); have _ := A_ (hbox); have _ := A_ ((by rw [hg]; exact z4_6_ : w.heap.size ≤ gb174)); have _ := A_ ((by rw [hg]; exact (below_size z4_3_) : w0.heap.size ≤ gb174)); clear HO2 HK HB; rename_i HO2 HK HB BK174 GW174 GE174; clear hb hbox hg; obtain ⟨hcz23_0, hcz23_1⟩ := bc2 BK174.out; obtain ⟨hfz23_0, hfz23_1⟩ := bf2 BK174.out) | (go_at_call 117; (with_reducible refine (spec_l06Loud.calls k _ (l0).length l0 _ (l1).length l1 a3_0 a3_1 t175 t176 false _ ?side1 ?side2 ?side3 ?side4 A5.out).mono ?_); (case side1 => exact Kd.C_kept_now HR0.out z4_1_); (case side2 => exact Nat.le_refl _); (case side3 => exact Kd.C_kept_now HR1.out z4_1_); (case side4 => exact Nat.le_refl _); rintro e w24 ⟨rfl, hb⟩; have _ := A_ (Kd.R_below z4_5_ hb); have _ := A_ (blk_below (g := gb174) (o := .cells #[.int .i16 a3_0, .int .i16 a3_1] 98 (0, 0)) z4_4_ hb); have _ := A_ (Kept.below (S := (fun k_ => P2_ k_)) z4_1_ hb); have _ := A_ (below_step z4_2_ hb); clear HO2 BK174 HK HB; rename_i HO2 BK174 HK HB; (try clear hb); obtain ⟨hcz25_0, hcz25_1⟩ := bc2 BK174.out; obtain ⟨hfz25_0, hfz25_1⟩ := bf2 BK174.out)))
  go_ret3
  exact ⟨_, z4_10_, (by (with_reducible repeat (first | apply Kd.R_alloc | apply Kd.R_drewN | apply Kd.R_drew)); exact Kd.R_mono (Kd.R_far (p := ⟨gb174, 1, none⟩) (Kd.R_far (p := ⟨gb174, 0, none⟩) (Kd.R_mono HO2.out (fun k_ hk => (⟨hk, hk.2⟩ : _ ∧ k_ ≠ gb174))) (fun _ hk => hk.2) (.int .i16 t175)) (fun _ hk => hk.2) (.int .i16 t176)) (fun _ hk => hk.1.1)), z4_2_, z4_1_⟩
end Go.Proofs.Ytpfnohdnaocpdaa.PT

import Derived.Test.YtpfnohdnaocpdaaPTx0
import Derived.Test.YtpfnohdnaocpdaaPTx1
import Derived.Test.YtpfnohdnaocpdaaPTx2
namespace Go.Proofs.Ytpfnohdnaocpdaa.PT
open Go.RowKit Go.Proofs.YtpfnohdnaocpdaaW.PrintWords Go.Proofs.YtpfnohdnaocpdaaW.PrintLast Go.Proofs.YtpfnohdnaocpdaaW.PrintMore Go.Proofs.YtpfnohdnaocpdaaRP
attribute [local go_sem] max2_int min2_int max_two min_two max_three min_three max_four min_four Go.Proofs.YtpfnohdnaocpdaaRP.max_eight Go.Proofs.YtpfnohdnaocpdaaRP.tmod_len   -- for this text's walks alone
set_option linter.unusedVariables false
set_option linter.unusedSimpArgs false
attribute [local go_sem high] eqA60
theorem z6_1_ {P : Prop} (h : P := by repeat (first | (with_reducible first | exact HB.out | apply below_alloc | apply pw_below_drewN | apply below_drew1 | refine below_set ?_ GE218.out) | exact HB.out)) : P := h
theorem z6_2_ {P : Prop} (h : P := by (with_reducible repeat (first | refine blk_drewN ?_ _ | refine blk_drew ?_ | refine blk_alloc ?_ _)); exact BK218.out) : P := h
theorem z6_3_ {P : Prop} (h : P := by repeat (first | (with_reducible first | exact HK.out | apply Kept.alloc | apply Kept.drewN | apply Kept.drew | refine Kept.setCell ?_ (.inr GW218.out) _) | exact HK.out)) : P := h
theorem z6_4_ {P : Prop} (h : P := by repeat (first | (with_reducible first | exact HB.out | apply below_alloc | apply pw_below_drewN | apply below_drew1) | exact HB.out)) : P := h
theorem z6_5_ {P : Prop} (h : P := by first | exact HK.out.1 | exact (show Kept w _ (fun k_ => P0_ k_) from by repeat (first | (with_reducible first | exact HK.out | apply Kept.alloc | apply Kept.drewN | apply Kept.drew | refine Kept.setCell ?_ (.inr GW218.out) _) | exact HK.out)).1) : P := h
theorem z6_6_ {P : Prop} (h : P := by first | exact HK.out.1 | exact (show Kept w _ (fun k_ => P0_ k_) from by repeat (first | (with_reducible first | exact HK.out | apply Kept.alloc | apply Kept.drewN | apply Kept.drew) | exact HK.out)).1) : P := h
theorem z6_7_ {P : Prop} (h : P := by (with_reducible repeat (first | apply Kd.R_alloc | apply Kd.R_drewN | apply Kd.R_drew)); exact HO_0.out) : P := h
theorem z6_8_ {P : Prop} (h : P := by (with_reducible repeat (first | apply Kd.R_alloc | apply Kd.R_drewN | apply Kd.R_drew)); exact HO0.out) : P := h
theorem z6_9_ {P : Prop} (h : P := by first | rfl | (simp [errW_none, errW_some] <;> rfl) | (simp [*, errW_none, errW_some] <;> rfl)) : P := h
theorem z6_10_ {P : Prop} (h : P := by (with_reducible repeat (first | apply Kd.R_alloc | apply Kd.R_drewN | apply Kd.R_drew)); exact Kd.R_mono HO_0.out (fun _ hk => hk.1)) : P := h
theorem z6_11_ {P : Prop} (h : P := by repeat (first | (with_reducible first | exact HK.out | apply Kept.alloc | apply Kept.drewN | apply Kept.drew) | exact HK.out)) : P := h
/-! ### spec_l06State: function 84 -/
def spec_l06State.l0 : Nat → List (S60) → Int → Int → Int → Int → Int → Option ((List (S60)) × Int)
 | 0, _, _, _, _, _, _ => none
 | k + 1, x0, x6, x219000, x219001, x219002, x219003 => if x6 < (x0.length : Int) then (if 0 ≤ x6 then (if (((rd_T60 x0 x6).f0) == x219000 && (((rd_T60 x0 x6).f1) == x219001 && (((rd_T60 x0 x6).f2) == x219002 && (((rd_T60 x0 x6).f3) == x219003)))) = true then (some (x0, IntKind.i16.wrap (x6))) else (spec_l06State.l0 k x0 (wrap64 (x6 + 1)) x219000 x219001 x219002 x219003)) else (none)) else (if (x0.length : Int) = 60 then (some (x0, (-1))) else ((spec_l03Fits.f [(⟨x219000, x219001, x219002, x219003⟩ : S60)] 288230376151711744).bind fun t221 => (if t221 = true then (if x0.length < 4398046511104 then (some ((x0 ++ [(⟨x219000, x219001, x219002, x219003⟩ : S60)]), IntKind.i16.wrap ((x0.length : Int)))) else (none)) else (some (x0, (-1))))))
def spec_l06State.f (k : Nat) (l0 : List (S60)) (a1_0 : Int) (a1_1 : Int) (a1_2 : Int) (a1_3 : Int) : Option ((List (S60)) × Int) := spec_l06State.l0 k l0 0 a1_0 a1_1 a1_2 a1_3
theorem spec_l06State.mono_l : ∀ k, (∀ y0 y1 y2 y3 y4 y5, LeO (spec_l06State.l0 k y0 y1 y2 y3 y4 y5) (spec_l06State.l0 (k + 1) y0 y1 y2 y3 y4 y5))
 | 0 => fun _ _ _ _ _ _ r h => by simp [spec_l06State.l0] at h
 | k + 1 => by
  have ih0 := spec_l06State.mono_l k
  ·
   intro y0 y1 y2 y3 y4 y5
   unfold spec_l06State.l0
   repeat' first
   | (with_reducible exact ih0 _ _ _ _ _ _)
   | (with_reducible exact LeO.refl _)
   | (with_reducible exact LeO.none _)
   | (with_reducible refine LeO.ite ?_ ?_)
   | (with_reducible refine LeO.bind ?_ (fun _ => ?_))
   | exact ih0 _ _ _ _ _ _
   | exact LeO.none _
   | refine LeO.ite ?_ ?_
   | refine LeO.bind ?_ (fun _ => ?_)
theorem spec_l06State.mono : ∀ a0 a1 a2 a3 a4 k, LeO (spec_l06State.f k a0 a1 a2 a3 a4) (spec_l06State.f (k + 1) a0 a1 a2 a3 a4) := by
 intro a0 a1 a2 a3 a4 k
 have ih0 := spec_l06State.mono_l k
 unfold spec_l06State.f
 repeat' first
   | (with_reducible exact ih0 _ _ _ _ _ _)
   | (with_reducible exact LeO.refl _)
   | (with_reducible exact LeO.none _)
   | (with_reducible refine LeO.ite ?_ ?_)
   | (with_reducible refine LeO.bind ?_ (fun _ => ?_))
   | exact ih0 _ _ _ _ _ _
   | exact LeO.none _
   | refine LeO.ite ?_ ?_
   | refine LeO.bind ?_ (fun _ => ?_)
set_option maxHeartbeats 8000000 in
set_option maxRecDepth 100000 in
theorem spec_l06State.calls (k : Nat) (P0_ : Nat → Prop) (u9000_ : Value) (l0 : List (S60)) (a1_0 : Int) (a1_1 : Int) (a1_2 : Int) (a1_3 : Int) (r1 : List (S60)) (r2 : Int) (w0 w : World) (hB : Below w0.heap.size w0 w) (ho0 : Kd.R k60 60 w w0.heap.size P0_ u9000_ l0) (h : spec_l06State.f k l0 a1_0 a1_1 a1_2 a1_3 = some (r1, r2)) :
  Calls Try.prog 84 #[u9000_, .agg #[.int .i64 a1_0, .int .i64 a1_1, .int .i64 a1_2, .int .i64 a1_3]] w fun e w' => ∃ v0_ : Value, e = .returned (.tuple #[v0_, .int .i16 r2]) ∧ Kd.R k60 60 w' w0.heap.size (fun k_ => (P0_ k_ ∨ w.heap.size ≤ k_)) v0_ r1 ∧ Below w0.heap.size w0 w' ∧ Kept w w' (fun k_ => P0_ k_) := by
 have hu60 := Try.underlying60
 have HO0 := A_ (show Kd.R k60 60 w w0.heap.size (fun k_ => (P0_ k_ ∨ w.heap.size ≤ k_)) u9000_ l0 from Kd.R_mono ho0 (fun k_ hk => (.inl hk)))
 have HK := A_ (Kept.refl w (fun k_ => P0_ k_))
 have HW0 := A_ hB.size
 have HB := A_ hB
 clear hB
 have H : (spec_l06State.l0 k l0 0 a1_0 a1_1 a1_2 a1_3) = some (r1, r2) := h
 clear h
 have H' := A_ H
 clear H
 go_enter Try.func84, Try.ntmps84
 go_wp2_with (first | ((with_reducible refine gate_dst (N := 3) rfl ?_); refine box_event ?hg (N := 3) ?hd (cs := #[.int .i64 a1_0, .int .i64 a1_1, .int .i64 a1_2, .int .i64 a1_3]) (t := 60) ?hr ?_; (case hd => rfl); (case hg => rfl); (case hr => first | (go_simp; done) | (go_simp; rfl)); intro gb218 hg w3 hbox hb; have _ := A_ (Kd.R_below (Kd.R_elderB z6_8_ gb218 (Nat.le_of_eq hg.symm)) hb); have _ := A_ (Kept.below (S := (fun k_ => P0_ k_)) z6_11_ hb); have _ := A_ (below_step z6_4_ hb); have _ := A_ (hbox); have _ := A_ ((by rw [hg]; exact z6_6_ : w.heap.size ≤ gb218)); have _ := A_ ((by rw [hg]; exact (below_size z6_4_) : w0.heap.size ≤ gb218)); clear HO0 HK HB; rename_i HO0 HK HB BK218 GW218 GE218; clear hb hbox hg))
 repeat (go_quiet (first | ((with_reducible refine gate_dst (N := 3) rfl ?_); refine box_event ?hg (N := 3) ?hd (cs := #[.int .i64 a1_0, .int .i64 a1_1, .int .i64 a1_2, .int .i64 a1_3]) (t := 60) ?hr ?_; (case hd => rfl); (case hg => rfl); (case hr => first | (go_simp; done) | (go_simp; rfl)); intro gb218 hg w3 hbox hb; have _ := A_ (Kd.R_below (Kd.R_elderB z6_8_ gb218 (Nat.le_of_eq hg.symm)) hb); have _ := A_ (Kept.below (S := (fun k_ => P0_ k_)) z6_11_ hb); have _ := A_ (below_step z6_4_ hb); have _ := A_ (hbox); have _ := A_ ((by rw [hg]; exact z6_6_ : w.heap.size ≤ gb218)); have _ := A_ ((by rw [hg]; exact (below_size z6_4_) : w0.heap.size ≤ gb218)); clear HO0 HK HB; rename_i HO0 HK HB BK218 GW218 GE218; clear hb hbox hg)); try go_wp2_with (first | ((with_reducible refine gate_dst (N := 3) rfl ?_); refine box_event ?hg (N := 3) ?hd (cs := #[.int .i64 a1_0, .int .i64 a1_1, .int .i64 a1_2, .int .i64 a1_3]) (t := 60) ?hr ?_; (case hd => rfl); (case hg => rfl); (case hr => first | (go_simp; done) | (go_simp; rfl)); intro gb218 hg w3 hbox hb; have _ := A_ (Kd.R_below (Kd.R_elderB z6_8_ gb218 (Nat.le_of_eq hg.symm)) hb); have _ := A_ (Kept.below (S := (fun k_ => P0_ k_)) z6_11_ hb); have _ := A_ (below_step z6_4_ hb); have _ := A_ (hbox); have _ := A_ ((by rw [hg]; exact z6_6_ : w.heap.size ≤ gb218)); have _ := A_ ((by rw [hg]; exact (below_size z6_4_) : w0.heap.size ≤ gb218)); clear HO0 HK HB; rename_i HO0 HK HB BK218 GW218 GE218; clear hb hbox hg)))
 go_loopg [6] k (fun kq v6 w' => ∃ (x6_1 : Int), v6 = .int .i64 x6_1 ∧ Aside0 (spec_l06State.l0 kq l0 x6_1 a1_0 a1_1 a1_2 a1_3 = some (r1, r2)) ∧ Aside0 (kq ≤ k) ∧ Aside0 (Kd.R k60 60 w' w0.heap.size (fun k_ => (P0_ k_ ∨ w.heap.size ≤ k_) ∧ k_ ≠ gb218) u9000_ l0) ∧ Aside0 (w'.heap[gb218]? = some (.cells #[.int .i64 a1_0, .int .i64 a1_1, .int .i64 a1_2, .int .i64 a1_3] 60 (0, 0))) ∧ Aside0 (Kept w w' (fun k_ => P0_ k_)) ∧ Aside0 (Below w0.heap.size w0 w'))
 case atStart => exact ⟨(0), (by first | rfl | (simp; done) | (simp [*]; done) | (simp [isE_]; done)), H', ⟨Nat.le_refl _⟩, ⟨z6_8_⟩, ⟨z6_2_⟩, ⟨z6_3_⟩, ⟨z6_1_⟩⟩
 case round =>
  clear H'
  try clear p2
  obtain ⟨x6_1, rfl, HA, HK1, HO_0, BK218, HK, HB⟩ := hrel
  cases gk with
  | zero => exact absurd HA.out (by simp [spec_l06State.l0])
  | succ k1 =>
   have H := HA.out
   clear HA
   simp only [spec_l06State.l0] at H
   by_cases c4 : x6_1 < (l0.length : Int)
   ·
    rw [if_pos c4] at H
    have c4b0 := decide_eq_true c4
    clear c4
    by_cases c5 : 0 ≤ x6_1
    ·
     rw [if_pos c5] at H
     have c5b0 := decide_eq_true c5
     clear c5
     by_cases c6 : (((rd_T60 l0 x6_1).f0) == a1_0 && (((rd_T60 l0 x6_1).f1) == a1_1 && (((rd_T60 l0 x6_1).f2) == a1_2 && (((rd_T60 l0 x6_1).f3) == a1_3)))) = true
     ·
      rw [if_pos c6] at H
      have c6b0 : (((rd_T60 l0 x6_1).f0) == a1_0 && (((rd_T60 l0 x6_1).f1) == a1_1 && (((rd_T60 l0 x6_1).f2) == a1_2 && (((rd_T60 l0 x6_1).f3) == a1_3)))) = true := c6
      (try (have c6b1 : decide (((rd_T60 l0 x6_1).f0) = a1_0 && (((rd_T60 l0 x6_1).f1) == a1_1 && (((rd_T60 l0 x6_1).f2) == a1_2 && (((rd_T60 l0 x6_1).f3) == a1_3)))) = true := by simpa using c6))
      (try (have c6b2 : (((rd_T60 l0 x6_1).f0) == a1_0 && (((rd_T60 l0 x6_1).f1) == a1_1 && (((rd_T60 l0 x6_1).f2) == a1_2 && (((rd_T60 l0 x6_1).f3) == a1_3)))) = true := by simpa using c6))
      clear c6
      simp only [Option.some.injEq, Prod.mk.injEq] at H
      obtain ⟨rfl, rfl⟩ := H
      obtain ⟨Ao7, co7, eo7⟩ := Kd.R_slice HO_0.out
      subst eo7
      have p219 : 0 ≤ (x6_1 : Int) := of_decide_eq_true (by assumption)
      have q219 : x6_1 < (l0.length : Int) := of_decide_eq_true (by assumption)
      obtain ⟨ad219, e219, hx219_0, hx219_1, hx219_2, hx219_3⟩ := at_T60 (Kd.R_reads' HO_0.out).2.2 x6_1 p219 q219
      cases e219
      replace p219 := eq_true p219
      replace q219 := eq_true q219
      obtain ⟨hcz8_0, hcz8_1, hcz8_2, hcz8_3⟩ := bc4 BK218.out
      obtain ⟨hfz8_0, hfz8_1, hfz8_2, hfz8_3⟩ := bf4 BK218.out
      go_wp2
      repeat (go_quiet (fail); try go_wp2)
      go_ret2
      exact ⟨_, z6_9_, z6_10_, z6_1_, z6_3_⟩
     ·
      rw [if_neg c6] at H
      have c6b0 : (((rd_T60 l0 x6_1).f0) == a1_0 && (((rd_T60 l0 x6_1).f1) == a1_1 && (((rd_T60 l0 x6_1).f2) == a1_2 && (((rd_T60 l0 x6_1).f3) == a1_3)))) = false := by simpa using c6
      (try (have c6b1 : decide (((rd_T60 l0 x6_1).f0) = a1_0 && (((rd_T60 l0 x6_1).f1) == a1_1 && (((rd_T60 l0 x6_1).f2) == a1_2 && (((rd_T60 l0 x6_1).f3) == a1_3)))) = false := by simpa using c6))
      (try (have c6b2 : (((rd_T60 l0 x6_1).f0) == a1_0 && (((rd_T60 l0 x6_1).f1) == a1_1 && (((rd_T60 l0 x6_1).f2) == a1_2 && (((rd_T60 l0 x6_1).f3) == a1_3)))) = false := by simpa using c6))
      (try (have c6b3 : ¬ (((rd_T60 l0 x6_1).f0) = a1_0 && (((rd_T60 l0 x6_1).f1) == a1_1 && (((rd_T60 l0 x6_1).f2) == a1_2 && (((rd_T60 l0 x6_1).f3) == a1_3)))) := by simpa using c6))
      clear c6
      have H' := A_ H
      clear H
      obtain ⟨Ao9, co9, eo9⟩ := Kd.R_slice HO_0.out
      subst eo9
      have p219 : 0 ≤ (x6_1 : Int) := of_decide_eq_true (by assumption)
      have q219 : x6_1 < (l0.length : Int) := of_decide_eq_true (by assumption)
      obtain ⟨ad219, e219, hx219_0, hx219_1, hx219_2, hx219_3⟩ := at_T60 (Kd.R_reads' HO_0.out).2.2 x6_1 p219 q219
      cases e219
      replace p219 := eq_true p219
      replace q219 := eq_true q219
      obtain ⟨hcz10_0, hcz10_1, hcz10_2, hcz10_3⟩ := bc4 BK218.out
      obtain ⟨hfz10_0, hfz10_1, hfz10_2, hfz10_3⟩ := bf4 BK218.out
      go_wp2
      repeat (go_quiet (fail); try go_wp2)
      go_roundg k1
      case measure => have := HK1.out; omega
      case rel => exact ⟨(wrap64 (x6_1 + 1)), (by first | rfl | (simp; done) | (simp [*]; done) | (simp [isE_]; done)), H', ⟨(by have := HK1.out; omega)⟩, ⟨z6_7_⟩, ⟨z6_2_⟩, ⟨z6_3_⟩, ⟨z6_1_⟩⟩
    ·
     rw [if_neg c5] at H
     exact absurd H (by simp)
   ·
    rw [if_neg c4] at H
    have c4b0 := decide_eq_false c4
    clear c4
    by_cases c11 : (l0.length : Int) = 60
    ·
     rw [if_pos c11] at H
     have c11b0 := beq_iff_eq.mpr c11
     have c11b1 := bne_eq_false_iff_eq.mpr c11
     clear c11
     simp only [Option.some.injEq, Prod.mk.injEq] at H
     obtain ⟨rfl, rfl⟩ := H
     obtain ⟨Ao12, co12, eo12⟩ := Kd.R_slice HO_0.out
     subst eo12
     go_wp2
     repeat (go_quiet (fail); try go_wp2)
     go_ret2
     exact ⟨_, z6_9_, z6_10_, z6_1_, z6_3_⟩
    ·
     rw [if_neg c11] at H
     have c11b0 : ((l0.length : Int) == 60) = false := beq_eq_false_iff_ne.mpr c11
     have c11b1 : ((l0.length : Int) != 60) = true := bne_iff_ne.mpr c11
     replace H := Option.bind_eq_some_iff.mp H
     obtain ⟨t221, A130, H⟩ := H
     try dsimp only at H
     have A13 := A_ A130
     clear A130
     by_cases c14 : t221 = true
     ·
      subst c14
      have H1 := H; rw [if_pos rfl] at H1
      clear H
      have H := H1
      clear H1
      by_cases c15 : l0.length < 4398046511104
      ·
       rw [if_pos c15] at H
       have LMc15 := A_ c15
       clear c15
       obtain ⟨y222, hy222⟩ : ∃ y_ : List (S60), y_ = (l0 ++ [(⟨a1_0, a1_1, a1_2, a1_3⟩ : S60)]) := ⟨_, rfl⟩
       replace H : (some (y222, IntKind.i16.wrap ((l0.length : Int)))) = some (r1, r2) := by first | (rw [hy222]; with_reducible exact H) | (have H2_ := (Option.bind_some _ _).symm.trans H; rw [hy222]; with_reducible exact H2_) | (have H2_ := (Option.bind_some _ _).symm.trans H; with_reducible exact H2_) | with_reducible exact H | (rw [hy222]; exact H) | exact H
       have Ny222 := A_ hy222
       clear hy222
       simp only [Option.some.injEq, Prod.mk.injEq] at H
       obtain ⟨rfl, rfl⟩ := H
       obtain ⟨Ao16, co16, eo16⟩ := Kd.R_slice HO_0.out
       subst eo16
       go_wp2_with (first | (go_at_call 132; (with_reducible refine (spec_l03Fits.calls _ ([(⟨a1_0, a1_1, a1_2, a1_3⟩ : S60)]).length [(⟨a1_0, a1_1, a1_2, a1_3⟩ : S60)] 288230376151711744 true _ ?side1 ?side2 A13.out).mono ?_); (case side1 => refine Kd.C_block k60 (g := gb218) (cs := #[.int .i64 a1_0, .int .i64 a1_1, .int .i64 a1_2, .int .i64 a1_3]) (T := 60) z6_2_ (show Kd.K k60 _ (⟨a1_0, a1_1, a1_2, a1_3⟩ : S60) [.int .i64 a1_0, .int .i64 a1_1, .int .i64 a1_2, .int .i64 a1_3] from k60_mk _ _) (by decide)); (case side2 => exact Nat.le_refl _); rintro e w' ⟨rfl, ⟨nd, rfl⟩⟩; (try first | exact ⟨rfl, _, World.drewN_drewN _ _ _⟩ | exact ⟨rfl, _, Eq.trans (World.drewN_drewN _ _ _) (congrArg (World.drewN _) (Nat.add_assoc _ _ _))⟩); obtain ⟨hcz17_0, hcz17_1, hcz17_2, hcz17_3⟩ := bc4 BK218.out; obtain ⟨hfz17_0, hfz17_1, hfz17_2, hfz17_3⟩ := bf4 BK218.out) | ((with_reducible refine gate_builtin (b := .append) (xs := #[.tmp 30, .tmp 32]) rfl ?_); at_builtin; refine Kd.R_append k60 (w0 := w0) w0.heap.size rfl (.tmp 30) (.tmp 32) 121 60 (.agg #[(.int .i64 0), (.int .i64 0), (.int .i64 0), (.int .i64 0)]) 32 rfl Try.underlying121 info60 rfl (by decide) (by omega) (.slice Ao16 l0.length co16) l0 (⟨a1_0, a1_1, a1_2, a1_3⟩ : S60) [.int .i64 a1_0, .int .i64 a1_1, .int .i64 a1_2, .int .i64 a1_3] (fun k_ => (P0_ k_ ∨ w.heap.size ≤ k_) ∧ k_ ≠ gb218) (fun _ => False) rfl rfl ?aP (fun _ hk => hk.elim) ?aF ?aO ?aB ?aS ?aL ?_; (case aP => exact k60_mkM _ _ _ (⟨a1_0, a1_1, a1_2, a1_3⟩ : S60)); (case aB => exact z6_1_); (case aF => exact (fun k_ hk => ⟨(.inr (Nat.le_trans z6_5_ hk)), Kd.freshB (g := gb218) (o := .cells #[.int .i64 a1_0, .int .i64 a1_1, .int .i64 a1_2, .int .i64 a1_3] 60 (0, 0)) z6_2_ k_ hk⟩)); (case aO => exact z6_7_); (case aS => exact (below_size z6_1_)); (case aL => have := LMc15.out; omega); intro v223 w18 ho hb hg hat; rw [← Ny222.out] at ho; have _ := A_ (blk_grown (g := gb218) (o := .cells #[.int .i64 a1_0, .int .i64 a1_1, .int .i64 a1_2, .int .i64 a1_3] 60 (0, 0)) z6_2_ hg (Kd.R_away HO_0.out (fun _ hk => hk.2))); have _ := A_ (hb); have _ := A_ (Kept.of_grown (S := (fun k_ => P0_ k_)) hg z6_3_ (fun k_ e_ => (HO_0.out.1 k_ e_).1)); have _ := A_ (ho); clear BK218 HB HK HO_0; rename_i BK218 HB HK HO224; clear ho hb hg hat))
       repeat (go_quiet (first | (go_at_call 132; (with_reducible refine (spec_l03Fits.calls _ ([(⟨a1_0, a1_1, a1_2, a1_3⟩ : S60)]).length [(⟨a1_0, a1_1, a1_2, a1_3⟩ : S60)] 288230376151711744 true _ ?side1 ?side2 A13.out).mono ?_); (case side1 => refine Kd.C_block k60 (g := gb218) (cs := #[.int .i64 a1_0, .int .i64 a1_1, .int .i64 a1_2, .int .i64 a1_3]) (T := 60) z6_2_ (show Kd.K k60 _ (⟨a1_0, a1_1, a1_2, a1_3⟩ : S60) [.int .i64 a1_0, .int .i64 a1_1, .int .i64 a1_2, .int .i64 a1_3] from k60_mk _ _) (by decide)); (case side2 => exact Nat.le_refl _); rintro e w' ⟨rfl, ⟨nd, rfl⟩⟩; (try first | exact ⟨rfl, _, World.drewN_drewN _ _ _⟩ | exact ⟨rfl, _, Eq.trans (World.drewN_drewN _ _ _) (congrArg (World.drewN _) (Nat.add_assoc _ _ _))⟩); obtain ⟨hcz17_0, hcz17_1, hcz17_2, hcz17_3⟩ := bc4 BK218.out; obtain ⟨hfz17_0, hfz17_1, hfz17_2, hfz17_3⟩ := bf4 BK218.out) | ((with_reducible refine gate_builtin (b := .append) (xs := #[.tmp 30, .tmp 32]) rfl ?_); at_builtin; refine Kd.R_append k60 (w0 := w0) w0.heap.size rfl (.tmp 30) (.tmp 32) 121 60 (.agg #[(.int .i64 0), (.int .i64 0), (.int .i64 0), (.int .i64 0)]) 32 rfl Try.underlying121 info60 rfl (by decide) (by omega) (.slice Ao16 l0.length co16) l0 (⟨a1_0, a1_1, a1_2, a1_3⟩ : S60) [.int .i64 a1_0, .int .i64 a1_1, .int .i64 a1_2, .int .i64 a1_3] (fun k_ => (P0_ k_ ∨ w.heap.size ≤ k_) ∧ k_ ≠ gb218) (fun _ => False) rfl rfl ?aP (fun _ hk => hk.elim) ?aF ?aO ?aB ?aS ?aL ?_; (case aP => exact k60_mkM _ _ _ (⟨a1_0, a1_1, a1_2, a1_3⟩ : S60)); (case aB => exact z6_1_); (case aF => exact (fun k_ hk => ⟨(.inr (Nat.le_trans z6_5_ hk)), Kd.freshB (g := gb218) (o := .cells #[.int .i64 a1_0, .int .i64 a1_1, .int .i64 a1_2, .int .i64 a1_3] 60 (0, 0)) z6_2_ k_ hk⟩)); (case aO => exact z6_7_); (case aS => exact (below_size z6_1_)); (case aL => have := LMc15.out; omega); intro v223 w18 ho hb hg hat; rw [← Ny222.out] at ho; have _ := A_ (blk_grown (g := gb218) (o := .cells #[.int .i64 a1_0, .int .i64 a1_1, .int .i64 a1_2, .int .i64 a1_3] 60 (0, 0)) z6_2_ hg (Kd.R_away HO_0.out (fun _ hk => hk.2))); have _ := A_ (hb); have _ := A_ (Kept.of_grown (S := (fun k_ => P0_ k_)) hg z6_3_ (fun k_ e_ => (HO_0.out.1 k_ e_).1)); have _ := A_ (ho); clear BK218 HB HK HO_0; rename_i BK218 HB HK HO224; clear ho hb hg hat)); try go_wp2_with (first | (go_at_call 132; (with_reducible refine (spec_l03Fits.calls _ ([(⟨a1_0, a1_1, a1_2, a1_3⟩ : S60)]).length [(⟨a1_0, a1_1, a1_2, a1_3⟩ : S60)] 288230376151711744 true _ ?side1 ?side2 A13.out).mono ?_); (case side1 => refine Kd.C_block k60 (g := gb218) (cs := #[.int .i64 a1_0, .int .i64 a1_1, .int .i64 a1_2, .int .i64 a1_3]) (T := 60) z6_2_ (show Kd.K k60 _ (⟨a1_0, a1_1, a1_2, a1_3⟩ : S60) [.int .i64 a1_0, .int .i64 a1_1, .int .i64 a1_2, .int .i64 a1_3] from k60_mk _ _) (by decide)); (case side2 => exact Nat.le_refl _); rintro e w' ⟨rfl, ⟨nd, rfl⟩⟩; (try first | exact ⟨rfl, _, World.drewN_drewN _ _ _⟩ | exact ⟨rfl, _, Eq.trans (World.drewN_drewN _ _ _) (congrArg (World.drewN _) (Nat.add_assoc _ _ _))⟩); obtain ⟨hcz17_0, hcz17_1, hcz17_2, hcz17_3⟩ := bc4 BK218.out; obtain ⟨hfz17_0, hfz17_1, hfz17_2, hfz17_3⟩ := bf4 BK218.out) | ((with_reducible refine gate_builtin (b := .append) (xs := #[.tmp 30, .tmp 32]) rfl ?_); at_builtin; refine Kd.R_append k60 (w0 := w0) w0.heap.size rfl (.tmp 30) (.tmp 32) 121 60 (.agg #[(.int .i64 0), (.int .i64 0), (.int .i64 0), (.int .i64 0)]) 32 rfl Try.underlying121 info60 rfl (by decide) (by omega) (.slice Ao16 l0.length co16) l0 (⟨a1_0, a1_1, a1_2, a1_3⟩ : S60) [.int .i64 a1_0, .int .i64 a1_1, .int .i64 a1_2, .int .i64 a1_3] (fun k_ => (P0_ k_ ∨ w.heap.size ≤ k_) ∧ k_ ≠ gb218) (fun _ => False) rfl rfl ?aP (fun _ hk => hk.elim) ?aF ?aO ?aB ?aS ?aL ?_; (case aP => exact k60_mkM _ _ _ (⟨a1_0, a1_1, a1_2, a1_3⟩ : S60)); (case aB => exact z6_1_); (case aF => exact (fun k_ hk => ⟨(.inr (Nat.le_trans z6_5_ hk)), Kd.freshB (g := gb218) (o := .cells #[.int .i64 a1_0, .int .i64 a1_1, .int .i64 a1_2, .int .i64 a1_3] 60 (0, 0)) z6_2_ k_ hk⟩)); (case aO => exact z6_7_); (case aS => exact (below_size z6_1_)); (case aL => have := LMc15.out; omega); intro v223 w18 ho hb hg hat; rw [← Ny222.out] at ho; have _ := A_ (blk_grown (g := gb218) (o := .cells #[.int .i64 a1_0, .int .i64 a1_1, .int .i64 a1_2, .int .i64 a1_3] 60 (0, 0)) z6_2_ hg (Kd.R_away HO_0.out (fun _ hk => hk.2))); have _ := A_ (hb); have _ := A_ (Kept.of_grown (S := (fun k_ => P0_ k_)) hg z6_3_ (fun k_ e_ => (HO_0.out.1 k_ e_).1)); have _ := A_ (ho); clear BK218 HB HK HO_0; rename_i BK218 HB HK HO224; clear ho hb hg hat)))
       go_ret2
       exact ⟨_, z6_9_, (by (with_reducible repeat (first | apply Kd.R_alloc | apply Kd.R_drewN | apply Kd.R_drew)); exact Kd.R_mono HO224.out (fun _ hk => hk.1)), z6_1_, z6_3_⟩
      ·
       rw [if_neg c15] at H
       exact absurd H (by simp)
     ·
      replace c14 := Bool.eq_false_iff.mpr c14
      subst c14
      have H1 := H; rw [if_neg (show ¬ (false = true) by decide)] at H1
      clear H
      have H := H1
      clear H1
      simp only [Option.some.injEq, Prod.mk.injEq] at H
      obtain ⟨rfl, rfl⟩ := H
      obtain ⟨Ao19, co19, eo19⟩ := Kd.R_slice HO_0.out
      subst eo19
      go_wp2_with (first | (go_at_call 132; (with_reducible refine (spec_l03Fits.calls _ ([(⟨a1_0, a1_1, a1_2, a1_3⟩ : S60)]).length [(⟨a1_0, a1_1, a1_2, a1_3⟩ : S60)] 288230376151711744 false _ ?side1 ?side2 A13.out).mono ?_); (case side1 => refine Kd.C_block k60 (g := gb218) (cs := #[.int .i64 a1_0, .int .i64 a1_1, .int .i64 a1_2, .int .i64 a1_3]) (T := 60) z6_2_ (show Kd.K k60 _ (⟨a1_0, a1_1, a1_2, a1_3⟩ : S60) [.int .i64 a1_0, .int .i64 a1_1, .int .i64 a1_2, .int .i64 a1_3] from k60_mk _ _) (by decide)); (case side2 => exact Nat.le_refl _); rintro e w' ⟨rfl, ⟨nd, rfl⟩⟩; (try first | exact ⟨rfl, _, World.drewN_drewN _ _ _⟩ | exact ⟨rfl, _, Eq.trans (World.drewN_drewN _ _ _) (congrArg (World.drewN _) (Nat.add_assoc _ _ _))⟩)))
      repeat (go_quiet (first | (go_at_call 132; (with_reducible refine (spec_l03Fits.calls _ ([(⟨a1_0, a1_1, a1_2, a1_3⟩ : S60)]).length [(⟨a1_0, a1_1, a1_2, a1_3⟩ : S60)] 288230376151711744 false _ ?side1 ?side2 A13.out).mono ?_); (case side1 => refine Kd.C_block k60 (g := gb218) (cs := #[.int .i64 a1_0, .int .i64 a1_1, .int .i64 a1_2, .int .i64 a1_3]) (T := 60) z6_2_ (show Kd.K k60 _ (⟨a1_0, a1_1, a1_2, a1_3⟩ : S60) [.int .i64 a1_0, .int .i64 a1_1, .int .i64 a1_2, .int .i64 a1_3] from k60_mk _ _) (by decide)); (case side2 => exact Nat.le_refl _); rintro e w' ⟨rfl, ⟨nd, rfl⟩⟩; (try first | exact ⟨rfl, _, World.drewN_drewN _ _ _⟩ | exact ⟨rfl, _, Eq.trans (World.drewN_drewN _ _ _) (congrArg (World.drewN _) (Nat.add_assoc _ _ _))⟩))); try go_wp2_with (first | (go_at_call 132; (with_reducible refine (spec_l03Fits.calls _ ([(⟨a1_0, a1_1, a1_2, a1_3⟩ : S60)]).length [(⟨a1_0, a1_1, a1_2, a1_3⟩ : S60)] 288230376151711744 false _ ?side1 ?side2 A13.out).mono ?_); (case side1 => refine Kd.C_block k60 (g := gb218) (cs := #[.int .i64 a1_0, .int .i64 a1_1, .int .i64 a1_2, .int .i64 a1_3]) (T := 60) z6_2_ (show Kd.K k60 _ (⟨a1_0, a1_1, a1_2, a1_3⟩ : S60) [.int .i64 a1_0, .int .i64 a1_1, .int .i64 a1_2, .int .i64 a1_3] from k60_mk _ _) (by decide)); (case side2 => exact Nat.le_refl _); rintro e w' ⟨rfl, ⟨nd, rfl⟩⟩; (try first | exact ⟨rfl, _, World.drewN_drewN _ _ _⟩ | exact ⟨rfl, _, Eq.trans (World.drewN_drewN _ _ _) (congrArg (World.drewN _) (Nat.add_assoc _ _ _))⟩))))
      go_ret2
      exact ⟨_, z6_9_, z6_10_, z6_1_, z6_3_⟩
end Go.Proofs.Ytpfnohdnaocpdaa.PT

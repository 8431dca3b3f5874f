-- Written by a program (xprint.py) out of the translation's own print; Lean checks it.
import Derived.Test.YtififhihgkbafaaPMx0
import Derived.Test.YtififhihgkbafaaPMx5
import Derived.Test.YtififhihgkbafaaPMx6
namespace Go.Proofs.Ytififhihgkbafaa.PM
open Go.RowKit Go.Proofs.YtififhihgkbafaaW.PrintWords Go.Proofs.YtififhihgkbafaaW.PrintLast Go.Proofs.YtififhihgkbafaaW.PrintMore Go.Proofs.YtififhihgkbafaaRP
attribute [local go_sem] max2_int min2_int max_two min_two max_three min_three max_four min_four Go.Proofs.YtififhihgkbafaaRP.max_eight   -- for this text's walks alone
set_option linter.unusedVariables false
set_option linter.unusedSimpArgs false
/-! ### spec_l03At: function 73 -/
def spec_l03At.f (l0 : List (S33)) (a1 : Int) : Option (Int) := if 0 < (l0.length : Int) then (if a1 < (((rd_T33 l0 0).f0).length : Int) then (if 0 ≤ a1 then (some (rd ((rd_T33 l0 0).f0) a1)) else (none)) else (if (((rd_T33 l0 0).f1).length : Int) = 0 then (none) else (if 0 ≤ (Int.tmod (wrap64 (a1 - (((rd_T33 l0 0).f0).length : Int))) (((rd_T33 l0 0).f1).length : Int)) then (if (Int.tmod (wrap64 (a1 - (((rd_T33 l0 0).f0).length : Int))) (((rd_T33 l0 0).f1).length : Int)) < (((rd_T33 l0 0).f1).length : Int) then (some (rd ((rd_T33 l0 0).f1) (Int.tmod (wrap64 (a1 - (((rd_T33 l0 0).f0).length : Int))) (((rd_T33 l0 0).f1).length : Int)))) else (none)) else (none)))) else (none)
set_option maxHeartbeats 8000000 in
set_option maxRecDepth 100000 in
theorem spec_l03At.calls (A0 : Option Addr) (c0 : Nat) (l0 : List (S33)) (a1 : Int) (r : Int) (w : World) (hr0 : Kd.C k33 w A0 l0.length l0) (hc0 : l0.length ≤ c0) (h : spec_l03At.f l0 a1 = some r) :
  Calls Try.prog 73 #[.pointer A0, .int .i64 a1] w fun e w' => e = .returned (.int .i8 r) ∧ Drawn0 w w' := by
 have HR0 := Aside0.mk hr0
 have HC0 := Aside0.mk hc0
 clear hr0 hc0
 have H : (if 0 < (l0.length : Int) then (if a1 < (((rd_T33 l0 0).f0).length : Int) then (if 0 ≤ a1 then (some (rd ((rd_T33 l0 0).f0) a1)) else (none)) else (if (((rd_T33 l0 0).f1).length : Int) = 0 then (none) else (if 0 ≤ (Int.tmod (wrap64 (a1 - (((rd_T33 l0 0).f0).length : Int))) (((rd_T33 l0 0).f1).length : Int)) then (if (Int.tmod (wrap64 (a1 - (((rd_T33 l0 0).f0).length : Int))) (((rd_T33 l0 0).f1).length : Int)) < (((rd_T33 l0 0).f1).length : Int) then (some (rd ((rd_T33 l0 0).f1) (Int.tmod (wrap64 (a1 - (((rd_T33 l0 0).f0).length : Int))) (((rd_T33 l0 0).f1).length : Int)))) else (none)) else (none)))) else (none)) = some r := h
 clear h
 by_cases c3 : 0 < (l0.length : Int)
 ·
  rw [if_pos c3] at H
  have c3b0 : decide (0 < (l0.length : Int)) = true := decide_eq_true c3
  have c3b1 : decide (0 < l0.length) = true := decide_eq_true (by omega)
  clear c3
  by_cases c4 : a1 < (((rd_T33 l0 0).f0).length : Int)
  ·
   rw [if_pos c4] at H
   have c4b0 : decide (a1 < (((rd_T33 l0 0).f0).length : Int)) = true := decide_eq_true c4
   clear c4
   by_cases c5 : 0 ≤ a1
   ·
    rw [if_pos c5] at H
    have c5b0 : decide (0 ≤ a1) = true := decide_eq_true c5
    clear c5
    obtain rfl := Option.some.inj H
    have q201 : 0 < (l0.length : Int) := of_decide_eq_true (by assumption)
    obtain ⟨ad201, A201_0, c201_0, A201_1, c201_1, e201, hx201_0, hx201_1, hl201_0, hi201_0, hl201_1, hi201_1⟩ := rp_T33 HR0.out q201
    cases e201
    have HR201_0 := Aside0.mk hi201_0
    have HC201_0 := Aside0.mk hl201_0
    clear hi201_0 hl201_0
    have HR201_1 := Aside0.mk hi201_1
    have HC201_1 := Aside0.mk hl201_1
    clear hi201_1 hl201_1
    have p202 : 0 ≤ (a1 : Int) := of_decide_eq_true (by assumption)
    have q202 : a1 < (((rd_T33 l0 0).f0).length : Int) := of_decide_eq_true (by assumption)
    obtain ⟨ad202, e202, hx202_0⟩ := Kd.at_int HR201_0.out a1 p202 q202
    cases e202
    replace p202 := eq_true p202
    replace q202 := eq_true q202
    go_enter Try.func73, Try.ntmps73
    go_wp2
    repeat (go_quiet (fail); try go_wp2)
    go_ret
    exact ⟨by first | rfl | (simp; done) | (simp [*]; done) | (simp [isE_]; done), by repeat (first | exact Drawn0.refl _ | apply Drawn0.step)⟩
   ·
    rw [if_neg c5] at H
    exact absurd H (by simp)
  ·
   rw [if_neg c4] at H
   have c4b0 : decide (a1 < (((rd_T33 l0 0).f0).length : Int)) = false := decide_eq_false c4
   clear c4
   by_cases c6 : (((rd_T33 l0 0).f1).length : Int) = 0
   ·
    rw [if_pos c6] at H
    exact absurd H (by simp)
   ·
    rw [if_neg c6] at H
    have c6b0 : ((((rd_T33 l0 0).f1).length : Int) == 0) = false := beq_eq_false_iff_ne.mpr c6
    have c6b1 : ((((rd_T33 l0 0).f1).length : Int) != 0) = true := bne_iff_ne.mpr c6
    have c6b2 : ¬ (((rd_T33 l0 0).f1) = []) := fun h_ => c6 (by rw [h_]; rfl)
    obtain ⟨ji7, hji7⟩ : ∃ j_ : Int, (Int.tmod (wrap64 (a1 - (((rd_T33 l0 0).f0).length : Int))) (((rd_T33 l0 0).f1).length : Int)) = j_ := ⟨_, rfl⟩
    replace H : (if 0 ≤ (ji7) then (if (ji7) < (((rd_T33 l0 0).f1).length : Int) then (some (rd ((rd_T33 l0 0).f1) (ji7))) else (none)) else (none)) = some r := by first | (rw [hji7] at H; exact H) | (simp only [hji7] at H ⊢; exact H)
    by_cases c8 : 0 ≤ (ji7)
    ·
     rw [if_pos c8] at H
     have c8b0 : decide (0 ≤ (ji7)) = true := decide_eq_true c8
     clear c8
     by_cases c9 : (ji7) < (((rd_T33 l0 0).f1).length : Int)
     ·
      rw [if_pos c9] at H
      have c9b0 : decide ((ji7) < (((rd_T33 l0 0).f1).length : Int)) = true := decide_eq_true c9
      clear c9
      obtain rfl := Option.some.inj H
      have q201 : 0 < (l0.length : Int) := of_decide_eq_true (by assumption)
      obtain ⟨ad201, A201_0, c201_0, A201_1, c201_1, e201, hx201_0, hx201_1, hl201_0, hi201_0, hl201_1, hi201_1⟩ := rp_T33 HR0.out q201
      cases e201
      have HR201_0 := Aside0.mk hi201_0
      have HC201_0 := Aside0.mk hl201_0
      clear hi201_0 hl201_0
      have HR201_1 := Aside0.mk hi201_1
      have HC201_1 := Aside0.mk hl201_1
      clear hi201_1 hl201_1
      have p203 : 0 ≤ ((ji7) : Int) := of_decide_eq_true (by assumption)
      have q203 : (ji7) < (((rd_T33 l0 0).f1).length : Int) := of_decide_eq_true (by assumption)
      obtain ⟨ad203, e203, hx203_0⟩ := Kd.at_int HR201_1.out (ji7) p203 q203
      cases e203
      replace p203 := eq_true p203
      replace q203 := eq_true q203
      go_enter Try.func73, Try.ntmps73
      go_wp2
      repeat (go_quiet (fail); try go_wp2)
      go_ret
      exact ⟨by first | rfl | (simp; done) | (simp only [← hji7] <;> (first | rfl | simp)) | (simp [*]; done), by repeat (first | exact Drawn0.refl _ | apply Drawn0.step)⟩
     ·
      rw [if_neg c9] at H
      exact absurd H (by simp)
    ·
     rw [if_neg c8] at H
     exact absurd H (by simp)
 ·
  rw [if_neg c3] at H
  exact absurd H (by simp)
/-! ### spec_l03Run: function 41 -/
mutual
def spec_l03Run.l0 : Nat → List (S33) → Int → List (S51) → Int → Int → Int → Int → Int → Int → Option ((List (S51)) × Int)
 | 0, _, _, _, _, _, _, _, _, _ => none
 | k + 1, x1, x2, x8, x10, x11, x213000, x213001, x213002, x213003 => if x10 < x2 then ((spec_l03Told.f [(⟨x213000, x213001, x213002, x213003⟩ : S31)]).bind fun bt214 => (if bt214.2 = true then (spec_l03Run.j1 k x1 x2 x8 (wrap64 (x10 + 1)) x11 (wrap64 ((wrap64 (2 * x213000)) - (wrap64 (bt214.1 * x213002)))) (wrap64 ((wrap64 (2 * x213001)) - (wrap64 (bt214.1 * x213003)))) x213002 x213003 bt214.2 (IntKind.i8.wrap (bt214.1)) 0 0 0 0) else (if x11 = 400 then (some ((([] : List (S51))), 7)) else ((spec_l03At.f x1 x11).bind fun t220 => (spec_l03Run.j1 k x1 x2 x8 x10 (wrap64 (x11 + 1)) x213000 (wrap64 ((wrap64 (x213000 * (wrap64 (t220)))) + (wrap64 (2 * x213001)))) x213002 (wrap64 ((wrap64 (x213002 * (wrap64 (t220)))) + (wrap64 (2 * x213003)))) bt214.2 t220 0 0 0 0))))) else (some (x8, 0))
def spec_l03Run.j1 : Nat → List (S33) → Int → List (S51) → Int → Int → Int → Int → Int → Int → Bool → Int → Int → Int → Int → Int → Option ((List (S51)) × Int)
 | 0, _, _, _, _, _, _, _, _, _, _, _, _, _, _, _ => none
 | k + 1, x1, x2, x8, x10, x11, x213000, x213001, x213002, x213003, x217000, x217001, x217002, x217003, x217004, x217005 => (spec_l03Less.f k x213000 x213001 x213002 x213003).bind fun bt221 => ((spec_l03Fits.f [(⟨bt221.1, bt221.2.1, bt221.2.2.1, bt221.2.2.2⟩ : S31)] 288230376151711744).bind fun t226 => (if t226 = true then (if x8.length < 3518437208883 then (spec_l03Run.l0 k x1 x2 (x8 ++ [(⟨x217000, x217001, (⟨bt221.1, bt221.2.1, bt221.2.2.1, bt221.2.2.2⟩ : S31)⟩ : S51)]) x10 x11 bt221.1 bt221.2.1 bt221.2.2.1 bt221.2.2.2) else (none)) else (some ((([] : List (S51))), 3))))
end
def spec_l03Run.f (k : Nat) (l0 : List (S31)) (l1 : List (S33)) (a2 : Int) : Option ((List (S51)) × Int) := if 0 < (l0.length : Int) then ((spec_l03Less.f k ((rd_T31 l0 0).f0) ((rd_T31 l0 0).f1) ((rd_T31 l0 0).f2) ((rd_T31 l0 0).f3)).bind fun bt208 => (spec_l03Run.l0 k l1 a2 (([] : List (S51))) 0 0 bt208.1 bt208.2.1 bt208.2.2.1 bt208.2.2.2)) else (none)
theorem spec_l03Run.mono_l : ∀ k, (∀ y0 y1 y2 y3 y4 y5 y6 y7 y8, LeO (spec_l03Run.l0 k y0 y1 y2 y3 y4 y5 y6 y7 y8) (spec_l03Run.l0 (k + 1) y0 y1 y2 y3 y4 y5 y6 y7 y8)) ∧ (∀ y0 y1 y2 y3 y4 y5 y6 y7 y8 y9 y10 y11 y12 y13 y14, LeO (spec_l03Run.j1 k y0 y1 y2 y3 y4 y5 y6 y7 y8 y9 y10 y11 y12 y13 y14) (spec_l03Run.j1 (k + 1) y0 y1 y2 y3 y4 y5 y6 y7 y8 y9 y10 y11 y12 y13 y14))
 | 0 => ⟨fun _ _ _ _ _ _ _ _ _ r h => by simp [spec_l03Run.l0] at h, fun _ _ _ _ _ _ _ _ _ _ _ _ _ _ _ r h => by simp [spec_l03Run.j1] at h⟩
 | k + 1 => by
  obtain ⟨ih0, ih1⟩ := spec_l03Run.mono_l k
  refine ⟨?_, ?_⟩
  ·
   intro y0 y1 y2 y3 y4 y5 y6 y7 y8
   unfold spec_l03Run.l0
   repeat' first
   | (with_reducible exact ih0 _ _ _ _ _ _ _ _ _)
   | (with_reducible exact ih1 _ _ _ _ _ _ _ _ _ _ _ _ _ _ _)
   | (with_reducible exact spec_l03Less.mono _ _ _ _ _)
   | (with_reducible exact LeO.refl _)
   | (with_reducible exact LeO.none _)
   | (with_reducible refine LeO.ite ?_ ?_)
   | (with_reducible refine LeO.bind ?_ (fun _ => ?_))
   | exact ih0 _ _ _ _ _ _ _ _ _
   | exact ih1 _ _ _ _ _ _ _ _ _ _ _ _ _ _ _
   | exact LeO.none _
   | refine LeO.ite ?_ ?_
   | refine LeO.bind ?_ (fun _ => ?_)
  ·
   intro y0 y1 y2 y3 y4 y5 y6 y7 y8 y9 y10 y11 y12 y13 y14
   unfold spec_l03Run.j1
   repeat' first
   | (with_reducible exact ih0 _ _ _ _ _ _ _ _ _)
   | (with_reducible exact ih1 _ _ _ _ _ _ _ _ _ _ _ _ _ _ _)
   | (with_reducible exact spec_l03Less.mono _ _ _ _ _)
   | (with_reducible exact LeO.refl _)
   | (with_reducible exact LeO.none _)
   | (with_reducible refine LeO.ite ?_ ?_)
   | (with_reducible refine LeO.bind ?_ (fun _ => ?_))
   | exact ih0 _ _ _ _ _ _ _ _ _
   | exact ih1 _ _ _ _ _ _ _ _ _ _ _ _ _ _ _
   | exact LeO.none _
   | refine LeO.ite ?_ ?_
   | refine LeO.bind ?_ (fun _ => ?_)
theorem spec_l03Run.mono : ∀ a0 a1 a2 k, LeO (spec_l03Run.f k a0 a1 a2) (spec_l03Run.f (k + 1) a0 a1 a2) := by
 intro a0 a1 a2 k
 obtain ⟨ih0, ih1⟩ := spec_l03Run.mono_l k
 unfold spec_l03Run.f
 repeat' first
   | (with_reducible exact ih0 _ _ _ _ _ _ _ _ _)
   | (with_reducible exact ih1 _ _ _ _ _ _ _ _ _ _ _ _ _ _ _)
   | (with_reducible exact spec_l03Less.mono _ _ _ _ _)
   | (with_reducible exact LeO.refl _)
   | (with_reducible exact LeO.none _)
   | (with_reducible refine LeO.ite ?_ ?_)
   | (with_reducible refine LeO.bind ?_ (fun _ => ?_))
   | exact ih0 _ _ _ _ _ _ _ _ _
   | exact ih1 _ _ _ _ _ _ _ _ _ _ _ _ _ _ _
   | exact LeO.none _
   | refine LeO.ite ?_ ?_
   | refine LeO.bind ?_ (fun _ => ?_)
set_option maxHeartbeats 8000000 in
set_option maxRecDepth 100000 in
theorem spec_l03Run.calls (k : Nat) (A0 : Option Addr) (c0 : Nat) (l0 : List (S31)) (A1 : Option Addr) (c1 : Nat) (l1 : List (S33)) (a2 : Int) (r1 : List (S51)) (r2 : Int) (w : World) (hr0 : Kd.C k31 w A0 l0.length l0) (hc0 : l0.length ≤ c0) (hr1 : Kd.C k33 w A1 l1.length l1) (hc1 : l1.length ≤ c1) (h : spec_l03Run.f k l0 l1 a2 = some (r1, r2)) :
  Calls Try.prog 41 #[.pointer A0, .pointer A1, .int .i64 a2] w fun e w' => ∃ v0_ : Value, e = .returned (.tuple #[v0_, .int .i64 r2]) ∧ Kd.R k51 51 w' w.heap.size (fun _ => True) v0_ r1 ∧ Below w.heap.size w w' := by
 have hu31 := Try.underlying31
 have hu51 := Try.underlying51
 have HR0 := Aside0.mk hr0
 have HC0 := Aside0.mk hc0
 clear hr0 hc0
 have HR1 := Aside0.mk hr1
 have HC1 := Aside0.mk hc1
 clear hr1 hc1
 have HB := Aside0.mk (Below.refl w.heap.size w)
 have H : (if 0 < (l0.length : Int) then ((spec_l03Less.f k ((rd_T31 l0 0).f0) ((rd_T31 l0 0).f1) ((rd_T31 l0 0).f2) ((rd_T31 l0 0).f3)).bind fun bt208 => (spec_l03Run.l0 k l1 a2 (([] : List (S51))) 0 0 bt208.1 bt208.2.1 bt208.2.2.1 bt208.2.2.2)) else (none)) = some (r1, r2) := h
 clear h
 obtain ⟨y204, hy204⟩ : ∃ y_ : List (S51), y_ = (([] : List (S51))) := ⟨_, rfl⟩
 replace H : (if 0 < (l0.length : Int) then ((spec_l03Less.f k ((rd_T31 l0 0).f0) ((rd_T31 l0 0).f1) ((rd_T31 l0 0).f2) ((rd_T31 l0 0).f3)).bind fun bt208 => (spec_l03Run.l0 k l1 a2 y204 0 0 bt208.1 bt208.2.1 bt208.2.2.1 bt208.2.2.2)) else (none)) = some (r1, r2) := by first | (rw [hy204]; with_reducible exact H) | (have H2_ := (Option.bind_some _ _).symm.trans H; rw [hy204]; with_reducible exact H2_) | (have H2_ := (Option.bind_some _ _).symm.trans H; with_reducible exact H2_) | with_reducible exact H | (rw [hy204]; exact H) | exact H
 have Ny204 := Aside0.mk hy204
 clear hy204
 by_cases c4 : 0 < (l0.length : Int)
 ·
  rw [if_pos c4] at H
  have c4b0 : decide (0 < (l0.length : Int)) = true := decide_eq_true c4
  have c4b1 : decide (0 < l0.length) = true := decide_eq_true (by omega)
  clear c4
  replace H := Option.bind_eq_some_iff.mp H
  obtain ⟨⟨t208, t209, t210, t211⟩, A50, H⟩ := H
  replace H : (spec_l03Run.l0 k l1 a2 y204 0 0 t208 t209 t210 t211) = some (r1, r2) := H
  have A5 := Aside0.mk A50
  clear A50
  have H' := Aside0.mk H
  clear H
  go_enter Try.func41, Try.ntmps41
  go_wp2_with (first | ((with_reducible refine gate_dst (N := 16) rfl ?_); refine Kd.R_lit k51 _ 51 ?hg (N := 16) ?hd (xs := ([] : List (S51))) (inner := []) (ok := fun _ => True) (okp := fun _ => True) ?hr ?hp (fun _ hk => hk) trivial (Below.refl _ _) (Nat.le_refl _) (by simp) ?_; (case hd => rfl); (case hg => rfl); (case hr => first | (go_simp; done) | (go_simp; rfl)); (case hp => exact (Reps.none _ _)); intro v205 w6 ho7 hb hg_ hnew_; clear hg_ hnew_; (first | rw [← Ny204.out] at ho7 | (simp only [Int.reduceToNat] at ho7; rw [← Ny204.out] at ho7)); have n0_ := Aside0.mk (Kd.R_lower ho7 (below_size (by repeat (first | (with_reducible first | exact HB.out | apply below_alloc | apply pw_below_drewN | apply below_drew1) | exact HB.out)))); have n1_ := Aside0.mk (below_step (by repeat (first | (with_reducible first | exact HB.out | apply below_alloc | apply pw_below_drewN | apply below_drew1) | exact HB.out)) hb); clear HB; have HO206 := n0_; have HB := n1_; clear n0_ n1_; clear hb ho7; have q207 : 0 < (l0.length : Int) := of_decide_eq_true (by assumption); obtain ⟨ad207, e207, hx207_0, hx207_1, hx207_2, hx207_3⟩ := rp_T31 HR0.out q207; cases e207; replace hx207_0 := (HB.out.cell (World.block_lt_of_cell? w _ hx207_0)).trans hx207_0; replace hx207_1 := (HB.out.cell (World.block_lt_of_cell? w _ hx207_1)).trans hx207_1; replace hx207_2 := (HB.out.cell (World.block_lt_of_cell? w _ hx207_2)).trans hx207_2; replace hx207_3 := (HB.out.cell (World.block_lt_of_cell? w _ hx207_3)).trans hx207_3) | ((with_reducible refine gate_callee (f := 68) rfl ?_); refine goesL_ (some 20) rfl rfl Try.func68 (by kernel_rfl) rfl #[.agg #[.int .i64 ((rd_T31 l0 0).f0), .int .i64 ((rd_T31 l0 0).f1), .int .i64 ((rd_T31 l0 0).f2), .int .i64 ((rd_T31 l0 0).f3)]] rfl (by (try simp only [List.map_toArray, List.map_cons, List.map_nil]); first | done | rfl | (simp only [List.length_drop, List.length_take]; rfl)) ?_; (with_reducible refine (spec_l03Less.calls k ((rd_T31 l0 0).f0) ((rd_T31 l0 0).f1) ((rd_T31 l0 0).f2) ((rd_T31 l0 0).f3) t208 t209 t210 t211 _ A5.out).mono ?_); rintro e w8 ⟨rfl, hb⟩; refine ⟨_, rfl, ?_⟩; have n0_ := Aside0.mk (Kd.R_below (by (with_reducible repeat (first | apply Kd.R_alloc | apply Kd.R_drewN | apply Kd.R_drew)); exact HO206.out) hb); have n1_ := Aside0.mk (below_step (by repeat (first | (with_reducible first | exact HB.out | apply below_alloc | apply pw_below_drewN | apply below_drew1) | exact HB.out)) hb); clear HO206; clear HB; have HO206 := n0_; have HB := n1_; clear n0_ n1_; (try clear hb); (try clear hb2); (try clear hk); (try clear hi)) | ((with_reducible refine gate_dst (N := 9) rfl ?_); refine box_event ?hg (N := 9) ?hd (cs := #[.int .i64 0, .int .i64 0, .int .i64 0, .int .i64 0]) (t := 31) ?hr ?_; (case hd => rfl); (case hg => rfl); (case hr => first | (go_simp; done) | (go_simp; rfl)); intro gb212 hg w9 hbox hb; have n0_ := Aside0.mk (Kd.R_below (by (with_reducible repeat (first | apply Kd.R_alloc | apply Kd.R_drewN | apply Kd.R_drew)); exact HO206.out) hb); have n1_ := Aside0.mk (below_step (by repeat (first | (with_reducible first | exact HB.out | apply below_alloc | apply pw_below_drewN | apply below_drew1) | exact HB.out)) hb); have n2_ := Aside0.mk (hbox); have n3_ := Aside0.mk ((by rw [hg]; exact (below_size (by repeat (first | (with_reducible first | exact HB.out | apply below_alloc | apply pw_below_drewN | apply below_drew1) | exact HB.out))) : w.heap.size ≤ gb212)); have n4_ := Aside0.mk ((by rw [hg]; exact (below_size (by repeat (first | (with_reducible first | exact HB.out | apply below_alloc | apply pw_below_drewN | apply below_drew1) | exact HB.out))) : w.heap.size ≤ gb212)); clear HO206; clear HB; have HO206 := n0_; have HB := n1_; have BK212 := n2_; have GW212 := n3_; have GE212 := n4_; clear n0_ n1_ n2_ n3_ n4_; clear hb hbox hg; have hcz10_0 : w9.cell? ⟨gb212, 0, none⟩ = some (.int .i64 0) := (blk_cell BK212.out 0).trans rfl; have hcz10_1 : w9.cell? ⟨gb212, 1, none⟩ = some (.int .i64 0) := (blk_cell BK212.out 1).trans rfl; have hcz10_2 : w9.cell? ⟨gb212, 2, none⟩ = some (.int .i64 0) := (blk_cell BK212.out 2).trans rfl; have hcz10_3 : w9.cell? ⟨gb212, 3, none⟩ = some (.int .i64 0) := (blk_cell BK212.out 3).trans rfl; have hfz10_0 := blk_frozen BK212.out 0; have hfz10_1 := blk_frozen BK212.out 1; have hfz10_2 := blk_frozen BK212.out 2; have hfz10_3 := blk_frozen BK212.out 3) | ((with_reducible refine gate_store (t := 31) (p := 9) rfl ?_); refine store_event (t := 31) (p := 9) (v := ?vo_w11) (w1 := ((((w9.setCell ⟨gb212, 0, none⟩ (.int .i64 t208)).setCell ⟨gb212, 1, none⟩ (.int .i64 t209)).setCell ⟨gb212, 2, none⟩ (.int .i64 t210)).setCell ⟨gb212, 3, none⟩ (.int .i64 t211))) ?hg ?ho ?hn ?hr ?_; (case ho => rfl); (case hg => rfl); (case hn => rfl); (case hr => first | (go_simp; done) | (go_simp; rfl)); intro w11 hw; have n0_ : Aside0 (Kd.R k51 51 w11 w.heap.size (fun _ => True) v205 y204) := ⟨(by rw [hw]; exact (by (with_reducible repeat (first | apply Kd.R_alloc | apply Kd.R_drewN | apply Kd.R_drew)); exact Kd.R_mono (Kd.R_far (p := ⟨gb212, 3, none⟩) (Kd.R_far (p := ⟨gb212, 2, none⟩) (Kd.R_far (p := ⟨gb212, 1, none⟩) (Kd.R_far (p := ⟨gb212, 0, none⟩) (Kd.R_types HO206.out BK212.out (by decide)) (fun _ hk => hk.2) (.int .i64 t208)) (fun _ hk => hk.2) (.int .i64 t209)) (fun _ hk => hk.2) (.int .i64 t210)) (fun _ hk => hk.2) (.int .i64 t211)) (fun _ hk => trivial)))⟩; have n1_ : Aside0 (w11.heap[gb212]? = some (.cells #[.int .i64 t208, .int .i64 t209, .int .i64 t210, .int .i64 t211] 31 (0, 0))) := ⟨(by rw [hw]; exact (by (with_reducible repeat (first | refine blk_drewN ?_ _ | refine blk_drew ?_ | refine blk_alloc ?_ _)); refine blk_put (cs := #[.int .i64 t208, .int .i64 t209, .int .i64 t210, .int .i64 0]) ?_ 3 _ rfl; (with_reducible repeat (first | refine blk_drewN ?_ _ | refine blk_drew ?_ | refine blk_alloc ?_ _)); refine blk_put (cs := #[.int .i64 t208, .int .i64 t209, .int .i64 0, .int .i64 0]) ?_ 2 _ rfl; (with_reducible repeat (first | refine blk_drewN ?_ _ | refine blk_drew ?_ | refine blk_alloc ?_ _)); refine blk_put (cs := #[.int .i64 t208, .int .i64 0, .int .i64 0, .int .i64 0]) ?_ 1 _ rfl; (with_reducible repeat (first | refine blk_drewN ?_ _ | refine blk_drew ?_ | refine blk_alloc ?_ _)); refine blk_put (cs := #[.int .i64 0, .int .i64 0, .int .i64 0, .int .i64 0]) ?_ 0 _ rfl; (with_reducible repeat (first | refine blk_drewN ?_ _ | refine blk_drew ?_ | refine blk_alloc ?_ _)); exact BK212.out))⟩; have n2_ : Aside0 (Below w.heap.size w w11) := ⟨(by rw [hw]; exact (by repeat (first | (with_reducible first | exact HB.out | apply below_alloc | apply pw_below_drewN | apply below_drew1 | refine below_set ?_ GE212.out) | exact HB.out)))⟩; clear hw; clear HO206; clear BK212; clear HB; have HO206 := n0_; have BK212 := n1_; have HB := n2_; clear n0_ n1_ n2_))
  go_loopg [8, 10, 11] k (fun kq v8 v10 v11 w' => ∃ (x8_1 : List (S51)) (x10_1 : Int) (x11_1 : Int) (x213000_1 : Int) (x213001_1 : Int) (x213002_1 : Int) (x213003_1 : Int), v10 = .int .i64 x10_1 ∧ v11 = .int .i64 x11_1 ∧ Aside0 (spec_l03Run.l0 kq l1 a2 x8_1 x10_1 x11_1 x213000_1 x213001_1 x213002_1 x213003_1 = some (r1, r2)) ∧ Aside0 (kq ≤ k) ∧ Aside0 (Kd.R k51 51 w' w.heap.size (fun _ => True) v8 x8_1) ∧ Aside0 (w'.heap[gb212]? = some (.cells #[.int .i64 x213000_1, .int .i64 x213001_1, .int .i64 x213002_1, .int .i64 x213003_1] 31 (0, 0))) ∧ Aside0 (Below w.heap.size w w'))
  case atStart => exact ⟨(y204), (0), (0), (t208), (t209), (t210), (t211), (by first | rfl | (simp; done) | (simp [*]; done) | (simp [isE_]; done)), (by first | rfl | (simp; done) | (simp [*]; done) | (simp [isE_]; done)), H', ⟨Nat.le_refl _⟩, ⟨by (with_reducible repeat (first | apply Kd.R_alloc | apply Kd.R_drewN | apply Kd.R_drew)); exact HO206.out⟩, ⟨by (with_reducible repeat (first | refine blk_drewN ?_ _ | refine blk_drew ?_ | refine blk_alloc ?_ _)); exact BK212.out⟩, ⟨by repeat (first | (with_reducible first | exact HB.out | apply below_alloc | apply pw_below_drewN | apply below_drew1 | refine below_set ?_ GE212.out) | exact HB.out)⟩⟩
  case round =>
   clear H'
   try clear c1
   try clear p2
   try clear q2
   try clear hx2
   try clear c4
   try clear c4b0
   try clear c4b1
   try clear c6
   try clear hcz10_0
   try clear hcz10_1
   try clear hcz10_2
   try clear hcz10_3
   try clear hfz10_0
   try clear hfz10_1
   try clear hfz10_2
   try clear hfz10_3
   try clear hx207_0
   try clear hx207_1
   try clear hx207_2
   try clear hx207_3
   try clear q207
   obtain ⟨x8_1, x10_1, x11_1, x213000_1, x213001_1, x213002_1, x213003_1, rfl, rfl, HA, HK1, HO_8, BK212, HB⟩ := hrel
   cases gk with
   | zero => exact absurd HA.out (by simp [spec_l03Run.l0])
   | succ k1 =>
    have H := HA.out
    clear HA
    simp only [spec_l03Run.l0] at H
    by_cases c12 : x10_1 < a2
    ·
     rw [if_pos c12] at H
     have c12b0 : decide (x10_1 < a2) = true := decide_eq_true c12
     clear c12
     replace H := Option.bind_eq_some_iff.mp H
     obtain ⟨⟨t214, t215⟩, A130, H⟩ := H
     replace H : (if t215 = true then (spec_l03Run.j1 k1 l1 a2 x8_1 (wrap64 (x10_1 + 1)) x11_1 (wrap64 ((wrap64 (2 * x213000_1)) - (wrap64 (t214 * x213002_1)))) (wrap64 ((wrap64 (2 * x213001_1)) - (wrap64 (t214 * x213003_1)))) x213002_1 x213003_1 t215 (IntKind.i8.wrap (t214)) 0 0 0 0) else (if x11_1 = 400 then (some ((([] : List (S51))), 7)) else ((spec_l03At.f l1 x11_1).bind fun t220 => (spec_l03Run.j1 k1 l1 a2 x8_1 x10_1 (wrap64 (x11_1 + 1)) x213000_1 (wrap64 ((wrap64 (x213000_1 * (wrap64 (t220)))) + (wrap64 (2 * x213001_1)))) x213002_1 (wrap64 ((wrap64 (x213002_1 * (wrap64 (t220)))) + (wrap64 (2 * x213003_1)))) t215 t220 0 0 0 0)))) = some (r1, r2) := H
     have A13 := Aside0.mk A130
     clear A130
     have HC14 := Aside0.mk H
     clear H
     go_upto_if 30 with (first | ((with_reducible refine gate_callee (f := 72) rfl ?_); refine goesL_ (some 25) rfl rfl Try.func72 (by kernel_rfl) rfl #[.pointer (some ⟨gb212, 0, none⟩)] rfl (by (try simp only [List.map_toArray, List.map_cons, List.map_nil]); first | done | rfl | (simp only [List.length_drop, List.length_take]; rfl)) ?_; (with_reducible refine (spec_l03Told.calls _ ([(⟨x213000_1, x213001_1, x213002_1, x213003_1⟩ : S31)]).length [(⟨x213000_1, x213001_1, x213002_1, x213003_1⟩ : S31)] t214 t215 _ ?side1 ?side2 A13.out).mono ?_); (case side1 => refine Kd.C_block k31 (g := gb212) (cs := #[.int .i64 x213000_1, .int .i64 x213001_1, .int .i64 x213002_1, .int .i64 x213003_1]) (T := 31) (by (with_reducible repeat (first | refine blk_drewN ?_ _ | refine blk_drew ?_ | refine blk_alloc ?_ _)); exact BK212.out) (show Kd.K k31 _ (⟨x213000_1, x213001_1, x213002_1, x213003_1⟩ : S31) [.int .i64 x213000_1, .int .i64 x213001_1, .int .i64 x213002_1, .int .i64 x213003_1] from k31_mk _ _) (by decide)); (case side2 => exact Nat.le_refl _); rintro e w15 ⟨rfl, hb⟩; refine ⟨_, rfl, ?_⟩; have n0_ := Aside0.mk (Kd.R_below (by (with_reducible repeat (first | apply Kd.R_alloc | apply Kd.R_drewN | apply Kd.R_drew)); exact HO_8.out) hb); have n1_ := Aside0.mk (blk_below (g := gb212) (o := .cells #[.int .i64 x213000_1, .int .i64 x213001_1, .int .i64 x213002_1, .int .i64 x213003_1] 31 (0, 0)) (by (with_reducible repeat (first | refine blk_drewN ?_ _ | refine blk_drew ?_ | refine blk_alloc ?_ _)); exact BK212.out) hb); have n2_ := Aside0.mk (below_step (by repeat (first | (with_reducible first | exact HB.out | apply below_alloc | apply pw_below_drewN | apply below_drew1 | refine below_set ?_ GE212.out) | exact HB.out)) hb); clear HO_8; clear BK212; clear HB; have HO_8 := n0_; have BK212 := n1_; have HB := n2_; clear n0_ n1_ n2_; (try clear hb); (try clear hb2); (try clear hk); (try clear hi)) | ((with_reducible refine gate_dst (N := 14) rfl ?_); refine box_event ?hg (N := 14) ?hd (cs := #[.bool false, .int .i8 0, .int .i64 0, .int .i64 0, .int .i64 0, .int .i64 0]) (t := 51) ?hr ?_; (case hd => rfl); (case hg => rfl); (case hr => first | (go_simp; done) | (go_simp; rfl)); intro gb216 hg w16 hbox hb; have n0_ := Aside0.mk (Kd.R_below (Kd.R_elderB (by (with_reducible repeat (first | apply Kd.R_alloc | apply Kd.R_drewN | apply Kd.R_drew)); exact HO_8.out) gb216 (Nat.le_of_eq hg.symm)) hb); have n1_ := Aside0.mk (blk_below (g := gb212) (o := .cells #[.int .i64 x213000_1, .int .i64 x213001_1, .int .i64 x213002_1, .int .i64 x213003_1] 31 (0, 0)) (by (with_reducible repeat (first | refine blk_drewN ?_ _ | refine blk_drew ?_ | refine blk_alloc ?_ _)); exact BK212.out) hb); have n2_ := Aside0.mk (below_step (by repeat (first | (with_reducible first | exact HB.out | apply below_alloc | apply pw_below_drewN | apply below_drew1 | refine below_set ?_ GE212.out) | exact HB.out)) hb); have n3_ := Aside0.mk (hbox); have n4_ := Aside0.mk ((by rw [hg]; exact (below_size (by repeat (first | (with_reducible first | exact HB.out | apply below_alloc | apply pw_below_drewN | apply below_drew1 | refine below_set ?_ GE212.out) | exact HB.out))) : w.heap.size ≤ gb216)); have n5_ := Aside0.mk ((by rw [hg]; exact (below_size (by repeat (first | (with_reducible first | exact HB.out | apply below_alloc | apply pw_below_drewN | apply below_drew1 | refine below_set ?_ GE212.out) | exact HB.out))) : w.heap.size ≤ gb216)); have n6_ := Aside0.mk ((by rw [hg]; exact Nat.ne_of_lt (blk_lt (g := gb212) (o := .cells #[.int .i64 x213000_1, .int .i64 x213001_1, .int .i64 x213002_1, .int .i64 x213003_1] 31 (0, 0)) (by (with_reducible repeat (first | refine blk_drewN ?_ _ | refine blk_drew ?_ | refine blk_alloc ?_ _)); exact BK212.out)) : gb212 ≠ gb216)); have n7_ := Aside0.mk ((by rw [hg]; exact Nat.ne_of_gt (blk_lt (g := gb212) (o := .cells #[.int .i64 x213000_1, .int .i64 x213001_1, .int .i64 x213002_1, .int .i64 x213003_1] 31 (0, 0)) (by (with_reducible repeat (first | refine blk_drewN ?_ _ | refine blk_drew ?_ | refine blk_alloc ?_ _)); exact BK212.out)) : gb216 ≠ gb212)); clear HO_8; clear BK212; clear HB; have HO_8 := n0_; have BK212 := n1_; have HB := n2_; have BK216 := n3_; have GW216 := n4_; have GE216 := n5_; have NB212_216 := n6_; have NB216_212 := n7_; clear n0_ n1_ n2_ n3_ n4_ n5_ n6_ n7_; clear hb hbox hg; have hnb17 := NB216_212.out; have hnc17 := NB212_216.out; have hcz18_0 : w16.cell? ⟨gb216, 0, none⟩ = some (.bool false) := (blk_cell BK216.out 0).trans rfl; have hcz18_1 : w16.cell? ⟨gb216, 1, none⟩ = some (.int .i8 0) := (blk_cell BK216.out 1).trans rfl; have hcz18_2 : w16.cell? ⟨gb216, 2, none⟩ = some (.int .i64 0) := (blk_cell BK216.out 2).trans rfl; have hcz18_3 : w16.cell? ⟨gb216, 3, none⟩ = some (.int .i64 0) := (blk_cell BK216.out 3).trans rfl; have hcz18_4 : w16.cell? ⟨gb216, 4, none⟩ = some (.int .i64 0) := (blk_cell BK216.out 4).trans rfl; have hcz18_5 : w16.cell? ⟨gb216, 5, none⟩ = some (.int .i64 0) := (blk_cell BK216.out 5).trans rfl; have hfz18_0 := blk_frozen BK216.out 0; have hfz18_1 := blk_frozen BK216.out 1; have hfz18_2 := blk_frozen BK216.out 2; have hfz18_3 := blk_frozen BK216.out 3; have hfz18_4 := blk_frozen BK216.out 4; have hfz18_5 := blk_frozen BK216.out 5) | ((with_reducible refine gate_store (t := 51) (p := 14) rfl ?_); refine store_event (t := 51) (p := 14) (v := ?vo_w19) (w1 := ((((((w16.setCell ⟨gb216, 0, none⟩ (.bool t215)).setCell ⟨gb216, 1, none⟩ (.int .i8 0)).setCell ⟨gb216, 2, none⟩ (.int .i64 0)).setCell ⟨gb216, 3, none⟩ (.int .i64 0)).setCell ⟨gb216, 4, none⟩ (.int .i64 0)).setCell ⟨gb216, 5, none⟩ (.int .i64 0))) ?hg ?ho ?hn ?hr ?_; (case ho => rfl); (case hg => rfl); (case hn => rfl); (case hr => first | (go_simp; done) | (go_simp; rfl)); intro w19 hw; have n0_ : Aside0 (Kd.R k51 51 w19 w.heap.size (fun k_ => k_ ≠ gb216) u8 x8_1) := ⟨(by rw [hw]; exact (by (with_reducible repeat (first | apply Kd.R_alloc | apply Kd.R_drewN | apply Kd.R_drew)); exact Kd.R_mono (Kd.R_far (p := ⟨gb216, 5, none⟩) (Kd.R_far (p := ⟨gb216, 4, none⟩) (Kd.R_far (p := ⟨gb216, 3, none⟩) (Kd.R_far (p := ⟨gb216, 2, none⟩) (Kd.R_far (p := ⟨gb216, 1, none⟩) (Kd.R_far (p := ⟨gb216, 0, none⟩) (Kd.R_mono HO_8.out (fun k_ hk => (⟨hk, hk.2⟩ : _ ∧ k_ ≠ gb216))) (fun _ hk => hk.2) (.bool t215)) (fun _ hk => hk.2) (.int .i8 0)) (fun _ hk => hk.2) (.int .i64 0)) (fun _ hk => hk.2) (.int .i64 0)) (fun _ hk => hk.2) (.int .i64 0)) (fun _ hk => hk.2) (.int .i64 0)) (fun _ hk => hk.1.2)))⟩; have n1_ : Aside0 (w19.heap[gb212]? = some (.cells #[.int .i64 x213000_1, .int .i64 x213001_1, .int .i64 x213002_1, .int .i64 x213003_1] 31 (0, 0))) := ⟨(by rw [hw]; exact (by (with_reducible repeat (first | refine blk_drewN ?_ _ | refine blk_drew ?_ | refine blk_alloc ?_ _)); refine blk_far ?_ NB212_216.out _; (with_reducible repeat (first | refine blk_drewN ?_ _ | refine blk_drew ?_ | refine blk_alloc ?_ _)); refine blk_far ?_ NB212_216.out _; (with_reducible repeat (first | refine blk_drewN ?_ _ | refine blk_drew ?_ | refine blk_alloc ?_ _)); refine blk_far ?_ NB212_216.out _; (with_reducible repeat (first | refine blk_drewN ?_ _ | refine blk_drew ?_ | refine blk_alloc ?_ _)); refine blk_far ?_ NB212_216.out _; (with_reducible repeat (first | refine blk_drewN ?_ _ | refine blk_drew ?_ | refine blk_alloc ?_ _)); refine blk_far ?_ NB212_216.out _; (with_reducible repeat (first | refine blk_drewN ?_ _ | refine blk_drew ?_ | refine blk_alloc ?_ _)); refine blk_far ?_ NB212_216.out _; (with_reducible repeat (first | refine blk_drewN ?_ _ | refine blk_drew ?_ | refine blk_alloc ?_ _)); exact BK212.out))⟩; have n2_ : Aside0 (w19.heap[gb216]? = some (.cells #[.bool t215, .int .i8 0, .int .i64 0, .int .i64 0, .int .i64 0, .int .i64 0] 51 (0, 0))) := ⟨(by rw [hw]; exact (by (with_reducible repeat (first | refine blk_drewN ?_ _ | refine blk_drew ?_ | refine blk_alloc ?_ _)); refine blk_put (cs := #[.bool t215, .int .i8 0, .int .i64 0, .int .i64 0, .int .i64 0, .int .i64 0]) ?_ 5 _ rfl; (with_reducible repeat (first | refine blk_drewN ?_ _ | refine blk_drew ?_ | refine blk_alloc ?_ _)); refine blk_put (cs := #[.bool t215, .int .i8 0, .int .i64 0, .int .i64 0, .int .i64 0, .int .i64 0]) ?_ 4 _ rfl; (with_reducible repeat (first | refine blk_drewN ?_ _ | refine blk_drew ?_ | refine blk_alloc ?_ _)); refine blk_put (cs := #[.bool t215, .int .i8 0, .int .i64 0, .int .i64 0, .int .i64 0, .int .i64 0]) ?_ 3 _ rfl; (with_reducible repeat (first | refine blk_drewN ?_ _ | refine blk_drew ?_ | refine blk_alloc ?_ _)); refine blk_put (cs := #[.bool t215, .int .i8 0, .int .i64 0, .int .i64 0, .int .i64 0, .int .i64 0]) ?_ 2 _ rfl; (with_reducible repeat (first | refine blk_drewN ?_ _ | refine blk_drew ?_ | refine blk_alloc ?_ _)); refine blk_put (cs := #[.bool t215, .int .i8 0, .int .i64 0, .int .i64 0, .int .i64 0, .int .i64 0]) ?_ 1 _ rfl; (with_reducible repeat (first | refine blk_drewN ?_ _ | refine blk_drew ?_ | refine blk_alloc ?_ _)); refine blk_put (cs := #[.bool false, .int .i8 0, .int .i64 0, .int .i64 0, .int .i64 0, .int .i64 0]) ?_ 0 _ rfl; (with_reducible repeat (first | refine blk_drewN ?_ _ | refine blk_drew ?_ | refine blk_alloc ?_ _)); exact BK216.out))⟩; have n3_ : Aside0 (Below w.heap.size w w19) := ⟨(by rw [hw]; exact (by repeat (first | (with_reducible first | exact HB.out | apply below_alloc | apply pw_below_drewN | apply below_drew1 | refine below_set ?_ GE212.out | refine below_set ?_ GE216.out) | exact HB.out)))⟩; clear hw; clear HO_8; clear BK212; clear BK216; clear HB; have HO_8 := n0_; have BK212 := n1_; have BK216 := n2_; have HB := n3_; clear n0_ n1_ n2_ n3_))
     (try simp only [Act.put, sA_, sB_, sC_])
     go_cut [10, 11] (fun v10 v11 wc => ∃ (kq : Nat) (x10_13 : Int) (x11_13 : Int) (x213000_13 : Int) (x213001_13 : Int) (x213002_13 : Int) (x213003_13 : Int) (x217001_13 : Int), v10 = .int .i64 x10_13 ∧ v11 = .int .i64 x11_13 ∧ Aside0 (spec_l03Run.j1 kq l1 a2 x8_1 x10_13 x11_13 x213000_13 x213001_13 x213002_13 x213003_13 t215 x217001_13 0 0 0 0 = some (r1, r2)) ∧ Aside0 (kq ≤ k1) ∧ Aside0 (Kd.R k51 51 wc w.heap.size (fun k_ => k_ ≠ gb216) u8 x8_1) ∧ Aside0 (wc.heap[gb212]? = some (.cells #[.int .i64 x213000_13, .int .i64 x213001_13, .int .i64 x213002_13, .int .i64 x213003_13] 31 (0, 0))) ∧ Aside0 (wc.heap[gb216]? = some (.cells #[.bool t215, .int .i8 x217001_13, .int .i64 0, .int .i64 0, .int .i64 0, .int .i64 0] 51 (0, 0))) ∧ Aside0 (Below w.heap.size w wc))
     case first =>
      have H := HC14.out
      clear HC14
      by_cases c20 : t215 = true
      ·
       subst c20
       have H1 : (spec_l03Run.j1 k1 l1 a2 x8_1 (wrap64 (x10_1 + 1)) x11_1 (wrap64 ((wrap64 (2 * x213000_1)) - (wrap64 (t214 * x213002_1)))) (wrap64 ((wrap64 (2 * x213001_1)) - (wrap64 (t214 * x213003_1)))) x213002_1 x213003_1 true (IntKind.i8.wrap (t214)) 0 0 0 0) = some (r1, r2) := by first | (rw [if_pos rfl] at H; exact H) | rfl
       clear H
       have H := H1
       clear H1
       have H' := Aside0.mk H
       clear H
       have hnb21 := NB212_216.out
       have hnc21 := NB216_212.out
       have hcz22_0 : w19.cell? ⟨gb212, 0, none⟩ = some (.int .i64 x213000_1) := (blk_cell BK212.out 0).trans rfl
       have hcz22_1 : w19.cell? ⟨gb212, 1, none⟩ = some (.int .i64 x213001_1) := (blk_cell BK212.out 1).trans rfl
       have hcz22_2 : w19.cell? ⟨gb212, 2, none⟩ = some (.int .i64 x213002_1) := (blk_cell BK212.out 2).trans rfl
       have hcz22_3 : w19.cell? ⟨gb212, 3, none⟩ = some (.int .i64 x213003_1) := (blk_cell BK212.out 3).trans rfl
       have hfz22_0 := blk_frozen BK212.out 0
       have hfz22_1 := blk_frozen BK212.out 1
       have hfz22_2 := blk_frozen BK212.out 2
       have hfz22_3 := blk_frozen BK212.out 3
       go_wp2_with (first | ((with_reducible refine gate_store (t := 31) (p := 9) rfl ?_); refine store_event (t := 31) (p := 9) (v := ?vo_w23) (w1 := ((((w19.setCell ⟨gb212, 0, none⟩ (.int .i64 (wrap64 ((wrap64 (2 * x213000_1)) - (wrap64 (t214 * x213002_1)))))).setCell ⟨gb212, 1, none⟩ (.int .i64 (wrap64 ((wrap64 (2 * x213001_1)) - (wrap64 (t214 * x213003_1)))))).setCell ⟨gb212, 2, none⟩ (.int .i64 x213002_1)).setCell ⟨gb212, 3, none⟩ (.int .i64 x213003_1))) ?hg ?ho ?hn ?hr ?_; (case ho => rfl); (case hg => rfl); (case hn => rfl); (case hr => first | (go_simp; done) | (go_simp; rfl)); intro w23 hw; have n0_ : Aside0 (Kd.R k51 51 w23 w.heap.size (fun k_ => k_ ≠ gb216) u8 x8_1) := ⟨(by rw [hw]; exact (by (with_reducible repeat (first | apply Kd.R_alloc | apply Kd.R_drewN | apply Kd.R_drew)); exact Kd.R_mono (Kd.R_far (p := ⟨gb212, 3, none⟩) (Kd.R_far (p := ⟨gb212, 2, none⟩) (Kd.R_far (p := ⟨gb212, 1, none⟩) (Kd.R_far (p := ⟨gb212, 0, none⟩) (Kd.R_types HO_8.out BK212.out (by decide)) (fun _ hk => hk.2) (.int .i64 (wrap64 ((wrap64 (2 * x213000_1)) - (wrap64 (t214 * x213002_1)))))) (fun _ hk => hk.2) (.int .i64 (wrap64 ((wrap64 (2 * x213001_1)) - (wrap64 (t214 * x213003_1)))))) (fun _ hk => hk.2) (.int .i64 x213002_1)) (fun _ hk => hk.2) (.int .i64 x213003_1)) (fun _ hk => hk.1)))⟩; have n1_ : Aside0 (w23.heap[gb212]? = some (.cells #[.int .i64 (wrap64 ((wrap64 (2 * x213000_1)) - (wrap64 (t214 * x213002_1)))), .int .i64 (wrap64 ((wrap64 (2 * x213001_1)) - (wrap64 (t214 * x213003_1)))), .int .i64 x213002_1, .int .i64 x213003_1] 31 (0, 0))) := ⟨(by rw [hw]; exact (by (with_reducible repeat (first | refine blk_drewN ?_ _ | refine blk_drew ?_ | refine blk_alloc ?_ _)); refine blk_put (cs := #[.int .i64 (wrap64 ((wrap64 (2 * x213000_1)) - (wrap64 (t214 * x213002_1)))), .int .i64 (wrap64 ((wrap64 (2 * x213001_1)) - (wrap64 (t214 * x213003_1)))), .int .i64 x213002_1, .int .i64 x213003_1]) ?_ 3 _ rfl; (with_reducible repeat (first | refine blk_drewN ?_ _ | refine blk_drew ?_ | refine blk_alloc ?_ _)); refine blk_put (cs := #[.int .i64 (wrap64 ((wrap64 (2 * x213000_1)) - (wrap64 (t214 * x213002_1)))), .int .i64 (wrap64 ((wrap64 (2 * x213001_1)) - (wrap64 (t214 * x213003_1)))), .int .i64 x213002_1, .int .i64 x213003_1]) ?_ 2 _ rfl; (with_reducible repeat (first | refine blk_drewN ?_ _ | refine blk_drew ?_ | refine blk_alloc ?_ _)); refine blk_put (cs := #[.int .i64 (wrap64 ((wrap64 (2 * x213000_1)) - (wrap64 (t214 * x213002_1)))), .int .i64 x213001_1, .int .i64 x213002_1, .int .i64 x213003_1]) ?_ 1 _ rfl; (with_reducible repeat (first | refine blk_drewN ?_ _ | refine blk_drew ?_ | refine blk_alloc ?_ _)); refine blk_put (cs := #[.int .i64 x213000_1, .int .i64 x213001_1, .int .i64 x213002_1, .int .i64 x213003_1]) ?_ 0 _ rfl; (with_reducible repeat (first | refine blk_drewN ?_ _ | refine blk_drew ?_ | refine blk_alloc ?_ _)); exact BK212.out))⟩; have n2_ : Aside0 (w23.heap[gb216]? = some (.cells #[.bool true, .int .i8 0, .int .i64 0, .int .i64 0, .int .i64 0, .int .i64 0] 51 (0, 0))) := ⟨(by rw [hw]; exact (by (with_reducible repeat (first | refine blk_drewN ?_ _ | refine blk_drew ?_ | refine blk_alloc ?_ _)); refine blk_far ?_ NB216_212.out _; (with_reducible repeat (first | refine blk_drewN ?_ _ | refine blk_drew ?_ | refine blk_alloc ?_ _)); refine blk_far ?_ NB216_212.out _; (with_reducible repeat (first | refine blk_drewN ?_ _ | refine blk_drew ?_ | refine blk_alloc ?_ _)); refine blk_far ?_ NB216_212.out _; (with_reducible repeat (first | refine blk_drewN ?_ _ | refine blk_drew ?_ | refine blk_alloc ?_ _)); refine blk_far ?_ NB216_212.out _; (with_reducible repeat (first | refine blk_drewN ?_ _ | refine blk_drew ?_ | refine blk_alloc ?_ _)); exact BK216.out))⟩; have n3_ : Aside0 (Below w.heap.size w w23) := ⟨(by rw [hw]; exact (by repeat (first | (with_reducible first | exact HB.out | apply below_alloc | apply pw_below_drewN | apply below_drew1 | refine below_set ?_ GE212.out | refine below_set ?_ GE216.out) | exact HB.out)))⟩; clear hw; clear HO_8; clear BK212; clear BK216; clear HB; have HO_8 := n0_; have BK212 := n1_; have BK216 := n2_; have HB := n3_; clear n0_ n1_ n2_ n3_; have hcz24_0 : w23.cell? ⟨gb216, 0, none⟩ = some (.bool true) := (blk_cell BK216.out 0).trans rfl; have hcz24_1 : w23.cell? ⟨gb216, 1, none⟩ = some (.int .i8 0) := (blk_cell BK216.out 1).trans rfl; have hcz24_2 : w23.cell? ⟨gb216, 2, none⟩ = some (.int .i64 0) := (blk_cell BK216.out 2).trans rfl; have hcz24_3 : w23.cell? ⟨gb216, 3, none⟩ = some (.int .i64 0) := (blk_cell BK216.out 3).trans rfl; have hcz24_4 : w23.cell? ⟨gb216, 4, none⟩ = some (.int .i64 0) := (blk_cell BK216.out 4).trans rfl; have hcz24_5 : w23.cell? ⟨gb216, 5, none⟩ = some (.int .i64 0) := (blk_cell BK216.out 5).trans rfl; have hfz24_0 := blk_frozen BK216.out 0; have hfz24_1 := blk_frozen BK216.out 1; have hfz24_2 := blk_frozen BK216.out 2; have hfz24_3 := blk_frozen BK216.out 3; have hfz24_4 := blk_frozen BK216.out 4; have hfz24_5 := blk_frozen BK216.out 5))
       go_meet
       case rel => exact ⟨_, (wrap64 (x10_1 + 1)), (x11_1), (wrap64 ((wrap64 (2 * x213000_1)) - (wrap64 (t214 * x213002_1)))), (wrap64 ((wrap64 (2 * x213001_1)) - (wrap64 (t214 * x213003_1)))), (x213002_1), (x213003_1), (IntKind.i8.wrap (t214)), (by first | rfl | (simp; done) | (simp [*]; done) | (simp [isE_]; done)), (by first | rfl | (simp; done) | (simp [*]; done) | (simp [isE_]; done)), H', ⟨by have := HK1.out; first | omega | exact Nat.le_refl _⟩, ⟨by (with_reducible repeat (first | apply Kd.R_alloc | apply Kd.R_drewN | apply Kd.R_drew)); exact Kd.R_mono (Kd.R_far (p := ⟨gb216, 1, none⟩) (Kd.R_mono HO_8.out (fun k_ hk => (⟨hk, hk⟩ : _ ∧ k_ ≠ gb216))) (fun _ hk => hk.2) (.int .i8 (IntKind.i8.wrap (t214)))) (fun _ hk => hk.1)⟩, ⟨by (with_reducible repeat (first | refine blk_drewN ?_ _ | refine blk_drew ?_ | refine blk_alloc ?_ _)); refine blk_far ?_ NB212_216.out _; (with_reducible repeat (first | refine blk_drewN ?_ _ | refine blk_drew ?_ | refine blk_alloc ?_ _)); exact BK212.out⟩, ⟨by (with_reducible repeat (first | refine blk_drewN ?_ _ | refine blk_drew ?_ | refine blk_alloc ?_ _)); refine blk_put (cs := #[.bool true, .int .i8 0, .int .i64 0, .int .i64 0, .int .i64 0, .int .i64 0]) ?_ 1 _ rfl; (with_reducible repeat (first | refine blk_drewN ?_ _ | refine blk_drew ?_ | refine blk_alloc ?_ _)); exact BK216.out⟩, ⟨by repeat (first | (with_reducible first | exact HB.out | apply below_alloc | apply pw_below_drewN | apply below_drew1 | refine below_set ?_ GE212.out | refine below_set ?_ GE216.out) | exact HB.out)⟩⟩
      ·
       replace c20 := Bool.eq_false_iff.mpr c20
       subst c20
       have H1 : (if x11_1 = 400 then (some ((([] : List (S51))), 7)) else ((spec_l03At.f l1 x11_1).bind fun t220 => (spec_l03Run.j1 k1 l1 a2 x8_1 x10_1 (wrap64 (x11_1 + 1)) x213000_1 (wrap64 ((wrap64 (x213000_1 * (wrap64 (t220)))) + (wrap64 (2 * x213001_1)))) x213002_1 (wrap64 ((wrap64 (x213002_1 * (wrap64 (t220)))) + (wrap64 (2 * x213003_1)))) false t220 0 0 0 0))) = some (r1, r2) := by first | (rw [if_neg (show ¬ (false = true) by decide)] at H; exact H) | rfl
       clear H
       have H := H1
       clear H1
       by_cases c25 : x11_1 = 400
       ·
        rw [if_pos c25] at H
        have c25b0 : (x11_1 == 400) = true := beq_iff_eq.mpr c25
        have c25b1 : (x11_1 != 400) = false := bne_eq_false_iff_eq.mpr c25
        clear c25
        (first | rw [c25b0] | (simp only [i64_w, i32_w]; rw [c25b0]) | skip)
        obtain ⟨y217, hy217⟩ : ∃ y_ : List (S51), y_ = (([] : List (S51))) := ⟨_, rfl⟩
        replace H : (some (y217, 7)) = some (r1, r2) := by first | (rw [hy217]; with_reducible exact H) | (have H2_ := (Option.bind_some _ _).symm.trans H; rw [hy217]; with_reducible exact H2_) | (have H2_ := (Option.bind_some _ _).symm.trans H; with_reducible exact H2_) | with_reducible exact H | (rw [hy217]; exact H) | exact H
        have Ny217 := Aside0.mk hy217
        clear hy217
        simp only [Option.some.injEq, Prod.mk.injEq] at H
        obtain ⟨rfl, rfl⟩ := H
        go_wp2_with (first | ((with_reducible refine gate_dst (N := 59) rfl ?_); refine Kd.R_lit k51 _ 51 ?hg (N := 59) ?hd (xs := ([] : List (S51))) (inner := []) (ok := fun _ => True) (okp := fun _ => True) ?hr ?hp (fun _ hk => hk) trivial (Below.refl _ _) (Nat.le_refl _) (by simp) ?_; (case hd => rfl); (case hg => rfl); (case hr => first | (go_simp; done) | (go_simp; rfl)); (case hp => exact (Reps.none _ _)); intro v218 w26 ho27 hb hg_ hnew_; clear hg_ hnew_; (first | rw [← Ny217.out] at ho27 | (simp only [Int.reduceToNat] at ho27; rw [← Ny217.out] at ho27)); have n0_ := Aside0.mk (Kd.R_elder' (by (with_reducible repeat (first | apply Kd.R_alloc | apply Kd.R_drewN | apply Kd.R_drew)); exact HO_8.out) (Kd.R_base ho27) hb); have n1_ := Aside0.mk (Kd.R_lower (Kd.R_newB (Kd.R_new' ho27 (Kd.R_lt (by (with_reducible repeat (first | apply Kd.R_alloc | apply Kd.R_drewN | apply Kd.R_drew)); exact HO_8.out))) (g := gb216) (o := .cells #[.bool false, .int .i8 0, .int .i64 0, .int .i64 0, .int .i64 0, .int .i64 0] 51 (0, 0)) (by (with_reducible repeat (first | refine blk_drewN ?_ _ | refine blk_drew ?_ | refine blk_alloc ?_ _)); exact BK216.out)) (below_size (by repeat (first | (with_reducible first | exact HB.out | apply below_alloc | apply pw_below_drewN | apply below_drew1 | refine below_set ?_ GE212.out | refine below_set ?_ GE216.out) | exact HB.out)))); have n2_ := Aside0.mk (blk_below (g := gb212) (o := .cells #[.int .i64 x213000_1, .int .i64 x213001_1, .int .i64 x213002_1, .int .i64 x213003_1] 31 (0, 0)) (by (with_reducible repeat (first | refine blk_drewN ?_ _ | refine blk_drew ?_ | refine blk_alloc ?_ _)); exact BK212.out) hb); have n3_ := Aside0.mk (blk_below (g := gb216) (o := .cells #[.bool false, .int .i8 0, .int .i64 0, .int .i64 0, .int .i64 0, .int .i64 0] 51 (0, 0)) (by (with_reducible repeat (first | refine blk_drewN ?_ _ | refine blk_drew ?_ | refine blk_alloc ?_ _)); exact BK216.out) hb); have n4_ := Aside0.mk (below_step (by repeat (first | (with_reducible first | exact HB.out | apply below_alloc | apply pw_below_drewN | apply below_drew1 | refine below_set ?_ GE212.out | refine below_set ?_ GE216.out) | exact HB.out)) hb); clear HO_8; clear BK212; clear BK216; clear HB; have HO_8 := n0_; have HO219 := n1_; have BK212 := n2_; have BK216 := n3_; have HB := n4_; clear n0_ n1_ n2_ n3_ n4_; clear hb ho27))
        go_ret2
        exact ⟨_, by first | rfl | (simp [errW_none, errW_some] <;> rfl) | (simp [*, errW_none, errW_some] <;> rfl), by (with_reducible repeat (first | apply Kd.R_alloc | apply Kd.R_drewN | apply Kd.R_drew)); exact Kd.R_mono HO219.out (fun _ hk => trivial), by repeat (first | (with_reducible first | exact HB.out | apply below_alloc | apply pw_below_drewN | apply below_drew1 | refine below_set ?_ GE212.out | refine below_set ?_ GE216.out) | exact HB.out)⟩
       ·
        rw [if_neg c25] at H
        have c25b0 : (x11_1 == 400) = false := beq_eq_false_iff_ne.mpr c25
        have c25b1 : (x11_1 != 400) = true := bne_iff_ne.mpr c25
        (first | rw [c25b0] | (simp only [i64_w, i32_w]; rw [c25b0]) | skip)
        replace H := Option.bind_eq_some_iff.mp H
        obtain ⟨t220, A280, H⟩ := H
        replace H : (spec_l03Run.j1 k1 l1 a2 x8_1 x10_1 (wrap64 (x11_1 + 1)) x213000_1 (wrap64 ((wrap64 (x213000_1 * (wrap64 (t220)))) + (wrap64 (2 * x213001_1)))) x213002_1 (wrap64 ((wrap64 (x213002_1 * (wrap64 (t220)))) + (wrap64 (2 * x213003_1)))) false t220 0 0 0 0) = some (r1, r2) := H
        have A28 := Aside0.mk A280
        clear A280
        have H' := Aside0.mk H
        clear H
        go_wp2_with (first | ((with_reducible refine gate_callee (f := 73) rfl ?_); refine goesL_ (some 62) rfl rfl Try.func73 (by kernel_rfl) rfl #[.pointer A1, .int .i64 x11_1] rfl (by (try simp only [List.map_toArray, List.map_cons, List.map_nil]); first | done | rfl | (simp only [List.length_drop, List.length_take]; rfl)) ?_; (with_reducible refine (spec_l03At.calls _ (l1).length l1 x11_1 t220 _ ?side1 ?side2 A28.out).mono ?_); (case side1 => repeat (first | exact (Kd.C_below HR1.out HB.out) | (with_reducible refine Kd.C_alloc ?_ _) | (with_reducible refine Kd.C_drewN ?_ _) | (with_reducible refine Kd.C_drew ?_))); (case side2 => exact Nat.le_refl _); rintro e w' ⟨rfl, ⟨nd, rfl⟩⟩; refine ⟨_, rfl, ?_⟩; (try (rw [drewN_self w19]; generalize hq_ : World.drewN w19 _ = w19; have n0_ : Aside0 (Kd.R k51 51 w19 w.heap.size (fun k_ => k_ ≠ gb216) u8 x8_1) := ⟨by rw [← hq_]; exact (by (with_reducible repeat (first | apply Kd.R_alloc | apply Kd.R_drewN | apply Kd.R_drew)); exact HO_8.out)⟩; have n1_ : Aside0 (w19.heap[gb212]? = some (.cells #[.int .i64 x213000_1, .int .i64 x213001_1, .int .i64 x213002_1, .int .i64 x213003_1] 31 (0, 0))) := ⟨by rw [← hq_]; exact (by (with_reducible repeat (first | refine blk_drewN ?_ _ | refine blk_drew ?_ | refine blk_alloc ?_ _)); exact BK212.out)⟩; have n2_ : Aside0 (w19.heap[gb216]? = some (.cells #[.bool false, .int .i8 0, .int .i64 0, .int .i64 0, .int .i64 0, .int .i64 0] 51 (0, 0))) := ⟨by rw [← hq_]; exact (by (with_reducible repeat (first | refine blk_drewN ?_ _ | refine blk_drew ?_ | refine blk_alloc ?_ _)); exact BK216.out)⟩; have n3_ : Aside0 (Below w.heap.size w w19) := ⟨by rw [← hq_]; exact (by repeat (first | (with_reducible first | exact HB.out | apply below_alloc | apply pw_below_drewN | apply below_drew1 | refine below_set ?_ GE212.out | refine below_set ?_ GE216.out) | exact HB.out))⟩; clear HO_8 BK212 BK216 HB hq_; have HO_8 := n0_; have BK212 := n1_; have BK216 := n2_; have HB := n3_; clear n0_ n1_ n2_ n3_)); have hnb29 := NB216_212.out; have hnc29 := NB212_216.out; have hcz30_0 : w19.cell? ⟨gb216, 0, none⟩ = some (.bool false) := (blk_cell BK216.out 0).trans rfl; have hcz30_1 : w19.cell? ⟨gb216, 1, none⟩ = some (.int .i8 0) := (blk_cell BK216.out 1).trans rfl; have hcz30_2 : w19.cell? ⟨gb216, 2, none⟩ = some (.int .i64 0) := (blk_cell BK216.out 2).trans rfl; have hcz30_3 : w19.cell? ⟨gb216, 3, none⟩ = some (.int .i64 0) := (blk_cell BK216.out 3).trans rfl; have hcz30_4 : w19.cell? ⟨gb216, 4, none⟩ = some (.int .i64 0) := (blk_cell BK216.out 4).trans rfl; have hcz30_5 : w19.cell? ⟨gb216, 5, none⟩ = some (.int .i64 0) := (blk_cell BK216.out 5).trans rfl; have hfz30_0 := blk_frozen BK216.out 0; have hfz30_1 := blk_frozen BK216.out 1; have hfz30_2 := blk_frozen BK216.out 2; have hfz30_3 := blk_frozen BK216.out 3; have hfz30_4 := blk_frozen BK216.out 4; have hfz30_5 := blk_frozen BK216.out 5; have hcz31_0 : w19.cell? ⟨gb212, 0, none⟩ = some (.int .i64 x213000_1) := (blk_cell BK212.out 0).trans rfl; have hcz31_1 : w19.cell? ⟨gb212, 1, none⟩ = some (.int .i64 x213001_1) := (blk_cell BK212.out 1).trans rfl; have hcz31_2 : w19.cell? ⟨gb212, 2, none⟩ = some (.int .i64 x213002_1) := (blk_cell BK212.out 2).trans rfl; have hcz31_3 : w19.cell? ⟨gb212, 3, none⟩ = some (.int .i64 x213003_1) := (blk_cell BK212.out 3).trans rfl; have hfz31_0 := blk_frozen BK212.out 0; have hfz31_1 := blk_frozen BK212.out 1; have hfz31_2 := blk_frozen BK212.out 2; have hfz31_3 := blk_frozen BK212.out 3) | ((with_reducible refine gate_store (t := 31) (p := 9) rfl ?_); refine store_event (t := 31) (p := 9) (v := ?vo_w32) (w1 := (((((w19.setCell ⟨gb216, 1, none⟩ (.int .i8 t220)).setCell ⟨gb212, 0, none⟩ (.int .i64 x213000_1)).setCell ⟨gb212, 1, none⟩ (.int .i64 (wrap64 ((wrap64 (x213000_1 * (wrap64 (t220)))) + (wrap64 (2 * x213001_1)))))).setCell ⟨gb212, 2, none⟩ (.int .i64 x213002_1)).setCell ⟨gb212, 3, none⟩ (.int .i64 (wrap64 ((wrap64 (x213002_1 * (wrap64 (t220)))) + (wrap64 (2 * x213003_1))))))) ?hg ?ho ?hn ?hr ?_; (case ho => rfl); (case hg => rfl); (case hn => rfl); (case hr => first | (go_simp; done) | (go_simp; rfl)); intro w32 hw; have n0_ : Aside0 (Kd.R k51 51 w32 w.heap.size (fun k_ => k_ ≠ gb216) u8 x8_1) := ⟨(by rw [hw]; exact (by (with_reducible repeat (first | apply Kd.R_alloc | apply Kd.R_drewN | apply Kd.R_drew)); exact Kd.R_mono (Kd.R_far (p := ⟨gb212, 3, none⟩) (Kd.R_far (p := ⟨gb212, 2, none⟩) (Kd.R_far (p := ⟨gb212, 1, none⟩) (Kd.R_far (p := ⟨gb212, 0, none⟩) (Kd.R_far (p := ⟨gb216, 1, none⟩) (Kd.R_types (Kd.R_mono HO_8.out (fun k_ hk => (⟨hk, hk⟩ : _ ∧ k_ ≠ gb216))) BK212.out (by decide)) (fun _ hk => hk.1.2) (.int .i8 t220)) (fun _ hk => hk.2) (.int .i64 x213000_1)) (fun _ hk => hk.2) (.int .i64 (wrap64 ((wrap64 (x213000_1 * (wrap64 (t220)))) + (wrap64 (2 * x213001_1)))))) (fun _ hk => hk.2) (.int .i64 x213002_1)) (fun _ hk => hk.2) (.int .i64 (wrap64 ((wrap64 (x213002_1 * (wrap64 (t220)))) + (wrap64 (2 * x213003_1)))))) (fun _ hk => hk.1.1)))⟩; have n1_ : Aside0 (w32.heap[gb212]? = some (.cells #[.int .i64 x213000_1, .int .i64 (wrap64 ((wrap64 (x213000_1 * (wrap64 (t220)))) + (wrap64 (2 * x213001_1)))), .int .i64 x213002_1, .int .i64 (wrap64 ((wrap64 (x213002_1 * (wrap64 (t220)))) + (wrap64 (2 * x213003_1))))] 31 (0, 0))) := ⟨(by rw [hw]; exact (by (with_reducible repeat (first | refine blk_drewN ?_ _ | refine blk_drew ?_ | refine blk_alloc ?_ _)); refine blk_put (cs := #[.int .i64 x213000_1, .int .i64 (wrap64 ((wrap64 (x213000_1 * (wrap64 (t220)))) + (wrap64 (2 * x213001_1)))), .int .i64 x213002_1, .int .i64 x213003_1]) ?_ 3 _ rfl; (with_reducible repeat (first | refine blk_drewN ?_ _ | refine blk_drew ?_ | refine blk_alloc ?_ _)); refine blk_put (cs := #[.int .i64 x213000_1, .int .i64 (wrap64 ((wrap64 (x213000_1 * (wrap64 (t220)))) + (wrap64 (2 * x213001_1)))), .int .i64 x213002_1, .int .i64 x213003_1]) ?_ 2 _ rfl; (with_reducible repeat (first | refine blk_drewN ?_ _ | refine blk_drew ?_ | refine blk_alloc ?_ _)); refine blk_put (cs := #[.int .i64 x213000_1, .int .i64 x213001_1, .int .i64 x213002_1, .int .i64 x213003_1]) ?_ 1 _ rfl; (with_reducible repeat (first | refine blk_drewN ?_ _ | refine blk_drew ?_ | refine blk_alloc ?_ _)); refine blk_put (cs := #[.int .i64 x213000_1, .int .i64 x213001_1, .int .i64 x213002_1, .int .i64 x213003_1]) ?_ 0 _ rfl; (with_reducible repeat (first | refine blk_drewN ?_ _ | refine blk_drew ?_ | refine blk_alloc ?_ _)); refine blk_far ?_ NB212_216.out _; (with_reducible repeat (first | refine blk_drewN ?_ _ | refine blk_drew ?_ | refine blk_alloc ?_ _)); exact BK212.out))⟩; have n2_ : Aside0 (w32.heap[gb216]? = some (.cells #[.bool false, .int .i8 t220, .int .i64 0, .int .i64 0, .int .i64 0, .int .i64 0] 51 (0, 0))) := ⟨(by rw [hw]; exact (by (with_reducible repeat (first | refine blk_drewN ?_ _ | refine blk_drew ?_ | refine blk_alloc ?_ _)); refine blk_far ?_ NB216_212.out _; (with_reducible repeat (first | refine blk_drewN ?_ _ | refine blk_drew ?_ | refine blk_alloc ?_ _)); refine blk_far ?_ NB216_212.out _; (with_reducible repeat (first | refine blk_drewN ?_ _ | refine blk_drew ?_ | refine blk_alloc ?_ _)); refine blk_far ?_ NB216_212.out _; (with_reducible repeat (first | refine blk_drewN ?_ _ | refine blk_drew ?_ | refine blk_alloc ?_ _)); refine blk_far ?_ NB216_212.out _; (with_reducible repeat (first | refine blk_drewN ?_ _ | refine blk_drew ?_ | refine blk_alloc ?_ _)); refine blk_put (cs := #[.bool false, .int .i8 0, .int .i64 0, .int .i64 0, .int .i64 0, .int .i64 0]) ?_ 1 _ rfl; (with_reducible repeat (first | refine blk_drewN ?_ _ | refine blk_drew ?_ | refine blk_alloc ?_ _)); exact BK216.out))⟩; have n3_ : Aside0 (Below w.heap.size w w32) := ⟨(by rw [hw]; exact (by repeat (first | (with_reducible first | exact HB.out | apply below_alloc | apply pw_below_drewN | apply below_drew1 | refine below_set ?_ GE212.out | refine below_set ?_ GE216.out) | exact HB.out)))⟩; clear hw; clear HO_8; clear BK212; clear BK216; clear HB; have HO_8 := n0_; have BK212 := n1_; have BK216 := n2_; have HB := n3_; clear n0_ n1_ n2_ n3_))
        go_meet
        case rel => exact ⟨_, (x10_1), (wrap64 (x11_1 + 1)), (x213000_1), (wrap64 ((wrap64 (x213000_1 * (wrap64 (t220)))) + (wrap64 (2 * x213001_1)))), (x213002_1), (wrap64 ((wrap64 (x213002_1 * (wrap64 (t220)))) + (wrap64 (2 * x213003_1)))), (t220), (by first | rfl | (simp; done) | (simp [*]; done) | (simp [isE_]; done)), (by first | rfl | (simp; done) | (simp [*]; done) | (simp [isE_]; done)), H', ⟨by have := HK1.out; first | omega | exact Nat.le_refl _⟩, ⟨by (with_reducible repeat (first | apply Kd.R_alloc | apply Kd.R_drewN | apply Kd.R_drew)); exact HO_8.out⟩, ⟨by (with_reducible repeat (first | refine blk_drewN ?_ _ | refine blk_drew ?_ | refine blk_alloc ?_ _)); exact BK212.out⟩, ⟨by (with_reducible repeat (first | refine blk_drewN ?_ _ | refine blk_drew ?_ | refine blk_alloc ?_ _)); exact BK216.out⟩, ⟨by repeat (first | (with_reducible first | exact HB.out | apply below_alloc | apply pw_below_drewN | apply below_drew1 | refine below_set ?_ GE212.out | refine below_set ?_ GE216.out) | exact HB.out)⟩⟩
     case rest =>
      clear HC14
      try clear c1
      try clear c2
      try clear p2
      try clear q2
      try clear hx2
      try clear c4
      try clear c4b0
      try clear c4b1
      try clear c6
      try clear p6
      try clear c7
      try clear c12
      try clear c12b0
      try clear c17
      try clear c20
      try clear q20
      try clear hx20
      try clear c21
      try clear c25
      try clear c25b0
      try clear c25b1
      try clear c29
      try clear hcz10_0
      try clear hcz10_1
      try clear hcz10_2
      try clear hcz10_3
      try clear hcz18_0
      try clear hcz18_1
      try clear hcz18_2
      try clear hcz18_3
      try clear hcz18_4
      try clear hcz18_5
      try clear hcz22_0
      try clear hcz22_1
      try clear hcz22_2
      try clear hcz22_3
      try clear hcz24_0
      try clear hcz24_1
      try clear hcz24_2
      try clear hcz24_3
      try clear hcz24_4
      try clear hcz24_5
      try clear hcz30_0
      try clear hcz30_1
      try clear hcz30_2
      try clear hcz30_3
      try clear hcz30_4
      try clear hcz30_5
      try clear hcz31_0
      try clear hcz31_1
      try clear hcz31_2
      try clear hcz31_3
      try clear hfz10_0
      try clear hfz10_1
      try clear hfz10_2
      try clear hfz10_3
      try clear hfz18_0
      try clear hfz18_1
      try clear hfz18_2
      try clear hfz18_3
      try clear hfz18_4
      try clear hfz18_5
      try clear hfz22_0
      try clear hfz22_1
      try clear hfz22_2
      try clear hfz22_3
      try clear hfz24_0
      try clear hfz24_1
      try clear hfz24_2
      try clear hfz24_3
      try clear hfz24_4
      try clear hfz24_5
      try clear hfz30_0
      try clear hfz30_1
      try clear hfz30_2
      try clear hfz30_3
      try clear hfz30_4
      try clear hfz30_5
      try clear hfz31_0
      try clear hfz31_1
      try clear hfz31_2
      try clear hfz31_3
      try clear hx207_0
      try clear hx207_1
      try clear hx207_2
      try clear hx207_3
      try clear p2
      try clear q2
      try clear q207
      obtain ⟨kq, x10_13, x11_13, x213000_13, x213001_13, x213002_13, x213003_13, x217001_13, rfl, rfl, HA, HJ13, HO_8, BK212, BK216, HB⟩ := hcut
      cases kq with
      | zero => exact absurd HA.out (by simp [spec_l03Run.j1])
      | succ kj13 =>
       have H := HA.out
       clear HA
       simp only [spec_l03Run.j1] at H
       replace H := Option.bind_eq_some_iff.mp H
       obtain ⟨⟨t221, t222, t223, t224⟩, A330, H⟩ := H
       replace H : ((spec_l03Fits.f [(⟨t221, t222, t223, t224⟩ : S31)] 288230376151711744).bind fun t226 => (if t226 = true then (if x8_1.length < 3518437208883 then (spec_l03Run.l0 kj13 l1 a2 (x8_1 ++ [(⟨t215, x217001_13, (⟨t221, t222, t223, t224⟩ : S31)⟩ : S51)]) x10_13 x11_13 t221 t222 t223 t224) else (none)) else (some ((([] : List (S51))), 3)))) = some (r1, r2) := H
       have A33 := Aside0.mk A330
       clear A330
       replace H := Option.bind_eq_some_iff.mp H
       obtain ⟨t226, A340, H⟩ := H
       replace H : (if t226 = true then (if x8_1.length < 3518437208883 then (spec_l03Run.l0 kj13 l1 a2 (x8_1 ++ [(⟨t215, x217001_13, (⟨t221, t222, t223, t224⟩ : S31)⟩ : S51)]) x10_13 x11_13 t221 t222 t223 t224) else (none)) else (some ((([] : List (S51))), 3))) = some (r1, r2) := H
       have A34 := Aside0.mk A340
       clear A340
       by_cases c35 : t226 = true
       ·
        subst c35
        have H1 : (if x8_1.length < 3518437208883 then (spec_l03Run.l0 kj13 l1 a2 (x8_1 ++ [(⟨t215, x217001_13, (⟨t221, t222, t223, t224⟩ : S31)⟩ : S51)]) x10_13 x11_13 t221 t222 t223 t224) else (none)) = some (r1, r2) := by first | (rw [if_pos rfl] at H; exact H) | rfl
        clear H
        have H := H1
        clear H1
        by_cases c36 : x8_1.length < 3518437208883
        ·
         rw [if_pos c36] at H
         have LMc36 := Aside0.mk c36
         clear c36
         obtain ⟨y227, hy227⟩ : ∃ y_ : List (S51), y_ = (x8_1 ++ [(⟨t215, x217001_13, (⟨t221, t222, t223, t224⟩ : S31)⟩ : S51)]) := ⟨_, rfl⟩
         replace H : (spec_l03Run.l0 kj13 l1 a2 y227 x10_13 x11_13 t221 t222 t223 t224) = some (r1, r2) := by first | (rw [hy227]; with_reducible exact H) | (have H2_ := (Option.bind_some _ _).symm.trans H; rw [hy227]; with_reducible exact H2_) | (have H2_ := (Option.bind_some _ _).symm.trans H; with_reducible exact H2_) | with_reducible exact H | (rw [hy227]; exact H) | exact H
         have Ny227 := Aside0.mk hy227
         clear hy227
         have H' := Aside0.mk H
         clear H
         have hnb37 := NB212_216.out
         have hnc37 := NB216_212.out
         have hcz38_0 : wc.cell? ⟨gb212, 0, none⟩ = some (.int .i64 x213000_13) := (blk_cell BK212.out 0).trans rfl
         have hcz38_1 : wc.cell? ⟨gb212, 1, none⟩ = some (.int .i64 x213001_13) := (blk_cell BK212.out 1).trans rfl
         have hcz38_2 : wc.cell? ⟨gb212, 2, none⟩ = some (.int .i64 x213002_13) := (blk_cell BK212.out 2).trans rfl
         have hcz38_3 : wc.cell? ⟨gb212, 3, none⟩ = some (.int .i64 x213003_13) := (blk_cell BK212.out 3).trans rfl
         have hfz38_0 := blk_frozen BK212.out 0
         have hfz38_1 := blk_frozen BK212.out 1
         have hfz38_2 := blk_frozen BK212.out 2
         have hfz38_3 := blk_frozen BK212.out 3
         go_wp2_with (first | ((with_reducible refine gate_callee (f := 68) rfl ?_); refine goesL_ (some 91) rfl rfl Try.func68 (by kernel_rfl) rfl #[.agg #[.int .i64 x213000_13, .int .i64 x213001_13, .int .i64 x213002_13, .int .i64 x213003_13]] rfl (by (try simp only [List.map_toArray, List.map_cons, List.map_nil]); first | done | rfl | (simp only [List.length_drop, List.length_take]; rfl)) ?_; (with_reducible refine (spec_l03Less.calls kj13 x213000_13 x213001_13 x213002_13 x213003_13 t221 t222 t223 t224 _ A33.out).mono ?_); rintro e w39 ⟨rfl, hb⟩; refine ⟨_, rfl, ?_⟩; have n0_ := Aside0.mk (Kd.R_below (by (with_reducible repeat (first | apply Kd.R_alloc | apply Kd.R_drewN | apply Kd.R_drew)); exact HO_8.out) hb); have n1_ := Aside0.mk (blk_below (g := gb212) (o := .cells #[.int .i64 x213000_13, .int .i64 x213001_13, .int .i64 x213002_13, .int .i64 x213003_13] 31 (0, 0)) (by (with_reducible repeat (first | refine blk_drewN ?_ _ | refine blk_drew ?_ | refine blk_alloc ?_ _)); exact BK212.out) hb); have n2_ := Aside0.mk (blk_below (g := gb216) (o := .cells #[.bool t215, .int .i8 x217001_13, .int .i64 0, .int .i64 0, .int .i64 0, .int .i64 0] 51 (0, 0)) (by (with_reducible repeat (first | refine blk_drewN ?_ _ | refine blk_drew ?_ | refine blk_alloc ?_ _)); exact BK216.out) hb); have n3_ := Aside0.mk (below_step (by repeat (first | (with_reducible first | exact HB.out | apply below_alloc | apply pw_below_drewN | apply below_drew1 | refine below_set ?_ GE212.out | refine below_set ?_ GE216.out) | exact HB.out)) hb); clear HO_8; clear BK212; clear BK216; clear HB; have HO_8 := n0_; have BK212 := n1_; have BK216 := n2_; have HB := n3_; clear n0_ n1_ n2_ n3_; (try clear hb); (try clear hb2); (try clear hk); (try clear hi); have hcz40_0 : w39.cell? ⟨gb212, 0, none⟩ = some (.int .i64 x213000_13) := (blk_cell BK212.out 0).trans rfl; have hcz40_1 : w39.cell? ⟨gb212, 1, none⟩ = some (.int .i64 x213001_13) := (blk_cell BK212.out 1).trans rfl; have hcz40_2 : w39.cell? ⟨gb212, 2, none⟩ = some (.int .i64 x213002_13) := (blk_cell BK212.out 2).trans rfl; have hcz40_3 : w39.cell? ⟨gb212, 3, none⟩ = some (.int .i64 x213003_13) := (blk_cell BK212.out 3).trans rfl; have hfz40_0 := blk_frozen BK212.out 0; have hfz40_1 := blk_frozen BK212.out 1; have hfz40_2 := blk_frozen BK212.out 2; have hfz40_3 := blk_frozen BK212.out 3) | ((with_reducible refine gate_store (t := 31) (p := 9) rfl ?_); refine store_event (t := 31) (p := 9) (v := ?vo_w41) (w1 := ((((w39.setCell ⟨gb212, 0, none⟩ (.int .i64 t221)).setCell ⟨gb212, 1, none⟩ (.int .i64 t222)).setCell ⟨gb212, 2, none⟩ (.int .i64 t223)).setCell ⟨gb212, 3, none⟩ (.int .i64 t224))) ?hg ?ho ?hn ?hr ?_; (case ho => rfl); (case hg => rfl); (case hn => rfl); (case hr => first | (go_simp; done) | (go_simp; rfl)); intro w41 hw; have n0_ : Aside0 (Kd.R k51 51 w41 w.heap.size (fun k_ => k_ ≠ gb216) u8 x8_1) := ⟨(by rw [hw]; exact (by (with_reducible repeat (first | apply Kd.R_alloc | apply Kd.R_drewN | apply Kd.R_drew)); exact Kd.R_mono (Kd.R_far (p := ⟨gb212, 3, none⟩) (Kd.R_far (p := ⟨gb212, 2, none⟩) (Kd.R_far (p := ⟨gb212, 1, none⟩) (Kd.R_far (p := ⟨gb212, 0, none⟩) (Kd.R_types HO_8.out BK212.out (by decide)) (fun _ hk => hk.2) (.int .i64 t221)) (fun _ hk => hk.2) (.int .i64 t222)) (fun _ hk => hk.2) (.int .i64 t223)) (fun _ hk => hk.2) (.int .i64 t224)) (fun _ hk => hk.1)))⟩; have n1_ : Aside0 (w41.heap[gb212]? = some (.cells #[.int .i64 t221, .int .i64 t222, .int .i64 t223, .int .i64 t224] 31 (0, 0))) := ⟨(by rw [hw]; exact (by (with_reducible repeat (first | refine blk_drewN ?_ _ | refine blk_drew ?_ | refine blk_alloc ?_ _)); refine blk_put (cs := #[.int .i64 t221, .int .i64 t222, .int .i64 t223, .int .i64 x213003_13]) ?_ 3 _ rfl; (with_reducible repeat (first | refine blk_drewN ?_ _ | refine blk_drew ?_ | refine blk_alloc ?_ _)); refine blk_put (cs := #[.int .i64 t221, .int .i64 t222, .int .i64 x213002_13, .int .i64 x213003_13]) ?_ 2 _ rfl; (with_reducible repeat (first | refine blk_drewN ?_ _ | refine blk_drew ?_ | refine blk_alloc ?_ _)); refine blk_put (cs := #[.int .i64 t221, .int .i64 x213001_13, .int .i64 x213002_13, .int .i64 x213003_13]) ?_ 1 _ rfl; (with_reducible repeat (first | refine blk_drewN ?_ _ | refine blk_drew ?_ | refine blk_alloc ?_ _)); refine blk_put (cs := #[.int .i64 x213000_13, .int .i64 x213001_13, .int .i64 x213002_13, .int .i64 x213003_13]) ?_ 0 _ rfl; (with_reducible repeat (first | refine blk_drewN ?_ _ | refine blk_drew ?_ | refine blk_alloc ?_ _)); exact BK212.out))⟩; have n2_ : Aside0 (w41.heap[gb216]? = some (.cells #[.bool t215, .int .i8 x217001_13, .int .i64 0, .int .i64 0, .int .i64 0, .int .i64 0] 51 (0, 0))) := ⟨(by rw [hw]; exact (by (with_reducible repeat (first | refine blk_drewN ?_ _ | refine blk_drew ?_ | refine blk_alloc ?_ _)); refine blk_far ?_ NB216_212.out _; (with_reducible repeat (first | refine blk_drewN ?_ _ | refine blk_drew ?_ | refine blk_alloc ?_ _)); refine blk_far ?_ NB216_212.out _; (with_reducible repeat (first | refine blk_drewN ?_ _ | refine blk_drew ?_ | refine blk_alloc ?_ _)); refine blk_far ?_ NB216_212.out _; (with_reducible repeat (first | refine blk_drewN ?_ _ | refine blk_drew ?_ | refine blk_alloc ?_ _)); refine blk_far ?_ NB216_212.out _; (with_reducible repeat (first | refine blk_drewN ?_ _ | refine blk_drew ?_ | refine blk_alloc ?_ _)); exact BK216.out))⟩; have n3_ : Aside0 (Below w.heap.size w w41) := ⟨(by rw [hw]; exact (by repeat (first | (with_reducible first | exact HB.out | apply below_alloc | apply pw_below_drewN | apply below_drew1 | refine below_set ?_ GE212.out | refine below_set ?_ GE216.out) | exact HB.out)))⟩; clear hw; clear HO_8; clear BK212; clear BK216; clear HB; have HO_8 := n0_; have BK212 := n1_; have BK216 := n2_; have HB := n3_; clear n0_ n1_ n2_ n3_) | ((with_reducible refine gate_callee (f := 69) rfl ?_); refine goesL_ (some 92) rfl rfl Try.func69 (by kernel_rfl) rfl #[.pointer (some ⟨gb212, 0, none⟩), .int .i64 288230376151711744] rfl (by (try simp only [List.map_toArray, List.map_cons, List.map_nil]); first | done | rfl | (simp only [List.length_drop, List.length_take]; rfl)) ?_; (with_reducible refine (spec_l03Fits.calls _ ([(⟨t221, t222, t223, t224⟩ : S31)]).length [(⟨t221, t222, t223, t224⟩ : S31)] 288230376151711744 true _ ?side1 ?side2 A34.out).mono ?_); (case side1 => refine Kd.C_block k31 (g := gb212) (cs := #[.int .i64 t221, .int .i64 t222, .int .i64 t223, .int .i64 t224]) (T := 31) (by (with_reducible repeat (first | refine blk_drewN ?_ _ | refine blk_drew ?_ | refine blk_alloc ?_ _)); exact BK212.out) (show Kd.K k31 _ (⟨t221, t222, t223, t224⟩ : S31) [.int .i64 t221, .int .i64 t222, .int .i64 t223, .int .i64 t224] from k31_mk _ _) (by decide)); (case side2 => exact Nat.le_refl _); rintro e w' ⟨rfl, ⟨nd, rfl⟩⟩; refine ⟨_, rfl, ?_⟩; (try (rw [drewN_self w41]; generalize hq_ : World.drewN w41 _ = w41; have n0_ : Aside0 (Kd.R k51 51 w41 w.heap.size (fun k_ => k_ ≠ gb216) u8 x8_1) := ⟨by rw [← hq_]; exact (by (with_reducible repeat (first | apply Kd.R_alloc | apply Kd.R_drewN | apply Kd.R_drew)); exact HO_8.out)⟩; have n1_ : Aside0 (w41.heap[gb212]? = some (.cells #[.int .i64 t221, .int .i64 t222, .int .i64 t223, .int .i64 t224] 31 (0, 0))) := ⟨by rw [← hq_]; exact (by (with_reducible repeat (first | refine blk_drewN ?_ _ | refine blk_drew ?_ | refine blk_alloc ?_ _)); exact BK212.out)⟩; have n2_ : Aside0 (w41.heap[gb216]? = some (.cells #[.bool t215, .int .i8 x217001_13, .int .i64 0, .int .i64 0, .int .i64 0, .int .i64 0] 51 (0, 0))) := ⟨by rw [← hq_]; exact (by (with_reducible repeat (first | refine blk_drewN ?_ _ | refine blk_drew ?_ | refine blk_alloc ?_ _)); exact BK216.out)⟩; have n3_ : Aside0 (Below w.heap.size w w41) := ⟨by rw [← hq_]; exact (by repeat (first | (with_reducible first | exact HB.out | apply below_alloc | apply pw_below_drewN | apply below_drew1 | refine below_set ?_ GE212.out | refine below_set ?_ GE216.out) | exact HB.out))⟩; clear HO_8 BK212 BK216 HB hq_; have HO_8 := n0_; have BK212 := n1_; have BK216 := n2_; have HB := n3_; clear n0_ n1_ n2_ n3_)); have hcz42_0 : w41.cell? ⟨gb212, 0, none⟩ = some (.int .i64 t221) := (blk_cell BK212.out 0).trans rfl; have hcz42_1 : w41.cell? ⟨gb212, 1, none⟩ = some (.int .i64 t222) := (blk_cell BK212.out 1).trans rfl; have hcz42_2 : w41.cell? ⟨gb212, 2, none⟩ = some (.int .i64 t223) := (blk_cell BK212.out 2).trans rfl; have hcz42_3 : w41.cell? ⟨gb212, 3, none⟩ = some (.int .i64 t224) := (blk_cell BK212.out 3).trans rfl; have hfz42_0 := blk_frozen BK212.out 0; have hfz42_1 := blk_frozen BK212.out 1; have hfz42_2 := blk_frozen BK212.out 2; have hfz42_3 := blk_frozen BK212.out 3; have hcz43_0 : w41.cell? ⟨gb216, 0, none⟩ = some (.bool t215) := (blk_cell BK216.out 0).trans rfl; have hcz43_1 : w41.cell? ⟨gb216, 1, none⟩ = some (.int .i8 x217001_13) := (blk_cell BK216.out 1).trans rfl; have hcz43_2 : w41.cell? ⟨gb216, 2, none⟩ = some (.int .i64 0) := (blk_cell BK216.out 2).trans rfl; have hcz43_3 : w41.cell? ⟨gb216, 3, none⟩ = some (.int .i64 0) := (blk_cell BK216.out 3).trans rfl; have hcz43_4 : w41.cell? ⟨gb216, 4, none⟩ = some (.int .i64 0) := (blk_cell BK216.out 4).trans rfl; have hcz43_5 : w41.cell? ⟨gb216, 5, none⟩ = some (.int .i64 0) := (blk_cell BK216.out 5).trans rfl; have hfz43_0 := blk_frozen BK216.out 0; have hfz43_1 := blk_frozen BK216.out 1; have hfz43_2 := blk_frozen BK216.out 2; have hfz43_3 := blk_frozen BK216.out 3; have hfz43_4 := blk_frozen BK216.out 4; have hfz43_5 := blk_frozen BK216.out 5) | ((with_reducible refine gate_store (t := 31) (p := 96) rfl ?_); refine store_event (t := 31) (p := 96) (v := ?vo_w44) (w1 := ((((w41.setCell ⟨gb216, 2, none⟩ (.int .i64 t221)).setCell ⟨gb216, 3, none⟩ (.int .i64 t222)).setCell ⟨gb216, 4, none⟩ (.int .i64 t223)).setCell ⟨gb216, 5, none⟩ (.int .i64 t224))) ?hg ?ho ?hn ?hr ?_; (case ho => rfl); (case hg => rfl); (case hn => rfl); (case hr => first | (go_simp; done) | (go_simp; rfl)); intro w44 hw; have n0_ : Aside0 (Kd.R k51 51 w44 w.heap.size (fun k_ => k_ ≠ gb216) u8 x8_1) := ⟨(by rw [hw]; exact (by (with_reducible repeat (first | apply Kd.R_alloc | apply Kd.R_drewN | apply Kd.R_drew)); exact Kd.R_mono (Kd.R_far (p := ⟨gb216, 5, none⟩) (Kd.R_far (p := ⟨gb216, 4, none⟩) (Kd.R_far (p := ⟨gb216, 3, none⟩) (Kd.R_far (p := ⟨gb216, 2, none⟩) (Kd.R_mono HO_8.out (fun k_ hk => (⟨hk, hk⟩ : _ ∧ k_ ≠ gb216))) (fun _ hk => hk.2) (.int .i64 t221)) (fun _ hk => hk.2) (.int .i64 t222)) (fun _ hk => hk.2) (.int .i64 t223)) (fun _ hk => hk.2) (.int .i64 t224)) (fun _ hk => hk.1)))⟩; have n1_ : Aside0 (w44.heap[gb212]? = some (.cells #[.int .i64 t221, .int .i64 t222, .int .i64 t223, .int .i64 t224] 31 (0, 0))) := ⟨(by rw [hw]; exact (by (with_reducible repeat (first | refine blk_drewN ?_ _ | refine blk_drew ?_ | refine blk_alloc ?_ _)); refine blk_far ?_ NB212_216.out _; (with_reducible repeat (first | refine blk_drewN ?_ _ | refine blk_drew ?_ | refine blk_alloc ?_ _)); refine blk_far ?_ NB212_216.out _; (with_reducible repeat (first | refine blk_drewN ?_ _ | refine blk_drew ?_ | refine blk_alloc ?_ _)); refine blk_far ?_ NB212_216.out _; (with_reducible repeat (first | refine blk_drewN ?_ _ | refine blk_drew ?_ | refine blk_alloc ?_ _)); refine blk_far ?_ NB212_216.out _; (with_reducible repeat (first | refine blk_drewN ?_ _ | refine blk_drew ?_ | refine blk_alloc ?_ _)); exact BK212.out))⟩; have n2_ : Aside0 (w44.heap[gb216]? = some (.cells #[.bool t215, .int .i8 x217001_13, .int .i64 t221, .int .i64 t222, .int .i64 t223, .int .i64 t224] 51 (0, 0))) := ⟨(by rw [hw]; exact (by (with_reducible repeat (first | refine blk_drewN ?_ _ | refine blk_drew ?_ | refine blk_alloc ?_ _)); refine blk_put (cs := #[.bool t215, .int .i8 x217001_13, .int .i64 t221, .int .i64 t222, .int .i64 t223, .int .i64 0]) ?_ 5 _ rfl; (with_reducible repeat (first | refine blk_drewN ?_ _ | refine blk_drew ?_ | refine blk_alloc ?_ _)); refine blk_put (cs := #[.bool t215, .int .i8 x217001_13, .int .i64 t221, .int .i64 t222, .int .i64 0, .int .i64 0]) ?_ 4 _ rfl; (with_reducible repeat (first | refine blk_drewN ?_ _ | refine blk_drew ?_ | refine blk_alloc ?_ _)); refine blk_put (cs := #[.bool t215, .int .i8 x217001_13, .int .i64 t221, .int .i64 0, .int .i64 0, .int .i64 0]) ?_ 3 _ rfl; (with_reducible repeat (first | refine blk_drewN ?_ _ | refine blk_drew ?_ | refine blk_alloc ?_ _)); refine blk_put (cs := #[.bool t215, .int .i8 x217001_13, .int .i64 0, .int .i64 0, .int .i64 0, .int .i64 0]) ?_ 2 _ rfl; (with_reducible repeat (first | refine blk_drewN ?_ _ | refine blk_drew ?_ | refine blk_alloc ?_ _)); exact BK216.out))⟩; have n3_ : Aside0 (Below w.heap.size w w44) := ⟨(by rw [hw]; exact (by repeat (first | (with_reducible first | exact HB.out | apply below_alloc | apply pw_below_drewN | apply below_drew1 | refine below_set ?_ GE212.out | refine below_set ?_ GE216.out) | exact HB.out)))⟩; clear hw; clear HO_8; clear BK212; clear BK216; clear HB; have HO_8 := n0_; have BK212 := n1_; have BK216 := n2_; have HB := n3_; clear n0_ n1_ n2_ n3_; have hcz45_0 : w44.cell? ⟨gb216, 0, none⟩ = some (.bool t215) := (blk_cell BK216.out 0).trans rfl; have hcz45_1 : w44.cell? ⟨gb216, 1, none⟩ = some (.int .i8 x217001_13) := (blk_cell BK216.out 1).trans rfl; have hcz45_2 : w44.cell? ⟨gb216, 2, none⟩ = some (.int .i64 t221) := (blk_cell BK216.out 2).trans rfl; have hcz45_3 : w44.cell? ⟨gb216, 3, none⟩ = some (.int .i64 t222) := (blk_cell BK216.out 3).trans rfl; have hcz45_4 : w44.cell? ⟨gb216, 4, none⟩ = some (.int .i64 t223) := (blk_cell BK216.out 4).trans rfl; have hcz45_5 : w44.cell? ⟨gb216, 5, none⟩ = some (.int .i64 t224) := (blk_cell BK216.out 5).trans rfl; have hfz45_0 := blk_frozen BK216.out 0; have hfz45_1 := blk_frozen BK216.out 1; have hfz45_2 := blk_frozen BK216.out 2; have hfz45_3 := blk_frozen BK216.out 3; have hfz45_4 := blk_frozen BK216.out 4; have hfz45_5 := blk_frozen BK216.out 5) | ((with_reducible refine gate_builtin (b := .append) (xs := #[.tmp 97, .tmp 99]) rfl ?_); at_builtin; refine Kd.R_append k51 (w0 := w) w.heap.size rfl (.tmp 97) (.tmp 99) 28 51 (.agg #[(.bool false), (.int .i8 0), (.int .i64 0), (.int .i64 0), (.int .i64 0), (.int .i64 0)]) 40 rfl Try.underlying28 info51 rfl (by decide) (by omega) u8 x8_1 (⟨t215, x217001_13, (⟨t221, t222, t223, t224⟩ : S31)⟩ : S51) [.bool t215, .int .i8 x217001_13, .int .i64 t221, .int .i64 t222, .int .i64 t223, .int .i64 t224] (fun k_ => k_ ≠ gb216) (fun _ => False) rfl rfl ?aP (fun _ hk => hk.elim) ?aF ?aO ?aB ?aS ?aL ?_; (case aP => exact k51_mkM _ _ _ (⟨t215, x217001_13, (⟨t221, t222, t223, t224⟩ : S31)⟩ : S51)); (case aB => exact (by repeat (first | (with_reducible first | exact HB.out | apply below_alloc | apply pw_below_drewN | apply below_drew1 | refine below_set ?_ GE212.out | refine below_set ?_ GE216.out) | exact HB.out))); (case aF => exact (fun k_ hk => Kd.freshB (g := gb216) (o := .cells #[.bool t215, .int .i8 x217001_13, .int .i64 t221, .int .i64 t222, .int .i64 t223, .int .i64 t224] 51 (0, 0)) (by (with_reducible repeat (first | refine blk_drewN ?_ _ | refine blk_drew ?_ | refine blk_alloc ?_ _)); exact BK216.out) k_ hk)); (case aO => exact (by (with_reducible repeat (first | apply Kd.R_alloc | apply Kd.R_drewN | apply Kd.R_drew)); exact HO_8.out)); (case aS => exact (below_size (by repeat (first | (with_reducible first | exact HB.out | apply below_alloc | apply pw_below_drewN | apply below_drew1 | refine below_set ?_ GE212.out | refine below_set ?_ GE216.out) | exact HB.out)))); (case aL => have := LMc36.out; omega); intro v228 w46 ho hb hg hat; rw [← Ny227.out] at ho; have n0_ := Aside0.mk (blk_grown (g := gb212) (o := .cells #[.int .i64 t221, .int .i64 t222, .int .i64 t223, .int .i64 t224] 31 (0, 0)) (by (with_reducible repeat (first | refine blk_drewN ?_ _ | refine blk_drew ?_ | refine blk_alloc ?_ _)); exact BK212.out) hg (Kd.R_ne HO_8.out BK212.out (by decide))); have n1_ := Aside0.mk (blk_grown (g := gb216) (o := .cells #[.bool t215, .int .i8 x217001_13, .int .i64 t221, .int .i64 t222, .int .i64 t223, .int .i64 t224] 51 (0, 0)) (by (with_reducible repeat (first | refine blk_drewN ?_ _ | refine blk_drew ?_ | refine blk_alloc ?_ _)); exact BK216.out) hg (Kd.R_away HO_8.out (fun _ hk => hk))); have n2_ := Aside0.mk (hb); have n3_ := Aside0.mk (ho); clear BK212; clear BK216; clear HB; clear HO_8; have BK212 := n0_; have BK216 := n1_; have HB := n2_; have HO229 := n3_; clear n0_ n1_ n2_ n3_; clear ho hb hg hat))
         go_roundg kj13
         case measure => have := HK1.out; have := HJ13.out; omega
         case rel => exact ⟨(y227), (x10_13), (x11_13), (t221), (t222), (t223), (t224), (by first | rfl | (simp; done) | (simp [*]; done) | (simp [isE_]; done)), (by first | rfl | (simp; done) | (simp [*]; done) | (simp [isE_]; done)), H', ⟨by have := HK1.out; have := HJ13.out; omega⟩, ⟨by (with_reducible repeat (first | apply Kd.R_alloc | apply Kd.R_drewN | apply Kd.R_drew)); exact Kd.R_mono HO229.out (fun _ hk => trivial)⟩, ⟨by (with_reducible repeat (first | refine blk_drewN ?_ _ | refine blk_drew ?_ | refine blk_alloc ?_ _)); exact BK212.out⟩, ⟨by repeat (first | (with_reducible first | exact HB.out | apply below_alloc | apply pw_below_drewN | apply below_drew1 | refine below_set ?_ GE212.out | refine below_set ?_ GE216.out) | exact HB.out)⟩⟩
        ·
         rw [if_neg c36] at H
         exact absurd H (by simp)
       ·
        replace c35 := Bool.eq_false_iff.mpr c35
        subst c35
        have H1 : (some ((([] : List (S51))), 3)) = some (r1, r2) := by first | (rw [if_neg (show ¬ (false = true) by decide)] at H; exact H) | rfl
        clear H
        have H := H1
        clear H1
        obtain ⟨y230, hy230⟩ : ∃ y_ : List (S51), y_ = (([] : List (S51))) := ⟨_, rfl⟩
        replace H : (some (y230, 3)) = some (r1, r2) := by first | (rw [hy230]; with_reducible exact H) | (have H2_ := (Option.bind_some _ _).symm.trans H; rw [hy230]; with_reducible exact H2_) | (have H2_ := (Option.bind_some _ _).symm.trans H; with_reducible exact H2_) | with_reducible exact H | (rw [hy230]; exact H) | exact H
        have Ny230 := Aside0.mk hy230
        clear hy230
        simp only [Option.some.injEq, Prod.mk.injEq] at H
        obtain ⟨rfl, rfl⟩ := H
        have hnb47 := NB212_216.out
        have hnc47 := NB216_212.out
        have hcz48_0 : wc.cell? ⟨gb212, 0, none⟩ = some (.int .i64 x213000_13) := (blk_cell BK212.out 0).trans rfl
        have hcz48_1 : wc.cell? ⟨gb212, 1, none⟩ = some (.int .i64 x213001_13) := (blk_cell BK212.out 1).trans rfl
        have hcz48_2 : wc.cell? ⟨gb212, 2, none⟩ = some (.int .i64 x213002_13) := (blk_cell BK212.out 2).trans rfl
        have hcz48_3 : wc.cell? ⟨gb212, 3, none⟩ = some (.int .i64 x213003_13) := (blk_cell BK212.out 3).trans rfl
        have hfz48_0 := blk_frozen BK212.out 0
        have hfz48_1 := blk_frozen BK212.out 1
        have hfz48_2 := blk_frozen BK212.out 2
        have hfz48_3 := blk_frozen BK212.out 3
        go_wp2_with (first | ((with_reducible refine gate_callee (f := 68) rfl ?_); refine goesL_ (some 91) rfl rfl Try.func68 (by kernel_rfl) rfl #[.agg #[.int .i64 x213000_13, .int .i64 x213001_13, .int .i64 x213002_13, .int .i64 x213003_13]] rfl (by (try simp only [List.map_toArray, List.map_cons, List.map_nil]); first | done | rfl | (simp only [List.length_drop, List.length_take]; rfl)) ?_; (with_reducible refine (spec_l03Less.calls kj13 x213000_13 x213001_13 x213002_13 x213003_13 t221 t222 t223 t224 _ A33.out).mono ?_); rintro e w49 ⟨rfl, hb⟩; refine ⟨_, rfl, ?_⟩; have n0_ := Aside0.mk (Kd.R_below (by (with_reducible repeat (first | apply Kd.R_alloc | apply Kd.R_drewN | apply Kd.R_drew)); exact HO_8.out) hb); have n1_ := Aside0.mk (blk_below (g := gb212) (o := .cells #[.int .i64 x213000_13, .int .i64 x213001_13, .int .i64 x213002_13, .int .i64 x213003_13] 31 (0, 0)) (by (with_reducible repeat (first | refine blk_drewN ?_ _ | refine blk_drew ?_ | refine blk_alloc ?_ _)); exact BK212.out) hb); have n2_ := Aside0.mk (blk_below (g := gb216) (o := .cells #[.bool t215, .int .i8 x217001_13, .int .i64 0, .int .i64 0, .int .i64 0, .int .i64 0] 51 (0, 0)) (by (with_reducible repeat (first | refine blk_drewN ?_ _ | refine blk_drew ?_ | refine blk_alloc ?_ _)); exact BK216.out) hb); have n3_ := Aside0.mk (below_step (by repeat (first | (with_reducible first | exact HB.out | apply below_alloc | apply pw_below_drewN | apply below_drew1 | refine below_set ?_ GE212.out | refine below_set ?_ GE216.out) | exact HB.out)) hb); clear HO_8; clear BK212; clear BK216; clear HB; have HO_8 := n0_; have BK212 := n1_; have BK216 := n2_; have HB := n3_; clear n0_ n1_ n2_ n3_; (try clear hb); (try clear hb2); (try clear hk); (try clear hi); have hcz50_0 : w49.cell? ⟨gb212, 0, none⟩ = some (.int .i64 x213000_13) := (blk_cell BK212.out 0).trans rfl; have hcz50_1 : w49.cell? ⟨gb212, 1, none⟩ = some (.int .i64 x213001_13) := (blk_cell BK212.out 1).trans rfl; have hcz50_2 : w49.cell? ⟨gb212, 2, none⟩ = some (.int .i64 x213002_13) := (blk_cell BK212.out 2).trans rfl; have hcz50_3 : w49.cell? ⟨gb212, 3, none⟩ = some (.int .i64 x213003_13) := (blk_cell BK212.out 3).trans rfl; have hfz50_0 := blk_frozen BK212.out 0; have hfz50_1 := blk_frozen BK212.out 1; have hfz50_2 := blk_frozen BK212.out 2; have hfz50_3 := blk_frozen BK212.out 3) | ((with_reducible refine gate_store (t := 31) (p := 9) rfl ?_); refine store_event (t := 31) (p := 9) (v := ?vo_w51) (w1 := ((((w49.setCell ⟨gb212, 0, none⟩ (.int .i64 t221)).setCell ⟨gb212, 1, none⟩ (.int .i64 t222)).setCell ⟨gb212, 2, none⟩ (.int .i64 t223)).setCell ⟨gb212, 3, none⟩ (.int .i64 t224))) ?hg ?ho ?hn ?hr ?_; (case ho => rfl); (case hg => rfl); (case hn => rfl); (case hr => first | (go_simp; done) | (go_simp; rfl)); intro w51 hw; have n0_ : Aside0 (Kd.R k51 51 w51 w.heap.size (fun k_ => k_ ≠ gb216) u8 x8_1) := ⟨(by rw [hw]; exact (by (with_reducible repeat (first | apply Kd.R_alloc | apply Kd.R_drewN | apply Kd.R_drew)); exact Kd.R_mono (Kd.R_far (p := ⟨gb212, 3, none⟩) (Kd.R_far (p := ⟨gb212, 2, none⟩) (Kd.R_far (p := ⟨gb212, 1, none⟩) (Kd.R_far (p := ⟨gb212, 0, none⟩) (Kd.R_types HO_8.out BK212.out (by decide)) (fun _ hk => hk.2) (.int .i64 t221)) (fun _ hk => hk.2) (.int .i64 t222)) (fun _ hk => hk.2) (.int .i64 t223)) (fun _ hk => hk.2) (.int .i64 t224)) (fun _ hk => hk.1)))⟩; have n1_ : Aside0 (w51.heap[gb212]? = some (.cells #[.int .i64 t221, .int .i64 t222, .int .i64 t223, .int .i64 t224] 31 (0, 0))) := ⟨(by rw [hw]; exact (by (with_reducible repeat (first | refine blk_drewN ?_ _ | refine blk_drew ?_ | refine blk_alloc ?_ _)); refine blk_put (cs := #[.int .i64 t221, .int .i64 t222, .int .i64 t223, .int .i64 x213003_13]) ?_ 3 _ rfl; (with_reducible repeat (first | refine blk_drewN ?_ _ | refine blk_drew ?_ | refine blk_alloc ?_ _)); refine blk_put (cs := #[.int .i64 t221, .int .i64 t222, .int .i64 x213002_13, .int .i64 x213003_13]) ?_ 2 _ rfl; (with_reducible repeat (first | refine blk_drewN ?_ _ | refine blk_drew ?_ | refine blk_alloc ?_ _)); refine blk_put (cs := #[.int .i64 t221, .int .i64 x213001_13, .int .i64 x213002_13, .int .i64 x213003_13]) ?_ 1 _ rfl; (with_reducible repeat (first | refine blk_drewN ?_ _ | refine blk_drew ?_ | refine blk_alloc ?_ _)); refine blk_put (cs := #[.int .i64 x213000_13, .int .i64 x213001_13, .int .i64 x213002_13, .int .i64 x213003_13]) ?_ 0 _ rfl; (with_reducible repeat (first | refine blk_drewN ?_ _ | refine blk_drew ?_ | refine blk_alloc ?_ _)); exact BK212.out))⟩; have n2_ : Aside0 (w51.heap[gb216]? = some (.cells #[.bool t215, .int .i8 x217001_13, .int .i64 0, .int .i64 0, .int .i64 0, .int .i64 0] 51 (0, 0))) := ⟨(by rw [hw]; exact (by (with_reducible repeat (first | refine blk_drewN ?_ _ | refine blk_drew ?_ | refine blk_alloc ?_ _)); refine blk_far ?_ NB216_212.out _; (with_reducible repeat (first | refine blk_drewN ?_ _ | refine blk_drew ?_ | refine blk_alloc ?_ _)); refine blk_far ?_ NB216_212.out _; (with_reducible repeat (first | refine blk_drewN ?_ _ | refine blk_drew ?_ | refine blk_alloc ?_ _)); refine blk_far ?_ NB216_212.out _; (with_reducible repeat (first | refine blk_drewN ?_ _ | refine blk_drew ?_ | refine blk_alloc ?_ _)); refine blk_far ?_ NB216_212.out _; (with_reducible repeat (first | refine blk_drewN ?_ _ | refine blk_drew ?_ | refine blk_alloc ?_ _)); exact BK216.out))⟩; have n3_ : Aside0 (Below w.heap.size w w51) := ⟨(by rw [hw]; exact (by repeat (first | (with_reducible first | exact HB.out | apply below_alloc | apply pw_below_drewN | apply below_drew1 | refine below_set ?_ GE212.out | refine below_set ?_ GE216.out) | exact HB.out)))⟩; clear hw; clear HO_8; clear BK212; clear BK216; clear HB; have HO_8 := n0_; have BK212 := n1_; have BK216 := n2_; have HB := n3_; clear n0_ n1_ n2_ n3_) | ((with_reducible refine gate_callee (f := 69) rfl ?_); refine goesL_ (some 92) rfl rfl Try.func69 (by kernel_rfl) rfl #[.pointer (some ⟨gb212, 0, none⟩), .int .i64 288230376151711744] rfl (by (try simp only [List.map_toArray, List.map_cons, List.map_nil]); first | done | rfl | (simp only [List.length_drop, List.length_take]; rfl)) ?_; (with_reducible refine (spec_l03Fits.calls _ ([(⟨t221, t222, t223, t224⟩ : S31)]).length [(⟨t221, t222, t223, t224⟩ : S31)] 288230376151711744 false _ ?side1 ?side2 A34.out).mono ?_); (case side1 => refine Kd.C_block k31 (g := gb212) (cs := #[.int .i64 t221, .int .i64 t222, .int .i64 t223, .int .i64 t224]) (T := 31) (by (with_reducible repeat (first | refine blk_drewN ?_ _ | refine blk_drew ?_ | refine blk_alloc ?_ _)); exact BK212.out) (show Kd.K k31 _ (⟨t221, t222, t223, t224⟩ : S31) [.int .i64 t221, .int .i64 t222, .int .i64 t223, .int .i64 t224] from k31_mk _ _) (by decide)); (case side2 => exact Nat.le_refl _); rintro e w' ⟨rfl, ⟨nd, rfl⟩⟩; refine ⟨_, rfl, ?_⟩) | ((with_reducible refine gate_dst (N := 94) rfl ?_); refine Kd.R_lit k51 _ 51 ?hg (N := 94) ?hd (xs := ([] : List (S51))) (inner := []) (ok := fun _ => True) (okp := fun _ => True) ?hr ?hp (fun _ hk => hk) trivial (Below.refl _ _) (Nat.le_refl _) (by simp) ?_; (case hd => rfl); (case hg => rfl); (case hr => first | (go_simp; done) | (go_simp; rfl)); (case hp => exact (Reps.none _ _)); intro v231 w52 ho53 hb hg_ hnew_; clear hg_ hnew_; (first | rw [← Ny230.out] at ho53 | (simp only [Int.reduceToNat] at ho53; rw [← Ny230.out] at ho53)); have n0_ := Aside0.mk (Kd.R_elder' (by (with_reducible repeat (first | apply Kd.R_alloc | apply Kd.R_drewN | apply Kd.R_drew)); exact HO_8.out) (Kd.R_base ho53) hb); have n1_ := Aside0.mk (Kd.R_lower (Kd.R_newB (Kd.R_new' ho53 (Kd.R_lt (by (with_reducible repeat (first | apply Kd.R_alloc | apply Kd.R_drewN | apply Kd.R_drew)); exact HO_8.out))) (g := gb216) (o := .cells #[.bool t215, .int .i8 x217001_13, .int .i64 0, .int .i64 0, .int .i64 0, .int .i64 0] 51 (0, 0)) (by (with_reducible repeat (first | refine blk_drewN ?_ _ | refine blk_drew ?_ | refine blk_alloc ?_ _)); exact BK216.out)) (below_size (by repeat (first | (with_reducible first | exact HB.out | apply below_alloc | apply pw_below_drewN | apply below_drew1 | refine below_set ?_ GE212.out | refine below_set ?_ GE216.out) | exact HB.out)))); have n2_ := Aside0.mk (blk_below (g := gb212) (o := .cells #[.int .i64 t221, .int .i64 t222, .int .i64 t223, .int .i64 t224] 31 (0, 0)) (by (with_reducible repeat (first | refine blk_drewN ?_ _ | refine blk_drew ?_ | refine blk_alloc ?_ _)); exact BK212.out) hb); have n3_ := Aside0.mk (blk_below (g := gb216) (o := .cells #[.bool t215, .int .i8 x217001_13, .int .i64 0, .int .i64 0, .int .i64 0, .int .i64 0] 51 (0, 0)) (by (with_reducible repeat (first | refine blk_drewN ?_ _ | refine blk_drew ?_ | refine blk_alloc ?_ _)); exact BK216.out) hb); have n4_ := Aside0.mk (below_step (by repeat (first | (with_reducible first | exact HB.out | apply below_alloc | apply pw_below_drewN | apply below_drew1 | refine below_set ?_ GE212.out | refine below_set ?_ GE216.out) | exact HB.out)) hb); clear HO_8; clear BK212; clear BK216; clear HB; have HO_8 := n0_; have HO232 := n1_; have BK212 := n2_; have BK216 := n3_; have HB := n4_; clear n0_ n1_ n2_ n3_ n4_; clear hb ho53))
        go_ret2
        exact ⟨_, by first | rfl | (simp [errW_none, errW_some] <;> rfl) | (simp [*, errW_none, errW_some] <;> rfl), by (with_reducible repeat (first | apply Kd.R_alloc | apply Kd.R_drewN | apply Kd.R_drew)); exact Kd.R_mono HO232.out (fun _ hk => trivial), by repeat (first | (with_reducible first | exact HB.out | apply below_alloc | apply pw_below_drewN | apply below_drew1 | refine below_set ?_ GE212.out | refine below_set ?_ GE216.out) | exact HB.out)⟩
    ·
     rw [if_neg c12] at H
     have c12b0 : decide (x10_1 < a2) = false := decide_eq_false c12
     clear c12
     simp only [Option.some.injEq, Prod.mk.injEq] at H
     obtain ⟨rfl, rfl⟩ := H
     go_wp2
     go_ret2
     exact ⟨_, by first | rfl | (simp [errW_none, errW_some] <;> rfl) | (simp [*, errW_none, errW_some] <;> rfl), by (with_reducible repeat (first | apply Kd.R_alloc | apply Kd.R_drewN | apply Kd.R_drew)); exact HO_8.out, by repeat (first | (with_reducible first | exact HB.out | apply below_alloc | apply pw_below_drewN | apply below_drew1 | refine below_set ?_ GE212.out) | exact HB.out)⟩
 ·
  rw [if_neg c4] at H
  exact absurd H (by simp)
/-! ### spec_MoebiusDigits: function 17 -/
def spec_MoebiusDigits.l0 : Nat → List (S51) → List Int → Int → Option (List Int × Int × Int)
 | 0, _, _, _ => none
 | k + 1, x10, x12, x13 => if x13 < (x10.length : Int) then (if 0 ≤ x13 then (if (rd_T51 x10 x13).f0 = true then (if x12.length < 140737488355328 then (spec_MoebiusDigits.l0 k x10 (x12 ++ [(rd_T51 x10 x13).f1]) (wrap64 (x13 + 1))) else (none)) else (spec_MoebiusDigits.l0 k x10 x12 (wrap64 (x13 + 1)))) else (none)) else (some (x12, wrap64 ((x10.length : Int) - (x12.length : Int)), 0))
def spec_MoebiusDigits.f (k : Nat) (a0_0 : Int) (a0_1 : Int) (a0_2 : Int) (a0_3 : Int) (l1_0 : List Int) (l1_1 : List Int) (a2 : Int) : Option (List Int × Int × Int) := (spec_l03Asked.f k [(⟨a0_0, a0_1, a0_2, a0_3⟩ : S31)] [(⟨l1_0, l1_1⟩ : S33)] a2).bind fun t237 => (if t237 = 0 then ((spec_l03Run.f k [(⟨a0_0, a0_1, a0_2, a0_3⟩ : S31)] [(⟨l1_0, l1_1⟩ : S33)] a2).bind fun bt243 => (if bt243.2 = 0 then (spec_MoebiusDigits.l0 k bt243.1 (([] : List Int)) 0) else (some ((([] : List Int)), 0, bt243.2)))) else (some ((([] : List Int)), 0, t237)))
theorem spec_MoebiusDigits.mono_l : ∀ k, (∀ y0 y1 y2, LeO (spec_MoebiusDigits.l0 k y0 y1 y2) (spec_MoebiusDigits.l0 (k + 1) y0 y1 y2))
 | 0 => fun _ _ _ r h => by simp [spec_MoebiusDigits.l0] at h
 | k + 1 => by
  have ih0 := spec_MoebiusDigits.mono_l k
  ·
   intro y0 y1 y2
   unfold spec_MoebiusDigits.l0
   repeat' first
   | (with_reducible exact ih0 _ _ _)
   | (with_reducible exact spec_l03Asked.mono _ _ _ _)
   | (with_reducible exact spec_l03Run.mono _ _ _ _)
   | (with_reducible exact LeO.refl _)
   | (with_reducible exact LeO.none _)
   | (with_reducible refine LeO.ite ?_ ?_)
   | (with_reducible refine LeO.bind ?_ (fun _ => ?_))
   | exact ih0 _ _ _
   | exact LeO.none _
   | refine LeO.ite ?_ ?_
   | refine LeO.bind ?_ (fun _ => ?_)
theorem spec_MoebiusDigits.mono : ∀ a0 a1 a2 a3 a4 a5 a6 k, LeO (spec_MoebiusDigits.f k a0 a1 a2 a3 a4 a5 a6) (spec_MoebiusDigits.f (k + 1) a0 a1 a2 a3 a4 a5 a6) := by
 intro a0 a1 a2 a3 a4 a5 a6 k
 have ih0 := spec_MoebiusDigits.mono_l k
 unfold spec_MoebiusDigits.f
 repeat' first
   | (with_reducible exact ih0 _ _ _)
   | (with_reducible exact spec_l03Asked.mono _ _ _ _)
   | (with_reducible exact spec_l03Run.mono _ _ _ _)
   | (with_reducible exact LeO.refl _)
   | (with_reducible exact LeO.none _)
   | (with_reducible refine LeO.ite ?_ ?_)
   | (with_reducible refine LeO.bind ?_ (fun _ => ?_))
   | exact ih0 _ _ _
   | exact LeO.none _
   | refine LeO.ite ?_ ?_
   | refine LeO.bind ?_ (fun _ => ?_)
set_option maxHeartbeats 8000000 in
set_option maxRecDepth 100000 in
theorem spec_MoebiusDigits.calls (k : Nat) (a0_0 : Int) (a0_1 : Int) (a0_2 : Int) (a0_3 : Int) (A1_0 : Option Addr) (c1_0 : Nat) (l1_0 : List Int) (A1_1 : Option Addr) (c1_1 : Nat) (l1_1 : List Int) (a2 : Int) (r1 : List Int) (r2 : Int) (r3 : Int) (w : World) (hr1_0 : Kd.C (Kd.int .i8) w A1_0 l1_0.length l1_0) (hc1_0 : l1_0.length ≤ c1_0) (hr1_1 : Kd.C (Kd.int .i8) w A1_1 l1_1.length l1_1) (hc1_1 : l1_1.length ≤ c1_1) (h : spec_MoebiusDigits.f k a0_0 a0_1 a0_2 a0_3 l1_0 l1_1 a2 = some (r1, r2, r3)) :
  Calls Try.prog 17 #[.agg #[.int .i64 a0_0, .int .i64 a0_1, .int .i64 a0_2, .int .i64 a0_3], .agg #[.slice A1_0 l1_0.length c1_0, .slice A1_1 l1_1.length c1_1], .int .i64 a2] w fun e w' => ∃ v0_ : Value, e = .returned (.tuple #[v0_, .int .i64 r2, .int .i64 r3]) ∧ Kd.R (Kd.int .i8) 49 w' w.heap.size (fun _ => True) v0_ r1 ∧ Below w.heap.size w w' := by
 have hu31 := Try.underlying31
 have hu33 := Try.underlying33
 have HR1_0 := Aside0.mk hr1_0
 have HC1_0 := Aside0.mk hc1_0
 clear hr1_0 hc1_0
 have HR1_1 := Aside0.mk hr1_1
 have HC1_1 := Aside0.mk hc1_1
 clear hr1_1 hc1_1
 have HB := Aside0.mk (Below.refl w.heap.size w)
 have H : ((spec_l03Asked.f k [(⟨a0_0, a0_1, a0_2, a0_3⟩ : S31)] [(⟨l1_0, l1_1⟩ : S33)] a2).bind fun t237 => (if t237 = 0 then ((spec_l03Run.f k [(⟨a0_0, a0_1, a0_2, a0_3⟩ : S31)] [(⟨l1_0, l1_1⟩ : S33)] a2).bind fun bt243 => (if bt243.2 = 0 then (spec_MoebiusDigits.l0 k bt243.1 (([] : List Int)) 0) else (some ((([] : List Int)), 0, bt243.2)))) else (some ((([] : List Int)), 0, t237)))) = some (r1, r2, r3) := h
 clear h
 replace H := Option.bind_eq_some_iff.mp H
 obtain ⟨t237, A40, H⟩ := H
 replace H : (if t237 = 0 then ((spec_l03Run.f k [(⟨a0_0, a0_1, a0_2, a0_3⟩ : S31)] [(⟨l1_0, l1_1⟩ : S33)] a2).bind fun bt243 => (if bt243.2 = 0 then (spec_MoebiusDigits.l0 k bt243.1 (([] : List Int)) 0) else (some ((([] : List Int)), 0, bt243.2)))) else (some ((([] : List Int)), 0, t237))) = some (r1, r2, r3) := H
 have A4 := Aside0.mk A40
 clear A40
 by_cases c5 : t237 = 0
 ·
  rw [if_pos c5] at H
  have c5b0 : (t237 == 0) = true := beq_iff_eq.mpr c5
  have c5b1 : (t237 != 0) = false := bne_eq_false_iff_eq.mpr c5
  clear c5
  replace H := Option.bind_eq_some_iff.mp H
  obtain ⟨⟨t243, t244⟩, A60, H⟩ := H
  replace H : (if t244 = 0 then (spec_MoebiusDigits.l0 k t243 (([] : List Int)) 0) else (some ((([] : List Int)), 0, t244))) = some (r1, r2, r3) := H
  have A6 := Aside0.mk A60
  clear A60
  by_cases c7 : t244 = 0
  ·
   rw [if_pos c7] at H
   have c7b0 : (t244 == 0) = true := beq_iff_eq.mpr c7
   have c7b1 : (t244 != 0) = false := bne_eq_false_iff_eq.mpr c7
   clear c7
   obtain ⟨y250, hy250⟩ : ∃ y_ : List Int, y_ = (([] : List Int)) := ⟨_, rfl⟩
   replace H : (spec_MoebiusDigits.l0 k t243 y250 0) = some (r1, r2, r3) := by first | (rw [hy250]; with_reducible exact H) | (have H2_ := (Option.bind_some _ _).symm.trans H; rw [hy250]; with_reducible exact H2_) | (have H2_ := (Option.bind_some _ _).symm.trans H; with_reducible exact H2_) | with_reducible exact H | (rw [hy250]; exact H) | exact H
   have Ny250 := Aside0.mk hy250
   clear hy250
   have H' := Aside0.mk H
   clear H
   go_enter Try.func17, Try.ntmps17
   go_wp2_with (first | ((with_reducible refine gate_dst (N := 3) rfl ?_); refine box_event ?hg (N := 3) ?hd (cs := #[.int .i64 a0_0, .int .i64 a0_1, .int .i64 a0_2, .int .i64 a0_3]) (t := 31) ?hr ?_; (case hd => rfl); (case hg => rfl); (case hr => first | (go_simp; done) | (go_simp; rfl)); intro gb233 hg w8 hbox hb; have n0_ := Aside0.mk (below_step (by repeat (first | (with_reducible first | exact HB.out | apply below_alloc | apply pw_below_drewN | apply below_drew1) | exact HB.out)) hb); have n1_ := Aside0.mk (hbox); have n2_ := Aside0.mk ((by rw [hg]; exact (below_size (by repeat (first | (with_reducible first | exact HB.out | apply below_alloc | apply pw_below_drewN | apply below_drew1) | exact HB.out))) : w.heap.size ≤ gb233)); have n3_ := Aside0.mk ((by rw [hg]; exact (below_size (by repeat (first | (with_reducible first | exact HB.out | apply below_alloc | apply pw_below_drewN | apply below_drew1) | exact HB.out))) : w.heap.size ≤ gb233)); clear HB; have HB := n0_; have BK233 := n1_; have GW233 := n2_; have GE233 := n3_; clear n0_ n1_ n2_ n3_; clear hb hbox hg) | ((with_reducible refine gate_dst (N := 4) rfl ?_); refine box_event ?hg (N := 4) ?hd (cs := #[.slice A1_0 l1_0.length c1_0, .slice A1_1 l1_1.length c1_1]) (t := 33) ?hr ?_; (case hd => rfl); (case hg => rfl); (case hr => first | (go_simp; done) | (go_simp; rfl)); intro gb234 hg w9 hbox hb; have n0_ := Aside0.mk (blk_below (g := gb233) (o := .cells #[.int .i64 a0_0, .int .i64 a0_1, .int .i64 a0_2, .int .i64 a0_3] 31 (0, 0)) (by (with_reducible repeat (first | refine blk_drewN ?_ _ | refine blk_drew ?_ | refine blk_alloc ?_ _)); exact BK233.out) hb); have n1_ := Aside0.mk (below_step (by repeat (first | (with_reducible first | exact HB.out | apply below_alloc | apply pw_below_drewN | apply below_drew1 | refine below_set ?_ GE233.out) | exact HB.out)) hb); have n2_ := Aside0.mk (hbox); have n3_ := Aside0.mk ((by rw [hg]; exact (below_size (by repeat (first | (with_reducible first | exact HB.out | apply below_alloc | apply pw_below_drewN | apply below_drew1 | refine below_set ?_ GE233.out) | exact HB.out))) : w.heap.size ≤ gb234)); have n4_ := Aside0.mk ((by rw [hg]; exact (below_size (by repeat (first | (with_reducible first | exact HB.out | apply below_alloc | apply pw_below_drewN | apply below_drew1 | refine below_set ?_ GE233.out) | exact HB.out))) : w.heap.size ≤ gb234)); have n5_ := Aside0.mk ((by rw [hg]; exact Nat.ne_of_lt (blk_lt (g := gb233) (o := .cells #[.int .i64 a0_0, .int .i64 a0_1, .int .i64 a0_2, .int .i64 a0_3] 31 (0, 0)) (by (with_reducible repeat (first | refine blk_drewN ?_ _ | refine blk_drew ?_ | refine blk_alloc ?_ _)); exact BK233.out)) : gb233 ≠ gb234)); have n6_ := Aside0.mk ((by rw [hg]; exact Nat.ne_of_gt (blk_lt (g := gb233) (o := .cells #[.int .i64 a0_0, .int .i64 a0_1, .int .i64 a0_2, .int .i64 a0_3] 31 (0, 0)) (by (with_reducible repeat (first | refine blk_drewN ?_ _ | refine blk_drew ?_ | refine blk_alloc ?_ _)); exact BK233.out)) : gb234 ≠ gb233)); clear BK233; clear HB; have BK233 := n0_; have HB := n1_; have BK234 := n2_; have GW234 := n3_; have GE234 := n4_; have NB233_234 := n5_; have NB234_233 := n6_; clear n0_ n1_ n2_ n3_ n4_ n5_ n6_; clear hb hbox hg) | ((with_reducible refine gate_callee (f := 40) rfl ?_); refine goesL_ (some 15) rfl rfl Try.func40 (by kernel_rfl) rfl #[.pointer (some ⟨gb233, 0, none⟩), .pointer (some ⟨gb234, 0, none⟩), .int .i64 a2] rfl (by (try simp only [List.map_toArray, List.map_cons, List.map_nil]); first | done | rfl | (simp only [List.length_drop, List.length_take]; rfl)) ?_; (with_reducible refine (spec_l03Asked.calls k _ ([(⟨a0_0, a0_1, a0_2, a0_3⟩ : S31)]).length [(⟨a0_0, a0_1, a0_2, a0_3⟩ : S31)] _ ([(⟨l1_0, l1_1⟩ : S33)]).length [(⟨l1_0, l1_1⟩ : S33)] a2 t237 _ ?side1 ?side2 ?side3 ?side4 A4.out).mono ?_); (case side1 => refine Kd.C_block k31 (g := gb233) (cs := #[.int .i64 a0_0, .int .i64 a0_1, .int .i64 a0_2, .int .i64 a0_3]) (T := 31) (by (with_reducible repeat (first | refine blk_drewN ?_ _ | refine blk_drew ?_ | refine blk_alloc ?_ _)); exact BK233.out) (show Kd.K k31 _ (⟨a0_0, a0_1, a0_2, a0_3⟩ : S31) [.int .i64 a0_0, .int .i64 a0_1, .int .i64 a0_2, .int .i64 a0_3] from k31_mk _ _) (by decide)); (case side2 => exact Nat.le_refl _); (case side3 => refine Kd.C_block k33 (g := gb234) (cs := #[.slice A1_0 l1_0.length c1_0, .slice A1_1 l1_1.length c1_1]) (T := 33) (by (with_reducible repeat (first | refine blk_drewN ?_ _ | refine blk_drew ?_ | refine blk_alloc ?_ _)); exact BK234.out) (show Kd.K k33 _ (⟨l1_0, l1_1⟩ : S33) [.slice A1_0 l1_0.length c1_0, .slice A1_1 l1_1.length c1_1] from k33_mk _ _ (by exact HC1_0.out) (by repeat (first | exact (Kd.C_below HR1_0.out HB.out) | (with_reducible refine Kd.C_alloc ?_ _) | (with_reducible refine Kd.C_drewN ?_ _) | (with_reducible refine Kd.C_drew ?_))) (by exact HC1_1.out) (by repeat (first | exact (Kd.C_below HR1_1.out HB.out) | (with_reducible refine Kd.C_alloc ?_ _) | (with_reducible refine Kd.C_drewN ?_ _) | (with_reducible refine Kd.C_drew ?_)))) (by decide)); (case side4 => exact Nat.le_refl _); rintro e w10 ⟨rfl, hb⟩; refine ⟨_, rfl, ?_⟩; have n0_ := Aside0.mk (blk_below (g := gb233) (o := .cells #[.int .i64 a0_0, .int .i64 a0_1, .int .i64 a0_2, .int .i64 a0_3] 31 (0, 0)) (by (with_reducible repeat (first | refine blk_drewN ?_ _ | refine blk_drew ?_ | refine blk_alloc ?_ _)); exact BK233.out) hb); have n1_ := Aside0.mk (blk_below (g := gb234) (o := .cells #[.slice A1_0 l1_0.length c1_0, .slice A1_1 l1_1.length c1_1] 33 (0, 0)) (by (with_reducible repeat (first | refine blk_drewN ?_ _ | refine blk_drew ?_ | refine blk_alloc ?_ _)); exact BK234.out) hb); have n2_ := Aside0.mk (below_step (by repeat (first | (with_reducible first | exact HB.out | apply below_alloc | apply pw_below_drewN | apply below_drew1 | refine below_set ?_ GE233.out | refine below_set ?_ GE234.out) | exact HB.out)) hb); clear BK233; clear BK234; clear HB; have BK233 := n0_; have BK234 := n1_; have HB := n2_; clear n0_ n1_ n2_; (try clear hb); (try clear hb2); (try clear hk); (try clear hi)) | ((with_reducible refine gate_callee (f := 41) rfl ?_); refine goesL_ (some 22) rfl rfl Try.func41 (by kernel_rfl) rfl #[.pointer (some ⟨gb233, 0, none⟩), .pointer (some ⟨gb234, 0, none⟩), .int .i64 a2] rfl (by (try simp only [List.map_toArray, List.map_cons, List.map_nil]); first | done | rfl | (simp only [List.length_drop, List.length_take]; rfl)) ?_; (with_reducible refine (spec_l03Run.calls k _ ([(⟨a0_0, a0_1, a0_2, a0_3⟩ : S31)]).length [(⟨a0_0, a0_1, a0_2, a0_3⟩ : S31)] _ ([(⟨l1_0, l1_1⟩ : S33)]).length [(⟨l1_0, l1_1⟩ : S33)] a2 t243 t244 _ ?side1 ?side2 ?side3 ?side4 A6.out).mono ?_); (case side1 => refine Kd.C_block k31 (g := gb233) (cs := #[.int .i64 a0_0, .int .i64 a0_1, .int .i64 a0_2, .int .i64 a0_3]) (T := 31) (by (with_reducible repeat (first | refine blk_drewN ?_ _ | refine blk_drew ?_ | refine blk_alloc ?_ _)); exact BK233.out) (show Kd.K k31 _ (⟨a0_0, a0_1, a0_2, a0_3⟩ : S31) [.int .i64 a0_0, .int .i64 a0_1, .int .i64 a0_2, .int .i64 a0_3] from k31_mk _ _) (by decide)); (case side2 => exact Nat.le_refl _); (case side3 => refine Kd.C_block k33 (g := gb234) (cs := #[.slice A1_0 l1_0.length c1_0, .slice A1_1 l1_1.length c1_1]) (T := 33) (by (with_reducible repeat (first | refine blk_drewN ?_ _ | refine blk_drew ?_ | refine blk_alloc ?_ _)); exact BK234.out) (show Kd.K k33 _ (⟨l1_0, l1_1⟩ : S33) [.slice A1_0 l1_0.length c1_0, .slice A1_1 l1_1.length c1_1] from k33_mk _ _ (by exact HC1_0.out) (by repeat (first | exact (Kd.C_below HR1_0.out HB.out) | (with_reducible refine Kd.C_alloc ?_ _) | (with_reducible refine Kd.C_drewN ?_ _) | (with_reducible refine Kd.C_drew ?_))) (by exact HC1_1.out) (by repeat (first | exact (Kd.C_below HR1_1.out HB.out) | (with_reducible refine Kd.C_alloc ?_ _) | (with_reducible refine Kd.C_drewN ?_ _) | (with_reducible refine Kd.C_drew ?_)))) (by decide)); (case side4 => exact Nat.le_refl _); rintro e w11 ⟨v245, rfl, ho0, hb⟩; refine ⟨_, rfl, ?_⟩; have n0_ := Aside0.mk (Kd.R_lower ho0 (below_size (by repeat (first | (with_reducible first | exact HB.out | apply below_alloc | apply pw_below_drewN | apply below_drew1 | refine below_set ?_ GE233.out | refine below_set ?_ GE234.out) | exact HB.out)))); have n1_ := Aside0.mk (blk_below (g := gb233) (o := .cells #[.int .i64 a0_0, .int .i64 a0_1, .int .i64 a0_2, .int .i64 a0_3] 31 (0, 0)) (by (with_reducible repeat (first | refine blk_drewN ?_ _ | refine blk_drew ?_ | refine blk_alloc ?_ _)); exact BK233.out) hb); have n2_ := Aside0.mk (blk_below (g := gb234) (o := .cells #[.slice A1_0 l1_0.length c1_0, .slice A1_1 l1_1.length c1_1] 33 (0, 0)) (by (with_reducible repeat (first | refine blk_drewN ?_ _ | refine blk_drew ?_ | refine blk_alloc ?_ _)); exact BK234.out) hb); have n3_ := Aside0.mk (below_step (by repeat (first | (with_reducible first | exact HB.out | apply below_alloc | apply pw_below_drewN | apply below_drew1 | refine below_set ?_ GE233.out | refine below_set ?_ GE234.out) | exact HB.out)) hb); clear BK233; clear BK234; clear HB; have HO246 := n0_; have BK233 := n1_; have BK234 := n2_; have HB := n3_; clear n0_ n1_ n2_ n3_; (try clear hb); (try clear hb2); (try clear hk); (try clear hi); (try clear ho0)) | ((with_reducible refine gate_dst (N := 29) rfl ?_); refine Kd.R_lit (Kd.int .i8) _ 49 ?hg (N := 29) ?hd (xs := ([] : List Int)) (inner := []) (ok := fun _ => True) (okp := fun _ => True) ?hr ?hp (fun _ hk => hk) trivial (Below.refl _ _) (Nat.le_refl _) (by simp) ?_; (case hd => rfl); (case hg => rfl); (case hr => first | (go_simp; done) | (go_simp; rfl)); (case hp => exact (Reps.none _ _)); intro v251 w12 ho13 hb hg_ hnew_; clear hg_ hnew_; (first | rw [← Ny250.out] at ho13 | (simp only [Int.reduceToNat] at ho13; rw [← Ny250.out] at ho13)); have n0_ := Aside0.mk (Kd.R_below (by (with_reducible repeat (first | apply Kd.R_alloc | apply Kd.R_drewN | apply Kd.R_drew)); exact HO246.out) hb); have n1_ := Aside0.mk (Kd.R_lower ho13 (below_size (by repeat (first | (with_reducible first | exact HB.out | apply below_alloc | apply pw_below_drewN | apply below_drew1 | refine below_set ?_ GE233.out | refine below_set ?_ GE234.out) | exact HB.out)))); have n2_ := Aside0.mk (blk_below (g := gb233) (o := .cells #[.int .i64 a0_0, .int .i64 a0_1, .int .i64 a0_2, .int .i64 a0_3] 31 (0, 0)) (by (with_reducible repeat (first | refine blk_drewN ?_ _ | refine blk_drew ?_ | refine blk_alloc ?_ _)); exact BK233.out) hb); have n3_ := Aside0.mk (blk_below (g := gb234) (o := .cells #[.slice A1_0 l1_0.length c1_0, .slice A1_1 l1_1.length c1_1] 33 (0, 0)) (by (with_reducible repeat (first | refine blk_drewN ?_ _ | refine blk_drew ?_ | refine blk_alloc ?_ _)); exact BK234.out) hb); have n4_ := Aside0.mk (below_step (by repeat (first | (with_reducible first | exact HB.out | apply below_alloc | apply pw_below_drewN | apply below_drew1 | refine below_set ?_ GE233.out | refine below_set ?_ GE234.out) | exact HB.out)) hb); clear HO246; clear BK233; clear BK234; clear HB; have HO246 := n0_; have HO252 := n1_; have BK233 := n2_; have BK234 := n3_; have HB := n4_; clear n0_ n1_ n2_ n3_ n4_; clear hb ho13))
   go_loopg [12, 13] k (fun kq v12 v13 w' => ∃ (x12_1 : List Int) (x13_1 : Int), v13 = .int .i64 x13_1 ∧ Aside0 (spec_MoebiusDigits.l0 kq t243 x12_1 x13_1 = some (r1, r2, r3)) ∧ Aside0 (kq ≤ k) ∧ Aside0 (Kd.R k51 51 w' w.heap.size (fun _ => True) v245 t243) ∧ Aside0 (Kd.R (Kd.int .i8) 49 w' w.heap.size (fun _ => True) v12 x12_1) ∧ Aside0 (w'.heap[gb233]? = some (.cells #[.int .i64 a0_0, .int .i64 a0_1, .int .i64 a0_2, .int .i64 a0_3] 31 (0, 0))) ∧ Aside0 (w'.heap[gb234]? = some (.cells #[(.slice A1_0 l1_0.length c1_0), (.slice A1_1 l1_1.length c1_1)] 33 (0, 0))) ∧ Aside0 (Below w.heap.size w w'))
   case atStart => exact ⟨(y250), (0), (by first | rfl | (simp; done) | (simp [*]; done) | (simp [isE_]; done)), H', ⟨Nat.le_refl _⟩, ⟨by (with_reducible repeat (first | apply Kd.R_alloc | apply Kd.R_drewN | apply Kd.R_drew)); exact HO246.out⟩, ⟨by (with_reducible repeat (first | apply Kd.R_alloc | apply Kd.R_drewN | apply Kd.R_drew)); exact HO252.out⟩, ⟨by (with_reducible repeat (first | refine blk_drewN ?_ _ | refine blk_drew ?_ | refine blk_alloc ?_ _)); exact BK233.out⟩, ⟨by (with_reducible repeat (first | refine blk_drewN ?_ _ | refine blk_drew ?_ | refine blk_alloc ?_ _)); exact BK234.out⟩, ⟨by repeat (first | (with_reducible first | exact HB.out | apply below_alloc | apply pw_below_drewN | apply below_drew1 | refine below_set ?_ GE233.out | refine below_set ?_ GE234.out) | exact HB.out)⟩⟩
   case round =>
    clear H'
    try clear c1
    try clear p2
    try clear c4
    try clear c5
    try clear c5b0
    try clear c5b1
    try clear c7
    try clear c7b0
    try clear c7b1
    obtain ⟨x12_1, x13_1, rfl, HA, HK1, HO_10, HO_12, BK233, BK234, HB⟩ := hrel
    cases gk with
    | zero => exact absurd HA.out (by simp [spec_MoebiusDigits.l0])
    | succ k1 =>
     have H := HA.out
     clear HA
     simp only [spec_MoebiusDigits.l0] at H
     by_cases c14 : x13_1 < (t243.length : Int)
     ·
      rw [if_pos c14] at H
      have c14b0 : decide (x13_1 < (t243.length : Int)) = true := decide_eq_true c14
      clear c14
      by_cases c15 : 0 ≤ x13_1
      ·
       rw [if_pos c15] at H
       have c15b0 : decide (0 ≤ x13_1) = true := decide_eq_true c15
       clear c15
       obtain ⟨bq16, hbq16⟩ : ∃ b_ : Bool, b_ = ((rd_T51 t243 x13_1).f0) := ⟨_, rfl⟩
       replace H : (if bq16 = true then (if x12_1.length < 140737488355328 then (spec_MoebiusDigits.l0 k1 t243 (x12_1 ++ [(rd_T51 t243 x13_1).f1]) (wrap64 (x13_1 + 1))) else (none)) else (spec_MoebiusDigits.l0 k1 t243 x12_1 (wrap64 (x13_1 + 1)))) = some (r1, r2, r3) := by rw [← hbq16] at H; exact H
       have Nbq16 := Aside0.mk hbq16
       clear hbq16
       by_cases c17 : bq16 = true
       ·
        subst c17
        have H1 : (if x12_1.length < 140737488355328 then (spec_MoebiusDigits.l0 k1 t243 (x12_1 ++ [(rd_T51 t243 x13_1).f1]) (wrap64 (x13_1 + 1))) else (none)) = some (r1, r2, r3) := by first | (rw [if_pos rfl] at H; exact H) | rfl
        clear H
        have H := H1
        clear H1
        by_cases c18 : x12_1.length < 140737488355328
        ·
         rw [if_pos c18] at H
         have LMc18 := Aside0.mk c18
         clear c18
         obtain ⟨y255, hy255⟩ : ∃ y_ : List Int, y_ = (x12_1 ++ [(rd_T51 t243 x13_1).f1]) := ⟨_, rfl⟩
         replace H : (spec_MoebiusDigits.l0 k1 t243 y255 (wrap64 (x13_1 + 1))) = some (r1, r2, r3) := by first | (rw [hy255]; with_reducible exact H) | (have H2_ := (Option.bind_some _ _).symm.trans H; rw [hy255]; with_reducible exact H2_) | (have H2_ := (Option.bind_some _ _).symm.trans H; with_reducible exact H2_) | with_reducible exact H | (rw [hy255]; exact H) | exact H
         have Ny255 := Aside0.mk hy255
         clear hy255
         have H' := Aside0.mk H
         clear H
         obtain ⟨Ao19, co19, eo19⟩ := Kd.R_slice HO_10.out
         subst eo19
         have p253 : 0 ≤ (x13_1 : Int) := of_decide_eq_true (by assumption)
         have q253 : x13_1 < (t243.length : Int) := of_decide_eq_true (by assumption)
         obtain ⟨ad253, e253, hx253_0, hx253_1, hx253_2, hx253_3, hx253_4, hx253_5⟩ := at_T51 (Kd.R_reads' HO_10.out).2.2 x13_1 p253 q253
         (try rw [← Nbq16.out] at hx253_0)
         cases e253
         replace p253 := eq_true p253
         replace q253 := eq_true q253
         have p254 : 0 ≤ (x13_1 : Int) := of_decide_eq_true (by assumption)
         have q254 : x13_1 < (t243.length : Int) := of_decide_eq_true (by assumption)
         obtain ⟨ad254, e254, hx254_0, hx254_1, hx254_2, hx254_3, hx254_4, hx254_5⟩ := at_T51 (Kd.R_reads' HO_10.out).2.2 x13_1 p254 q254
         (try rw [← Nbq16.out] at hx254_0)
         obtain rfl : ad253 = ad254 := (by injection e254)
         replace p254 := eq_true p254
         replace q254 := eq_true q254
         go_wp2_with (first | ((with_reducible refine gate_builtin (b := .append) (xs := #[.tmp 41, .tmp 47]) rfl ?_); at_builtin; refine Kd.R_append (Kd.int .i8) (w0 := w) w.heap.size rfl (.tmp 41) (.tmp 47) 24 49 (.int .i8 0) 1 rfl Try.underlying24 info49 rfl (by decide) (by omega) u12 x12_1 ((rd_T51 t243 x13_1).f1) [.int .i8 ((rd_T51 t243 x13_1).f1)] (fun _ => True) (fun _ => False) rfl rfl ?aP (fun _ hk => hk.elim) ?aF ?aO ?aB ?aS ?aL ?_; (case aP => exact rfl); (case aB => exact (by repeat (first | (with_reducible first | exact HB.out | apply below_alloc | apply pw_below_drewN | apply below_drew1 | refine below_set ?_ GE233.out | refine below_set ?_ GE234.out) | exact HB.out))); (case aF => exact (fun _ _ => trivial)); (case aO => exact (by (with_reducible repeat (first | apply Kd.R_alloc | apply Kd.R_drewN | apply Kd.R_drew)); exact HO_12.out)); (case aS => exact (below_size (by repeat (first | (with_reducible first | exact HB.out | apply below_alloc | apply pw_below_drewN | apply below_drew1 | refine below_set ?_ GE233.out | refine below_set ?_ GE234.out) | exact HB.out)))); (case aL => have := LMc18.out; omega); intro v256 w20 ho hb hg hat; rw [← Ny255.out] at ho; have n0_ := Aside0.mk (Kd.R_over' (by (with_reducible repeat (first | apply Kd.R_alloc | apply Kd.R_drewN | apply Kd.R_drew)); exact HO_10.out) (Kd.R_typed (by (with_reducible repeat (first | apply Kd.R_alloc | apply Kd.R_drewN | apply Kd.R_drew)); exact HO_12.out)) (by decide) hg); have n1_ := Aside0.mk (blk_grown (g := gb233) (o := .cells #[.int .i64 a0_0, .int .i64 a0_1, .int .i64 a0_2, .int .i64 a0_3] 31 (0, 0)) (by (with_reducible repeat (first | refine blk_drewN ?_ _ | refine blk_drew ?_ | refine blk_alloc ?_ _)); exact BK233.out) hg (Kd.R_ne HO_12.out BK233.out (by decide))); have n2_ := Aside0.mk (blk_grown (g := gb234) (o := .cells #[.slice A1_0 l1_0.length c1_0, .slice A1_1 l1_1.length c1_1] 33 (0, 0)) (by (with_reducible repeat (first | refine blk_drewN ?_ _ | refine blk_drew ?_ | refine blk_alloc ?_ _)); exact BK234.out) hg (Kd.R_ne HO_12.out BK234.out (by decide))); have n3_ := Aside0.mk (hb); have n4_ := Aside0.mk (ho); clear HO_10; clear BK233; clear BK234; clear HB; clear HO_12; have HO_10 := n0_; have BK233 := n1_; have BK234 := n2_; have HB := n3_; have HO257 := n4_; clear n0_ n1_ n2_ n3_ n4_; clear ho hb hg hat))
         go_roundg k1
         case measure => have := HK1.out; omega
         case rel => exact ⟨(y255), (wrap64 (x13_1 + 1)), (by first | rfl | (simp; done) | (simp [*]; done) | (simp [isE_]; done)), H', ⟨by have := HK1.out; omega⟩, ⟨by (with_reducible repeat (first | apply Kd.R_alloc | apply Kd.R_drewN | apply Kd.R_drew)); exact HO_10.out⟩, ⟨by (with_reducible repeat (first | apply Kd.R_alloc | apply Kd.R_drewN | apply Kd.R_drew)); exact HO257.out⟩, ⟨by (with_reducible repeat (first | refine blk_drewN ?_ _ | refine blk_drew ?_ | refine blk_alloc ?_ _)); exact BK233.out⟩, ⟨by (with_reducible repeat (first | refine blk_drewN ?_ _ | refine blk_drew ?_ | refine blk_alloc ?_ _)); exact BK234.out⟩, ⟨by repeat (first | (with_reducible first | exact HB.out | apply below_alloc | apply pw_below_drewN | apply below_drew1 | refine below_set ?_ GE233.out | refine below_set ?_ GE234.out) | exact HB.out)⟩⟩
        ·
         rw [if_neg c18] at H
         exact absurd H (by simp)
       ·
        replace c17 := Bool.eq_false_iff.mpr c17
        subst c17
        have H1 : (spec_MoebiusDigits.l0 k1 t243 x12_1 (wrap64 (x13_1 + 1))) = some (r1, r2, r3) := by first | (rw [if_neg (show ¬ (false = true) by decide)] at H; exact H) | rfl
        clear H
        have H := H1
        clear H1
        have H' := Aside0.mk H
        clear H
        obtain ⟨Ao21, co21, eo21⟩ := Kd.R_slice HO_10.out
        subst eo21
        have p253 : 0 ≤ (x13_1 : Int) := of_decide_eq_true (by assumption)
        have q253 : x13_1 < (t243.length : Int) := of_decide_eq_true (by assumption)
        obtain ⟨ad253, e253, hx253_0, hx253_1, hx253_2, hx253_3, hx253_4, hx253_5⟩ := at_T51 (Kd.R_reads' HO_10.out).2.2 x13_1 p253 q253
        (try rw [← Nbq16.out] at hx253_0)
        cases e253
        replace p253 := eq_true p253
        replace q253 := eq_true q253
        go_wp2
        go_roundg k1
        case measure => have := HK1.out; omega
        case rel => exact ⟨(x12_1), (wrap64 (x13_1 + 1)), (by first | rfl | (simp; done) | (simp [*]; done) | (simp [isE_]; done)), H', ⟨by have := HK1.out; omega⟩, ⟨by (with_reducible repeat (first | apply Kd.R_alloc | apply Kd.R_drewN | apply Kd.R_drew)); exact HO_10.out⟩, ⟨by (with_reducible repeat (first | apply Kd.R_alloc | apply Kd.R_drewN | apply Kd.R_drew)); exact HO_12.out⟩, ⟨by (with_reducible repeat (first | refine blk_drewN ?_ _ | refine blk_drew ?_ | refine blk_alloc ?_ _)); exact BK233.out⟩, ⟨by (with_reducible repeat (first | refine blk_drewN ?_ _ | refine blk_drew ?_ | refine blk_alloc ?_ _)); exact BK234.out⟩, ⟨by repeat (first | (with_reducible first | exact HB.out | apply below_alloc | apply pw_below_drewN | apply below_drew1 | refine below_set ?_ GE233.out | refine below_set ?_ GE234.out) | exact HB.out)⟩⟩
      ·
       rw [if_neg c15] at H
       exact absurd H (by simp)
     ·
      rw [if_neg c14] at H
      have c14b0 : decide (x13_1 < (t243.length : Int)) = false := decide_eq_false c14
      clear c14
      simp only [Option.some.injEq, Prod.mk.injEq] at H
      obtain ⟨rfl, rfl, rfl⟩ := H
      obtain ⟨Ao22, co22, eo22⟩ := Kd.R_slice HO_10.out
      subst eo22
      obtain ⟨Ao23, co23, eo23⟩ := Kd.R_slice HO_12.out
      subst eo23
      go_wp2
      go_ret3
      exact ⟨_, by first | rfl | (simp [errW_none, errW_some] <;> rfl) | (simp [*, errW_none, errW_some] <;> rfl), by (with_reducible repeat (first | apply Kd.R_alloc | apply Kd.R_drewN | apply Kd.R_drew)); exact HO_12.out, by repeat (first | (with_reducible first | exact HB.out | apply below_alloc | apply pw_below_drewN | apply below_drew1 | refine below_set ?_ GE233.out | refine below_set ?_ GE234.out) | exact HB.out)⟩
  ·
   rw [if_neg c7] at H
   have c7b0 : (t244 == 0) = false := beq_eq_false_iff_ne.mpr c7
   have c7b1 : (t244 != 0) = true := bne_iff_ne.mpr c7
   obtain ⟨y247, hy247⟩ : ∃ y_ : List Int, y_ = (([] : List Int)) := ⟨_, rfl⟩
   replace H : (some (y247, 0, t244)) = some (r1, r2, r3) := by first | (rw [hy247]; with_reducible exact H) | (have H2_ := (Option.bind_some _ _).symm.trans H; rw [hy247]; with_reducible exact H2_) | (have H2_ := (Option.bind_some _ _).symm.trans H; with_reducible exact H2_) | with_reducible exact H | (rw [hy247]; exact H) | exact H
   have Ny247 := Aside0.mk hy247
   clear hy247
   simp only [Option.some.injEq, Prod.mk.injEq] at H
   obtain ⟨rfl, rfl, rfl⟩ := H
   go_enter Try.func17, Try.ntmps17
   go_wp2_with (first | ((with_reducible refine gate_dst (N := 3) rfl ?_); refine box_event ?hg (N := 3) ?hd (cs := #[.int .i64 a0_0, .int .i64 a0_1, .int .i64 a0_2, .int .i64 a0_3]) (t := 31) ?hr ?_; (case hd => rfl); (case hg => rfl); (case hr => first | (go_simp; done) | (go_simp; rfl)); intro gb233 hg w24 hbox hb; have n0_ := Aside0.mk (below_step (by repeat (first | (with_reducible first | exact HB.out | apply below_alloc | apply pw_below_drewN | apply below_drew1) | exact HB.out)) hb); have n1_ := Aside0.mk (hbox); have n2_ := Aside0.mk ((by rw [hg]; exact (below_size (by repeat (first | (with_reducible first | exact HB.out | apply below_alloc | apply pw_below_drewN | apply below_drew1) | exact HB.out))) : w.heap.size ≤ gb233)); have n3_ := Aside0.mk ((by rw [hg]; exact (below_size (by repeat (first | (with_reducible first | exact HB.out | apply below_alloc | apply pw_below_drewN | apply below_drew1) | exact HB.out))) : w.heap.size ≤ gb233)); clear HB; have HB := n0_; have BK233 := n1_; have GW233 := n2_; have GE233 := n3_; clear n0_ n1_ n2_ n3_; clear hb hbox hg) | ((with_reducible refine gate_dst (N := 4) rfl ?_); refine box_event ?hg (N := 4) ?hd (cs := #[.slice A1_0 l1_0.length c1_0, .slice A1_1 l1_1.length c1_1]) (t := 33) ?hr ?_; (case hd => rfl); (case hg => rfl); (case hr => first | (go_simp; done) | (go_simp; rfl)); intro gb234 hg w25 hbox hb; have n0_ := Aside0.mk (blk_below (g := gb233) (o := .cells #[.int .i64 a0_0, .int .i64 a0_1, .int .i64 a0_2, .int .i64 a0_3] 31 (0, 0)) (by (with_reducible repeat (first | refine blk_drewN ?_ _ | refine blk_drew ?_ | refine blk_alloc ?_ _)); exact BK233.out) hb); have n1_ := Aside0.mk (below_step (by repeat (first | (with_reducible first | exact HB.out | apply below_alloc | apply pw_below_drewN | apply below_drew1 | refine below_set ?_ GE233.out) | exact HB.out)) hb); have n2_ := Aside0.mk (hbox); have n3_ := Aside0.mk ((by rw [hg]; exact (below_size (by repeat (first | (with_reducible first | exact HB.out | apply below_alloc | apply pw_below_drewN | apply below_drew1 | refine below_set ?_ GE233.out) | exact HB.out))) : w.heap.size ≤ gb234)); have n4_ := Aside0.mk ((by rw [hg]; exact (below_size (by repeat (first | (with_reducible first | exact HB.out | apply below_alloc | apply pw_below_drewN | apply below_drew1 | refine below_set ?_ GE233.out) | exact HB.out))) : w.heap.size ≤ gb234)); have n5_ := Aside0.mk ((by rw [hg]; exact Nat.ne_of_lt (blk_lt (g := gb233) (o := .cells #[.int .i64 a0_0, .int .i64 a0_1, .int .i64 a0_2, .int .i64 a0_3] 31 (0, 0)) (by (with_reducible repeat (first | refine blk_drewN ?_ _ | refine blk_drew ?_ | refine blk_alloc ?_ _)); exact BK233.out)) : gb233 ≠ gb234)); have n6_ := Aside0.mk ((by rw [hg]; exact Nat.ne_of_gt (blk_lt (g := gb233) (o := .cells #[.int .i64 a0_0, .int .i64 a0_1, .int .i64 a0_2, .int .i64 a0_3] 31 (0, 0)) (by (with_reducible repeat (first | refine blk_drewN ?_ _ | refine blk_drew ?_ | refine blk_alloc ?_ _)); exact BK233.out)) : gb234 ≠ gb233)); clear BK233; clear HB; have BK233 := n0_; have HB := n1_; have BK234 := n2_; have GW234 := n3_; have GE234 := n4_; have NB233_234 := n5_; have NB234_233 := n6_; clear n0_ n1_ n2_ n3_ n4_ n5_ n6_; clear hb hbox hg) | ((with_reducible refine gate_callee (f := 40) rfl ?_); refine goesL_ (some 15) rfl rfl Try.func40 (by kernel_rfl) rfl #[.pointer (some ⟨gb233, 0, none⟩), .pointer (some ⟨gb234, 0, none⟩), .int .i64 a2] rfl (by (try simp only [List.map_toArray, List.map_cons, List.map_nil]); first | done | rfl | (simp only [List.length_drop, List.length_take]; rfl)) ?_; (with_reducible refine (spec_l03Asked.calls k _ ([(⟨a0_0, a0_1, a0_2, a0_3⟩ : S31)]).length [(⟨a0_0, a0_1, a0_2, a0_3⟩ : S31)] _ ([(⟨l1_0, l1_1⟩ : S33)]).length [(⟨l1_0, l1_1⟩ : S33)] a2 t237 _ ?side1 ?side2 ?side3 ?side4 A4.out).mono ?_); (case side1 => refine Kd.C_block k31 (g := gb233) (cs := #[.int .i64 a0_0, .int .i64 a0_1, .int .i64 a0_2, .int .i64 a0_3]) (T := 31) (by (with_reducible repeat (first | refine blk_drewN ?_ _ | refine blk_drew ?_ | refine blk_alloc ?_ _)); exact BK233.out) (show Kd.K k31 _ (⟨a0_0, a0_1, a0_2, a0_3⟩ : S31) [.int .i64 a0_0, .int .i64 a0_1, .int .i64 a0_2, .int .i64 a0_3] from k31_mk _ _) (by decide)); (case side2 => exact Nat.le_refl _); (case side3 => refine Kd.C_block k33 (g := gb234) (cs := #[.slice A1_0 l1_0.length c1_0, .slice A1_1 l1_1.length c1_1]) (T := 33) (by (with_reducible repeat (first | refine blk_drewN ?_ _ | refine blk_drew ?_ | refine blk_alloc ?_ _)); exact BK234.out) (show Kd.K k33 _ (⟨l1_0, l1_1⟩ : S33) [.slice A1_0 l1_0.length c1_0, .slice A1_1 l1_1.length c1_1] from k33_mk _ _ (by exact HC1_0.out) (by repeat (first | exact (Kd.C_below HR1_0.out HB.out) | (with_reducible refine Kd.C_alloc ?_ _) | (with_reducible refine Kd.C_drewN ?_ _) | (with_reducible refine Kd.C_drew ?_))) (by exact HC1_1.out) (by repeat (first | exact (Kd.C_below HR1_1.out HB.out) | (with_reducible refine Kd.C_alloc ?_ _) | (with_reducible refine Kd.C_drewN ?_ _) | (with_reducible refine Kd.C_drew ?_)))) (by decide)); (case side4 => exact Nat.le_refl _); rintro e w26 ⟨rfl, hb⟩; refine ⟨_, rfl, ?_⟩; have n0_ := Aside0.mk (blk_below (g := gb233) (o := .cells #[.int .i64 a0_0, .int .i64 a0_1, .int .i64 a0_2, .int .i64 a0_3] 31 (0, 0)) (by (with_reducible repeat (first | refine blk_drewN ?_ _ | refine blk_drew ?_ | refine blk_alloc ?_ _)); exact BK233.out) hb); have n1_ := Aside0.mk (blk_below (g := gb234) (o := .cells #[.slice A1_0 l1_0.length c1_0, .slice A1_1 l1_1.length c1_1] 33 (0, 0)) (by (with_reducible repeat (first | refine blk_drewN ?_ _ | refine blk_drew ?_ | refine blk_alloc ?_ _)); exact BK234.out) hb); have n2_ := Aside0.mk (below_step (by repeat (first | (with_reducible first | exact HB.out | apply below_alloc | apply pw_below_drewN | apply below_drew1 | refine below_set ?_ GE233.out | refine below_set ?_ GE234.out) | exact HB.out)) hb); clear BK233; clear BK234; clear HB; have BK233 := n0_; have BK234 := n1_; have HB := n2_; clear n0_ n1_ n2_; (try clear hb); (try clear hb2); (try clear hk); (try clear hi)) | ((with_reducible refine gate_callee (f := 41) rfl ?_); refine goesL_ (some 22) rfl rfl Try.func41 (by kernel_rfl) rfl #[.pointer (some ⟨gb233, 0, none⟩), .pointer (some ⟨gb234, 0, none⟩), .int .i64 a2] rfl (by (try simp only [List.map_toArray, List.map_cons, List.map_nil]); first | done | rfl | (simp only [List.length_drop, List.length_take]; rfl)) ?_; (with_reducible refine (spec_l03Run.calls k _ ([(⟨a0_0, a0_1, a0_2, a0_3⟩ : S31)]).length [(⟨a0_0, a0_1, a0_2, a0_3⟩ : S31)] _ ([(⟨l1_0, l1_1⟩ : S33)]).length [(⟨l1_0, l1_1⟩ : S33)] a2 t243 t244 _ ?side1 ?side2 ?side3 ?side4 A6.out).mono ?_); (case side1 => refine Kd.C_block k31 (g := gb233) (cs := #[.int .i64 a0_0, .int .i64 a0_1, .int .i64 a0_2, .int .i64 a0_3]) (T := 31) (by (with_reducible repeat (first | refine blk_drewN ?_ _ | refine blk_drew ?_ | refine blk_alloc ?_ _)); exact BK233.out) (show Kd.K k31 _ (⟨a0_0, a0_1, a0_2, a0_3⟩ : S31) [.int .i64 a0_0, .int .i64 a0_1, .int .i64 a0_2, .int .i64 a0_3] from k31_mk _ _) (by decide)); (case side2 => exact Nat.le_refl _); (case side3 => refine Kd.C_block k33 (g := gb234) (cs := #[.slice A1_0 l1_0.length c1_0, .slice A1_1 l1_1.length c1_1]) (T := 33) (by (with_reducible repeat (first | refine blk_drewN ?_ _ | refine blk_drew ?_ | refine blk_alloc ?_ _)); exact BK234.out) (show Kd.K k33 _ (⟨l1_0, l1_1⟩ : S33) [.slice A1_0 l1_0.length c1_0, .slice A1_1 l1_1.length c1_1] from k33_mk _ _ (by exact HC1_0.out) (by repeat (first | exact (Kd.C_below HR1_0.out HB.out) | (with_reducible refine Kd.C_alloc ?_ _) | (with_reducible refine Kd.C_drewN ?_ _) | (with_reducible refine Kd.C_drew ?_))) (by exact HC1_1.out) (by repeat (first | exact (Kd.C_below HR1_1.out HB.out) | (with_reducible refine Kd.C_alloc ?_ _) | (with_reducible refine Kd.C_drewN ?_ _) | (with_reducible refine Kd.C_drew ?_)))) (by decide)); (case side4 => exact Nat.le_refl _); rintro e w27 ⟨v245, rfl, ho0, hb⟩; refine ⟨_, rfl, ?_⟩; have n0_ := Aside0.mk (Kd.R_lower ho0 (below_size (by repeat (first | (with_reducible first | exact HB.out | apply below_alloc | apply pw_below_drewN | apply below_drew1 | refine below_set ?_ GE233.out | refine below_set ?_ GE234.out) | exact HB.out)))); have n1_ := Aside0.mk (blk_below (g := gb233) (o := .cells #[.int .i64 a0_0, .int .i64 a0_1, .int .i64 a0_2, .int .i64 a0_3] 31 (0, 0)) (by (with_reducible repeat (first | refine blk_drewN ?_ _ | refine blk_drew ?_ | refine blk_alloc ?_ _)); exact BK233.out) hb); have n2_ := Aside0.mk (blk_below (g := gb234) (o := .cells #[.slice A1_0 l1_0.length c1_0, .slice A1_1 l1_1.length c1_1] 33 (0, 0)) (by (with_reducible repeat (first | refine blk_drewN ?_ _ | refine blk_drew ?_ | refine blk_alloc ?_ _)); exact BK234.out) hb); have n3_ := Aside0.mk (below_step (by repeat (first | (with_reducible first | exact HB.out | apply below_alloc | apply pw_below_drewN | apply below_drew1 | refine below_set ?_ GE233.out | refine below_set ?_ GE234.out) | exact HB.out)) hb); clear BK233; clear BK234; clear HB; have HO246 := n0_; have BK233 := n1_; have BK234 := n2_; have HB := n3_; clear n0_ n1_ n2_ n3_; (try clear hb); (try clear hb2); (try clear hk); (try clear hi); (try clear ho0)) | ((with_reducible refine gate_dst (N := 27) rfl ?_); refine Kd.R_lit (Kd.int .i8) _ 49 ?hg (N := 27) ?hd (xs := ([] : List Int)) (inner := []) (ok := fun _ => True) (okp := fun _ => True) ?hr ?hp (fun _ hk => hk) trivial (Below.refl _ _) (Nat.le_refl _) (by simp) ?_; (case hd => rfl); (case hg => rfl); (case hr => first | (go_simp; done) | (go_simp; rfl)); (case hp => exact (Reps.none _ _)); intro v248 w28 ho29 hb hg_ hnew_; clear hg_ hnew_; (first | rw [← Ny247.out] at ho29 | (simp only [Int.reduceToNat] at ho29; rw [← Ny247.out] at ho29)); have n0_ := Aside0.mk (Kd.R_below (by (with_reducible repeat (first | apply Kd.R_alloc | apply Kd.R_drewN | apply Kd.R_drew)); exact HO246.out) hb); have n1_ := Aside0.mk (Kd.R_lower ho29 (below_size (by repeat (first | (with_reducible first | exact HB.out | apply below_alloc | apply pw_below_drewN | apply below_drew1 | refine below_set ?_ GE233.out | refine below_set ?_ GE234.out) | exact HB.out)))); have n2_ := Aside0.mk (blk_below (g := gb233) (o := .cells #[.int .i64 a0_0, .int .i64 a0_1, .int .i64 a0_2, .int .i64 a0_3] 31 (0, 0)) (by (with_reducible repeat (first | refine blk_drewN ?_ _ | refine blk_drew ?_ | refine blk_alloc ?_ _)); exact BK233.out) hb); have n3_ := Aside0.mk (blk_below (g := gb234) (o := .cells #[.slice A1_0 l1_0.length c1_0, .slice A1_1 l1_1.length c1_1] 33 (0, 0)) (by (with_reducible repeat (first | refine blk_drewN ?_ _ | refine blk_drew ?_ | refine blk_alloc ?_ _)); exact BK234.out) hb); have n4_ := Aside0.mk (below_step (by repeat (first | (with_reducible first | exact HB.out | apply below_alloc | apply pw_below_drewN | apply below_drew1 | refine below_set ?_ GE233.out | refine below_set ?_ GE234.out) | exact HB.out)) hb); clear HO246; clear BK233; clear BK234; clear HB; have HO246 := n0_; have HO249 := n1_; have BK233 := n2_; have BK234 := n3_; have HB := n4_; clear n0_ n1_ n2_ n3_ n4_; clear hb ho29))
   go_ret3
   exact ⟨_, by first | rfl | (simp [errW_none, errW_some] <;> rfl) | (simp [*, errW_none, errW_some] <;> rfl), by (with_reducible repeat (first | apply Kd.R_alloc | apply Kd.R_drewN | apply Kd.R_drew)); exact HO249.out, by repeat (first | (with_reducible first | exact HB.out | apply below_alloc | apply pw_below_drewN | apply below_drew1 | refine below_set ?_ GE233.out | refine below_set ?_ GE234.out) | exact HB.out)⟩
 ·
  rw [if_neg c5] at H
  have c5b0 : (t237 == 0) = false := beq_eq_false_iff_ne.mpr c5
  have c5b1 : (t237 != 0) = true := bne_iff_ne.mpr c5
  obtain ⟨y238, hy238⟩ : ∃ y_ : List Int, y_ = (([] : List Int)) := ⟨_, rfl⟩
  replace H : (some (y238, 0, t237)) = some (r1, r2, r3) := by first | (rw [hy238]; with_reducible exact H) | (have H2_ := (Option.bind_some _ _).symm.trans H; rw [hy238]; with_reducible exact H2_) | (have H2_ := (Option.bind_some _ _).symm.trans H; with_reducible exact H2_) | with_reducible exact H | (rw [hy238]; exact H) | exact H
  have Ny238 := Aside0.mk hy238
  clear hy238
  simp only [Option.some.injEq, Prod.mk.injEq] at H
  obtain ⟨rfl, rfl, rfl⟩ := H
  go_enter Try.func17, Try.ntmps17
  go_wp2_with (first | ((with_reducible refine gate_dst (N := 3) rfl ?_); refine box_event ?hg (N := 3) ?hd (cs := #[.int .i64 a0_0, .int .i64 a0_1, .int .i64 a0_2, .int .i64 a0_3]) (t := 31) ?hr ?_; (case hd => rfl); (case hg => rfl); (case hr => first | (go_simp; done) | (go_simp; rfl)); intro gb233 hg w30 hbox hb; have n0_ := Aside0.mk (below_step (by repeat (first | (with_reducible first | exact HB.out | apply below_alloc | apply pw_below_drewN | apply below_drew1) | exact HB.out)) hb); have n1_ := Aside0.mk (hbox); have n2_ := Aside0.mk ((by rw [hg]; exact (below_size (by repeat (first | (with_reducible first | exact HB.out | apply below_alloc | apply pw_below_drewN | apply below_drew1) | exact HB.out))) : w.heap.size ≤ gb233)); have n3_ := Aside0.mk ((by rw [hg]; exact (below_size (by repeat (first | (with_reducible first | exact HB.out | apply below_alloc | apply pw_below_drewN | apply below_drew1) | exact HB.out))) : w.heap.size ≤ gb233)); clear HB; have HB := n0_; have BK233 := n1_; have GW233 := n2_; have GE233 := n3_; clear n0_ n1_ n2_ n3_; clear hb hbox hg) | ((with_reducible refine gate_dst (N := 4) rfl ?_); refine box_event ?hg (N := 4) ?hd (cs := #[.slice A1_0 l1_0.length c1_0, .slice A1_1 l1_1.length c1_1]) (t := 33) ?hr ?_; (case hd => rfl); (case hg => rfl); (case hr => first | (go_simp; done) | (go_simp; rfl)); intro gb234 hg w31 hbox hb; have n0_ := Aside0.mk (blk_below (g := gb233) (o := .cells #[.int .i64 a0_0, .int .i64 a0_1, .int .i64 a0_2, .int .i64 a0_3] 31 (0, 0)) (by (with_reducible repeat (first | refine blk_drewN ?_ _ | refine blk_drew ?_ | refine blk_alloc ?_ _)); exact BK233.out) hb); have n1_ := Aside0.mk (below_step (by repeat (first | (with_reducible first | exact HB.out | apply below_alloc | apply pw_below_drewN | apply below_drew1 | refine below_set ?_ GE233.out) | exact HB.out)) hb); have n2_ := Aside0.mk (hbox); have n3_ := Aside0.mk ((by rw [hg]; exact (below_size (by repeat (first | (with_reducible first | exact HB.out | apply below_alloc | apply pw_below_drewN | apply below_drew1 | refine below_set ?_ GE233.out) | exact HB.out))) : w.heap.size ≤ gb234)); have n4_ := Aside0.mk ((by rw [hg]; exact (below_size (by repeat (first | (with_reducible first | exact HB.out | apply below_alloc | apply pw_below_drewN | apply below_drew1 | refine below_set ?_ GE233.out) | exact HB.out))) : w.heap.size ≤ gb234)); have n5_ := Aside0.mk ((by rw [hg]; exact Nat.ne_of_lt (blk_lt (g := gb233) (o := .cells #[.int .i64 a0_0, .int .i64 a0_1, .int .i64 a0_2, .int .i64 a0_3] 31 (0, 0)) (by (with_reducible repeat (first | refine blk_drewN ?_ _ | refine blk_drew ?_ | refine blk_alloc ?_ _)); exact BK233.out)) : gb233 ≠ gb234)); have n6_ := Aside0.mk ((by rw [hg]; exact Nat.ne_of_gt (blk_lt (g := gb233) (o := .cells #[.int .i64 a0_0, .int .i64 a0_1, .int .i64 a0_2, .int .i64 a0_3] 31 (0, 0)) (by (with_reducible repeat (first | refine blk_drewN ?_ _ | refine blk_drew ?_ | refine blk_alloc ?_ _)); exact BK233.out)) : gb234 ≠ gb233)); clear BK233; clear HB; have BK233 := n0_; have HB := n1_; have BK234 := n2_; have GW234 := n3_; have GE234 := n4_; have NB233_234 := n5_; have NB234_233 := n6_; clear n0_ n1_ n2_ n3_ n4_ n5_ n6_; clear hb hbox hg) | ((with_reducible refine gate_callee (f := 40) rfl ?_); refine goesL_ (some 15) rfl rfl Try.func40 (by kernel_rfl) rfl #[.pointer (some ⟨gb233, 0, none⟩), .pointer (some ⟨gb234, 0, none⟩), .int .i64 a2] rfl (by (try simp only [List.map_toArray, List.map_cons, List.map_nil]); first | done | rfl | (simp only [List.length_drop, List.length_take]; rfl)) ?_; (with_reducible refine (spec_l03Asked.calls k _ ([(⟨a0_0, a0_1, a0_2, a0_3⟩ : S31)]).length [(⟨a0_0, a0_1, a0_2, a0_3⟩ : S31)] _ ([(⟨l1_0, l1_1⟩ : S33)]).length [(⟨l1_0, l1_1⟩ : S33)] a2 t237 _ ?side1 ?side2 ?side3 ?side4 A4.out).mono ?_); (case side1 => refine Kd.C_block k31 (g := gb233) (cs := #[.int .i64 a0_0, .int .i64 a0_1, .int .i64 a0_2, .int .i64 a0_3]) (T := 31) (by (with_reducible repeat (first | refine blk_drewN ?_ _ | refine blk_drew ?_ | refine blk_alloc ?_ _)); exact BK233.out) (show Kd.K k31 _ (⟨a0_0, a0_1, a0_2, a0_3⟩ : S31) [.int .i64 a0_0, .int .i64 a0_1, .int .i64 a0_2, .int .i64 a0_3] from k31_mk _ _) (by decide)); (case side2 => exact Nat.le_refl _); (case side3 => refine Kd.C_block k33 (g := gb234) (cs := #[.slice A1_0 l1_0.length c1_0, .slice A1_1 l1_1.length c1_1]) (T := 33) (by (with_reducible repeat (first | refine blk_drewN ?_ _ | refine blk_drew ?_ | refine blk_alloc ?_ _)); exact BK234.out) (show Kd.K k33 _ (⟨l1_0, l1_1⟩ : S33) [.slice A1_0 l1_0.length c1_0, .slice A1_1 l1_1.length c1_1] from k33_mk _ _ (by exact HC1_0.out) (by repeat (first | exact (Kd.C_below HR1_0.out HB.out) | (with_reducible refine Kd.C_alloc ?_ _) | (with_reducible refine Kd.C_drewN ?_ _) | (with_reducible refine Kd.C_drew ?_))) (by exact HC1_1.out) (by repeat (first | exact (Kd.C_below HR1_1.out HB.out) | (with_reducible refine Kd.C_alloc ?_ _) | (with_reducible refine Kd.C_drewN ?_ _) | (with_reducible refine Kd.C_drew ?_)))) (by decide)); (case side4 => exact Nat.le_refl _); rintro e w32 ⟨rfl, hb⟩; refine ⟨_, rfl, ?_⟩; have n0_ := Aside0.mk (blk_below (g := gb233) (o := .cells #[.int .i64 a0_0, .int .i64 a0_1, .int .i64 a0_2, .int .i64 a0_3] 31 (0, 0)) (by (with_reducible repeat (first | refine blk_drewN ?_ _ | refine blk_drew ?_ | refine blk_alloc ?_ _)); exact BK233.out) hb); have n1_ := Aside0.mk (blk_below (g := gb234) (o := .cells #[.slice A1_0 l1_0.length c1_0, .slice A1_1 l1_1.length c1_1] 33 (0, 0)) (by (with_reducible repeat (first | refine blk_drewN ?_ _ | refine blk_drew ?_ | refine blk_alloc ?_ _)); exact BK234.out) hb); have n2_ := Aside0.mk (below_step (by repeat (first | (with_reducible first | exact HB.out | apply below_alloc | apply pw_below_drewN | apply below_drew1 | refine below_set ?_ GE233.out | refine below_set ?_ GE234.out) | exact HB.out)) hb); clear BK233; clear BK234; clear HB; have BK233 := n0_; have BK234 := n1_; have HB := n2_; clear n0_ n1_ n2_; (try clear hb); (try clear hb2); (try clear hk); (try clear hi)) | ((with_reducible refine gate_dst (N := 18) rfl ?_); refine Kd.R_lit (Kd.int .i8) _ 49 ?hg (N := 18) ?hd (xs := ([] : List Int)) (inner := []) (ok := fun _ => True) (okp := fun _ => True) ?hr ?hp (fun _ hk => hk) trivial (Below.refl _ _) (Nat.le_refl _) (by simp) ?_; (case hd => rfl); (case hg => rfl); (case hr => first | (go_simp; done) | (go_simp; rfl)); (case hp => exact (Reps.none _ _)); intro v239 w33 ho34 hb hg_ hnew_; clear hg_ hnew_; (first | rw [← Ny238.out] at ho34 | (simp only [Int.reduceToNat] at ho34; rw [← Ny238.out] at ho34)); have n0_ := Aside0.mk (Kd.R_lower ho34 (below_size (by repeat (first | (with_reducible first | exact HB.out | apply below_alloc | apply pw_below_drewN | apply below_drew1 | refine below_set ?_ GE233.out | refine below_set ?_ GE234.out) | exact HB.out)))); have n1_ := Aside0.mk (blk_below (g := gb233) (o := .cells #[.int .i64 a0_0, .int .i64 a0_1, .int .i64 a0_2, .int .i64 a0_3] 31 (0, 0)) (by (with_reducible repeat (first | refine blk_drewN ?_ _ | refine blk_drew ?_ | refine blk_alloc ?_ _)); exact BK233.out) hb); have n2_ := Aside0.mk (blk_below (g := gb234) (o := .cells #[.slice A1_0 l1_0.length c1_0, .slice A1_1 l1_1.length c1_1] 33 (0, 0)) (by (with_reducible repeat (first | refine blk_drewN ?_ _ | refine blk_drew ?_ | refine blk_alloc ?_ _)); exact BK234.out) hb); have n3_ := Aside0.mk (below_step (by repeat (first | (with_reducible first | exact HB.out | apply below_alloc | apply pw_below_drewN | apply below_drew1 | refine below_set ?_ GE233.out | refine below_set ?_ GE234.out) | exact HB.out)) hb); clear BK233; clear BK234; clear HB; have HO240 := n0_; have BK233 := n1_; have BK234 := n2_; have HB := n3_; clear n0_ n1_ n2_ n3_; clear hb ho34))
  go_ret3
  exact ⟨_, by first | rfl | (simp [errW_none, errW_some] <;> rfl) | (simp [*, errW_none, errW_some] <;> rfl), by (with_reducible repeat (first | apply Kd.R_alloc | apply Kd.R_drewN | apply Kd.R_drew)); exact HO240.out, by repeat (first | (with_reducible first | exact HB.out | apply below_alloc | apply pw_below_drewN | apply below_drew1 | refine below_set ?_ GE233.out | refine below_set ?_ GE234.out) | exact HB.out)⟩
/-! ### impl_within: function 51 -/
def impl_within.f (a0 : Int) (a1 : Int) (a2 : Int) : Option (Bool) := if a0 ≥ a1 then (some (decide (a0 ≤ a2))) else (some false)
set_option maxHeartbeats 8000000 in
set_option maxRecDepth 100000 in
theorem impl_within.calls (a0 : Int) (a1 : Int) (a2 : Int) (r : Bool) (w : World) (h : impl_within.f a0 a1 a2 = some r) :
  Calls Try.prog 51 #[.int .i64 a0, .int .i64 a1, .int .i64 a2] w fun e w' => e = .returned (.bool r) ∧ Drawn0 w w' := by
 have H : (if a0 ≥ a1 then (some (decide (a0 ≤ a2))) else (some false)) = some r := h
 clear h
 by_cases c4 : a0 ≥ a1
 ·
  rw [if_pos c4] at H
  have c4b0 : decide (a1 ≤ a0) = true := decide_eq_true c4
  clear c4
  obtain rfl := Option.some.inj H
  go_enter Try.func51, Try.ntmps51
  go_wp2
  go_ret
  exact ⟨by first | rfl | (simp; done) | (simp [*]; done) | (simp [isE_]; done), by repeat (first | exact Drawn0.refl _ | apply Drawn0.step)⟩
 ·
  rw [if_neg c4] at H
  have c4b0 : decide (a1 ≤ a0) = false := decide_eq_false c4
  clear c4
  obtain rfl := Option.some.inj H
  go_enter Try.func51, Try.ntmps51
  go_wp2
  go_ret
  exact ⟨by first | rfl | (simp; done) | (simp [*]; done) | (simp [isE_]; done), by repeat (first | exact Drawn0.refl _ | apply Drawn0.step)⟩
/-! ### impl_ValidMoebius: function 33 -/
def impl_ValidMoebius.l0 : Nat → List Int → Int → Int → Int → Int → Int → Int → Option (Bool)
 | 0, _, _, _, _, _, _, _ => none
 | k + 1, x13, x14, x15, x259000, x259001, x259002, x259003 => if x15 < x14 then (if 0 ≤ x15 then (if x15 < (x13.length : Int) then ((impl_within.f (rd x13 x15) (-1000000) 1000000).bind fun t263 => (if t263 = true then (impl_ValidMoebius.l0 k x13 x14 (wrap64 (x15 + 1)) x259000 x259001 x259002 x259003) else (some false))) else (none)) else (none)) else (some (decide (x259003 > (mx x259002 (wrap64 (-x259002))))))
def impl_ValidMoebius.f (k : Nat) (a0_0 : Int) (a0_1 : Int) (a0_2 : Int) (a0_3 : Int) : Option (Bool) := (some (([a0_0, a0_1, a0_2, a0_3] : List Int) : List Int)).bind fun y259 => (impl_ValidMoebius.l0 k y259 (y259.length : Int) 0 a0_0 a0_1 a0_2 a0_3)
theorem impl_ValidMoebius.mono_l : ∀ k, (∀ y0 y1 y2 y3 y4 y5 y6, LeO (impl_ValidMoebius.l0 k y0 y1 y2 y3 y4 y5 y6) (impl_ValidMoebius.l0 (k + 1) y0 y1 y2 y3 y4 y5 y6))
 | 0 => fun _ _ _ _ _ _ _ r h => by simp [impl_ValidMoebius.l0] at h
 | k + 1 => by
  have ih0 := impl_ValidMoebius.mono_l k
  ·
   intro y0 y1 y2 y3 y4 y5 y6
   unfold impl_ValidMoebius.l0
   repeat' first
   | (with_reducible exact ih0 _ _ _ _ _ _ _)
   | (with_reducible exact LeO.refl _)
   | (with_reducible exact LeO.none _)
   | (with_reducible refine LeO.ite ?_ ?_)
   | (with_reducible refine LeO.bind ?_ (fun _ => ?_))
   | exact ih0 _ _ _ _ _ _ _
   | exact LeO.none _
   | refine LeO.ite ?_ ?_
   | refine LeO.bind ?_ (fun _ => ?_)
theorem impl_ValidMoebius.mono : ∀ a0 a1 a2 a3 k, LeO (impl_ValidMoebius.f k a0 a1 a2 a3) (impl_ValidMoebius.f (k + 1) a0 a1 a2 a3) := by
 intro a0 a1 a2 a3 k
 have ih0 := impl_ValidMoebius.mono_l k
 unfold impl_ValidMoebius.f
 repeat' first
   | (with_reducible exact ih0 _ _ _ _ _ _ _)
   | (with_reducible exact LeO.refl _)
   | (with_reducible exact LeO.none _)
   | (with_reducible refine LeO.ite ?_ ?_)
   | (with_reducible refine LeO.bind ?_ (fun _ => ?_))
   | exact ih0 _ _ _ _ _ _ _
   | exact LeO.none _
   | refine LeO.ite ?_ ?_
   | refine LeO.bind ?_ (fun _ => ?_)
set_option maxHeartbeats 8000000 in
set_option maxRecDepth 100000 in
theorem impl_ValidMoebius.calls (k : Nat) (a0_0 : Int) (a0_1 : Int) (a0_2 : Int) (a0_3 : Int) (r : Bool) (w : World) (h : impl_ValidMoebius.f k a0_0 a0_1 a0_2 a0_3 = some r) :
  Calls Try.prog 33 #[.agg #[.int .i64 a0_0, .int .i64 a0_1, .int .i64 a0_2, .int .i64 a0_3]] w fun e w' => e = .returned (.bool r) ∧ Below w.heap.size w w' := by
 have hu31 := Try.underlying31
 have HB := Aside0.mk (Below.refl w.heap.size w)
 have H : ((some (([a0_0, a0_1, a0_2, a0_3] : List Int) : List Int)).bind fun y259 => (impl_ValidMoebius.l0 k y259 (y259.length : Int) 0 a0_0 a0_1 a0_2 a0_3)) = some r := h
 clear h
 obtain ⟨y259, hy259⟩ : ∃ y_ : List Int, y_ = (([a0_0, a0_1, a0_2, a0_3] : List Int)) := ⟨_, rfl⟩
 replace H : (impl_ValidMoebius.l0 k y259 (y259.length : Int) 0 a0_0 a0_1 a0_2 a0_3) = some r := by first | (rw [hy259]; with_reducible exact H) | (have H2_ := (Option.bind_some _ _).symm.trans H; rw [hy259]; with_reducible exact H2_) | (have H2_ := (Option.bind_some _ _).symm.trans H; with_reducible exact H2_) | with_reducible exact H | (rw [hy259]; exact H) | exact H
 have Ny259 := Aside0.mk hy259
 clear hy259
 have H' := Aside0.mk H
 clear H
 go_enter Try.func33, Try.ntmps33
 go_wp2_with (first | ((with_reducible refine gate_dst (N := 1) rfl ?_); refine box_event ?hg (N := 1) ?hd (cs := #[.int .i64 a0_0, .int .i64 a0_1, .int .i64 a0_2, .int .i64 a0_3]) (t := 31) ?hr ?_; (case hd => rfl); (case hg => rfl); (case hr => first | (go_simp; done) | (go_simp; rfl)); intro gb258 hg w2 hbox hb; have n0_ := Aside0.mk (below_step (by repeat (first | (with_reducible first | exact HB.out | apply below_alloc | apply pw_below_drewN | apply below_drew1) | exact HB.out)) hb); have n1_ := Aside0.mk (hbox); have n2_ := Aside0.mk ((by rw [hg]; exact (below_size (by repeat (first | (with_reducible first | exact HB.out | apply below_alloc | apply pw_below_drewN | apply below_drew1) | exact HB.out))) : w.heap.size ≤ gb258)); have n3_ := Aside0.mk ((by rw [hg]; exact (below_size (by repeat (first | (with_reducible first | exact HB.out | apply below_alloc | apply pw_below_drewN | apply below_drew1) | exact HB.out))) : w.heap.size ≤ gb258)); clear HB; have HB := n0_; have BK258 := n1_; have GW258 := n2_; have GE258 := n3_; clear n0_ n1_ n2_ n3_; clear hb hbox hg; have hcz3_0 : w2.cell? ⟨gb258, 0, none⟩ = some (.int .i64 a0_0) := (blk_cell BK258.out 0).trans rfl; have hcz3_1 : w2.cell? ⟨gb258, 1, none⟩ = some (.int .i64 a0_1) := (blk_cell BK258.out 1).trans rfl; have hcz3_2 : w2.cell? ⟨gb258, 2, none⟩ = some (.int .i64 a0_2) := (blk_cell BK258.out 2).trans rfl; have hcz3_3 : w2.cell? ⟨gb258, 3, none⟩ = some (.int .i64 a0_3) := (blk_cell BK258.out 3).trans rfl; have hfz3_0 := blk_frozen BK258.out 0; have hfz3_1 := blk_frozen BK258.out 1; have hfz3_2 := blk_frozen BK258.out 2; have hfz3_3 := blk_frozen BK258.out 3) | ((with_reducible refine gate_dst (N := 13) rfl ?_); refine Kd.R_lit (Kd.int .i64) _ 2 ?hg (N := 13) ?hd (xs := ([a0_0, a0_1, a0_2, a0_3] : List Int)) (inner := [.int .i64 a0_0, .int .i64 a0_1, .int .i64 a0_2, .int .i64 a0_3]) (ok := fun _ => True) (okp := fun _ => True) ?hr ?hp (fun _ hk => hk) trivial (Below.refl _ _) (Nat.le_refl _) (by simp) ?_; (case hd => rfl); (case hg => rfl); (case hr => first | (go_simp; done) | (go_simp; rfl)); (case hp => exact (Reps.one (show Kd.M (Kd.int .i64) _ _ _ a0_0 [.int .i64 a0_0] from rfl) (Reps.one (show Kd.M (Kd.int .i64) _ _ _ a0_1 [.int .i64 a0_1] from rfl) (Reps.one (show Kd.M (Kd.int .i64) _ _ _ a0_2 [.int .i64 a0_2] from rfl) (Reps.one (show Kd.M (Kd.int .i64) _ _ _ a0_3 [.int .i64 a0_3] from rfl) (Reps.none _ _)))))); intro v260 w4 ho5 hb hg_ hnew_; clear hg_ hnew_; (first | rw [← Ny259.out] at ho5 | (simp only [Int.reduceToNat] at ho5; rw [← Ny259.out] at ho5)); have n0_ := Aside0.mk (Kd.R_lower ho5 (below_size (by repeat (first | (with_reducible first | exact HB.out | apply below_alloc | apply pw_below_drewN | apply below_drew1 | refine below_set ?_ GE258.out) | exact HB.out)))); have n1_ := Aside0.mk (blk_below (g := gb258) (o := .cells #[.int .i64 a0_0, .int .i64 a0_1, .int .i64 a0_2, .int .i64 a0_3] 31 (0, 0)) (by (with_reducible repeat (first | refine blk_drewN ?_ _ | refine blk_drew ?_ | refine blk_alloc ?_ _)); exact BK258.out) hb); have n2_ := Aside0.mk (below_step (by repeat (first | (with_reducible first | exact HB.out | apply below_alloc | apply pw_below_drewN | apply below_drew1 | refine below_set ?_ GE258.out) | exact HB.out)) hb); clear BK258; clear HB; have HO261 := n0_; have BK258 := n1_; have HB := n2_; clear n0_ n1_ n2_; clear hb ho5; obtain ⟨Ao6, co6, eo6⟩ := Kd.R_slice HO261.out; subst eo6))
 go_loopg [15] k (fun kq v15 w' => ∃ (x15_1 : Int), v15 = .int .i64 x15_1 ∧ Aside0 (impl_ValidMoebius.l0 kq y259 (y259.length : Int) x15_1 a0_0 a0_1 a0_2 a0_3 = some r) ∧ Aside0 (kq ≤ k) ∧ Aside0 (Kd.R (Kd.int .i64) 2 w' w.heap.size (fun _ => True) (.slice Ao6 y259.length co6) y259) ∧ Aside0 (w'.heap[gb258]? = some (.cells #[.int .i64 a0_0, .int .i64 a0_1, .int .i64 a0_2, .int .i64 a0_3] 31 (0, 0))) ∧ Aside0 (Below w.heap.size w w'))
 case atStart => exact ⟨(0), (by first | rfl | (simp; done) | (simp [*]; done) | (simp [isE_]; done)), H', ⟨Nat.le_refl _⟩, ⟨by (with_reducible repeat (first | apply Kd.R_alloc | apply Kd.R_drewN | apply Kd.R_drew)); exact HO261.out⟩, ⟨by (with_reducible repeat (first | refine blk_drewN ?_ _ | refine blk_drew ?_ | refine blk_alloc ?_ _)); exact BK258.out⟩, ⟨by repeat (first | (with_reducible first | exact HB.out | apply below_alloc | apply pw_below_drewN | apply below_drew1 | refine below_set ?_ GE258.out) | exact HB.out)⟩⟩
 case round =>
  clear H'
  try clear p2
  try clear c3
  try clear hcz3_0
  try clear hcz3_1
  try clear hcz3_2
  try clear hcz3_3
  try clear hfz3_0
  try clear hfz3_1
  try clear hfz3_2
  try clear hfz3_3
  obtain ⟨x15_1, rfl, HA, HK1, HO_13, BK258, HB⟩ := hrel
  cases gk with
  | zero => exact absurd HA.out (by simp [impl_ValidMoebius.l0])
  | succ k1 =>
   have H := HA.out
   clear HA
   simp only [impl_ValidMoebius.l0] at H
   by_cases c7 : x15_1 < (y259.length : Int)
   ·
    rw [if_pos c7] at H
    have c7b0 : decide (x15_1 < (y259.length : Int)) = true := decide_eq_true c7
    clear c7
    by_cases c8 : 0 ≤ x15_1
    ·
     rw [if_pos c8] at H
     have c8b0 : decide (0 ≤ x15_1) = true := decide_eq_true c8
     clear c8
     by_cases c9 : x15_1 < (y259.length : Int)
     ·
      rw [if_pos c9] at H
      have c9b0 : decide (x15_1 < (y259.length : Int)) = true := decide_eq_true c9
      clear c9
      replace H := Option.bind_eq_some_iff.mp H
      obtain ⟨t263, A100, H⟩ := H
      replace H : (if t263 = true then (impl_ValidMoebius.l0 k1 y259 (y259.length : Int) (wrap64 (x15_1 + 1)) a0_0 a0_1 a0_2 a0_3) else (some false)) = some r := H
      have A10 := Aside0.mk A100
      clear A100
      by_cases c11 : t263 = true
      ·
       subst c11
       have H1 : (impl_ValidMoebius.l0 k1 y259 (y259.length : Int) (wrap64 (x15_1 + 1)) a0_0 a0_1 a0_2 a0_3) = some r := by first | (rw [if_pos rfl] at H; exact H) | rfl
       clear H
       have H := H1
       clear H1
       have H' := Aside0.mk H
       clear H
       have p262 : 0 ≤ (x15_1 : Int) := of_decide_eq_true (by assumption)
       have q262 : x15_1 < (y259.length : Int) := of_decide_eq_true (by assumption)
       obtain ⟨ad262, e262, hx262_0⟩ := Kd.at_int (Kd.R_reads' HO_13.out).2.2 x15_1 p262 q262
       cases e262
       replace p262 := eq_true p262
       replace q262 := eq_true q262
       go_wp2_with (first | ((with_reducible refine gate_callee (f := 51) rfl ?_); refine goesL_ (some 20) rfl rfl Try.func51 (by kernel_rfl) rfl #[.int .i64 (rd y259 x15_1), .int .i64 (-1000000), .int .i64 1000000] rfl (by (try simp only [List.map_toArray, List.map_cons, List.map_nil]); first | done | rfl | (simp only [List.length_drop, List.length_take]; rfl)) ?_; (with_reducible refine (impl_within.calls (rd y259 x15_1) (-1000000) 1000000 true _ A10.out).mono ?_); rintro e w' ⟨rfl, ⟨nd, rfl⟩⟩; refine ⟨_, rfl, ?_⟩))
       go_roundg k1
       case measure => have := HK1.out; omega
       case rel => exact ⟨(wrap64 (x15_1 + 1)), (by first | rfl | (simp; done) | (simp [*]; done) | (simp [isE_]; done)), H', ⟨by have := HK1.out; omega⟩, ⟨by (with_reducible repeat (first | apply Kd.R_alloc | apply Kd.R_drewN | apply Kd.R_drew)); exact HO_13.out⟩, ⟨by (with_reducible repeat (first | refine blk_drewN ?_ _ | refine blk_drew ?_ | refine blk_alloc ?_ _)); exact BK258.out⟩, ⟨by repeat (first | (with_reducible first | exact HB.out | apply below_alloc | apply pw_below_drewN | apply below_drew1 | refine below_set ?_ GE258.out) | exact HB.out)⟩⟩
      ·
       replace c11 := Bool.eq_false_iff.mpr c11
       subst c11
       have H1 : (some false) = some r := by first | (rw [if_neg (show ¬ (false = true) by decide)] at H; exact H) | rfl
       clear H
       have H := H1
       clear H1
       obtain rfl := Option.some.inj H
       have p262 : 0 ≤ (x15_1 : Int) := of_decide_eq_true (by assumption)
       have q262 : x15_1 < (y259.length : Int) := of_decide_eq_true (by assumption)
       obtain ⟨ad262, e262, hx262_0⟩ := Kd.at_int (Kd.R_reads' HO_13.out).2.2 x15_1 p262 q262
       cases e262
       replace p262 := eq_true p262
       replace q262 := eq_true q262
       go_wp2_with (first | ((with_reducible refine gate_callee (f := 51) rfl ?_); refine goesL_ (some 20) rfl rfl Try.func51 (by kernel_rfl) rfl #[.int .i64 (rd y259 x15_1), .int .i64 (-1000000), .int .i64 1000000] rfl (by (try simp only [List.map_toArray, List.map_cons, List.map_nil]); first | done | rfl | (simp only [List.length_drop, List.length_take]; rfl)) ?_; (with_reducible refine (impl_within.calls (rd y259 x15_1) (-1000000) 1000000 false _ A10.out).mono ?_); rintro e w' ⟨rfl, ⟨nd, rfl⟩⟩; refine ⟨_, rfl, ?_⟩))
       go_ret
       exact ⟨by first | rfl | (simp [errW_none, errW_some] <;> rfl) | (simp [*, errW_none, errW_some] <;> rfl), by repeat (first | (with_reducible first | exact HB.out | apply below_alloc | apply pw_below_drewN | apply below_drew1 | refine below_set ?_ GE258.out) | exact HB.out)⟩
     ·
      rw [if_neg c9] at H
      exact absurd H (by simp)
    ·
     rw [if_neg c8] at H
     exact absurd H (by simp)
   ·
    rw [if_neg c7] at H
    have c7b0 : decide (x15_1 < (y259.length : Int)) = false := decide_eq_false c7
    clear c7
    obtain ⟨ji12, hji12⟩ : ∃ j_ : Int, (mx a0_2 (wrap64 (-a0_2))) = j_ := ⟨_, rfl⟩
    replace H : (some (decide (a0_3 > (ji12)))) = some r := by first | (rw [hji12] at H; exact H) | (simp only [hji12] at H ⊢; exact H)
    have hji12_ : (if a0_2 < (wrap64 (-a0_2)) then (wrap64 (-a0_2)) else a0_2) = ji12 := hji12
    obtain rfl := Option.some.inj H
    have hcz13_0 : wr.cell? ⟨gb258, 0, none⟩ = some (.int .i64 a0_0) := (blk_cell BK258.out 0).trans rfl
    have hcz13_1 : wr.cell? ⟨gb258, 1, none⟩ = some (.int .i64 a0_1) := (blk_cell BK258.out 1).trans rfl
    have hcz13_2 : wr.cell? ⟨gb258, 2, none⟩ = some (.int .i64 a0_2) := (blk_cell BK258.out 2).trans rfl
    have hcz13_3 : wr.cell? ⟨gb258, 3, none⟩ = some (.int .i64 a0_3) := (blk_cell BK258.out 3).trans rfl
    have hfz13_0 := blk_frozen BK258.out 0
    have hfz13_1 := blk_frozen BK258.out 1
    have hfz13_2 := blk_frozen BK258.out 2
    have hfz13_3 := blk_frozen BK258.out 3
    go_wp2
    go_ret
    exact ⟨by first | rfl | (simp [errW_none, errW_some] <;> rfl) | (simp only [← hji12]; first | rfl | (simp [errW_none, errW_some] <;> rfl)) | (simp [*, errW_none, errW_some] <;> rfl), by repeat (first | (with_reducible first | exact HB.out | apply below_alloc | apply pw_below_drewN | apply below_drew1 | refine below_set ?_ GE258.out) | exact HB.out)⟩
end Go.Proofs.Ytififhihgkbafaa.PM

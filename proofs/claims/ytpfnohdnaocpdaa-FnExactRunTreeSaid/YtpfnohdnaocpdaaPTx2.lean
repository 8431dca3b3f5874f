-- Written by a program (xprint.py) out of the translation's own print; Lean checks it.
import Derived.Test.YtpfnohdnaocpdaaPTx0
import Derived.Test.YtpfnohdnaocpdaaPTx1
namespace Go.Proofs.Ytpfnohdnaocpdaa.PT
open Go.RowKit Go.Proofs.YtpfnohdnaocpdaaW.PrintWords Go.Proofs.YtpfnohdnaocpdaaW.PrintLast Go.Proofs.YtpfnohdnaocpdaaW.PrintMore Go.Proofs.YtpfnohdnaocpdaaRP
attribute [local go_sem] max2_int min2_int max_two min_two max_three min_three max_four min_four Go.Proofs.YtpfnohdnaocpdaaRP.max_eight   -- for this text's walks alone
set_option linter.unusedVariables false
set_option linter.unusedSimpArgs false
/-! ### spec_l06Given: function 56 -/
def spec_l06Given.j0 : Nat → Int → Bool → Option (Int)
 | 0, _, _ => none
 | k + 1, x2, x14 => if x14 = true then (some 1) else ((spec_l00In.f x2 0 60).bind fun t123 => (if t123 = true then (some 0) else (some 2)))
def spec_l06Given.f (k : Nat) (l0 : List (S34)) (l1 : List (S36)) (a2 : Int) : Option (Int) := (spec_l06Ok.f k l0).bind fun t121 => (if t121 = true then ((spec_l03Ok.f k l1).bind fun t122 => (spec_l06Given.j0 k a2 (!t122))) else (spec_l06Given.j0 k a2 true))
theorem spec_l06Given.mono_l : ∀ k, (∀ y0 y1, LeO (spec_l06Given.j0 k y0 y1) (spec_l06Given.j0 (k + 1) y0 y1))
 | 0 => fun _ _ r h => by simp [spec_l06Given.j0] at h
 | k + 1 => by
  have ih0 := spec_l06Given.mono_l k
  ·
   intro y0 y1
   unfold spec_l06Given.j0
   repeat' first
   | (with_reducible exact ih0 _ _)
   | (with_reducible exact spec_l03Ok.mono _ _)
   | (with_reducible exact spec_l06Ok.mono _ _)
   | (with_reducible exact LeO.refl _)
   | (with_reducible exact LeO.none _)
   | (with_reducible refine LeO.ite ?_ ?_)
   | (with_reducible refine LeO.bind ?_ (fun _ => ?_))
   | exact ih0 _ _
   | exact LeO.none _
   | refine LeO.ite ?_ ?_
   | refine LeO.bind ?_ (fun _ => ?_)
theorem spec_l06Given.mono : ∀ a0 a1 a2 k, LeO (spec_l06Given.f k a0 a1 a2) (spec_l06Given.f (k + 1) a0 a1 a2) := by
 intro a0 a1 a2 k
 have ih0 := spec_l06Given.mono_l k
 unfold spec_l06Given.f
 repeat' first
   | (with_reducible exact ih0 _ _)
   | (with_reducible exact spec_l03Ok.mono _ _)
   | (with_reducible exact spec_l06Ok.mono _ _)
   | (with_reducible exact LeO.refl _)
   | (with_reducible exact LeO.none _)
   | (with_reducible refine LeO.ite ?_ ?_)
   | (with_reducible refine LeO.bind ?_ (fun _ => ?_))
   | exact ih0 _ _
   | exact LeO.none _
   | refine LeO.ite ?_ ?_
   | refine LeO.bind ?_ (fun _ => ?_)
set_option maxHeartbeats 8000000 in
set_option maxRecDepth 100000 in
theorem spec_l06Given.calls (k : Nat) (A0 : Option Addr) (c0 : Nat) (l0 : List (S34)) (A1 : Option Addr) (c1 : Nat) (l1 : List (S36)) (a2 : Int) (r : Int) (w : World) (hr0 : Kd.C k34 w A0 l0.length l0) (hc0 : l0.length ≤ c0) (hr1 : Kd.C k36 w A1 l1.length l1) (hc1 : l1.length ≤ c1) (h : spec_l06Given.f k l0 l1 a2 = some r) :
  Calls Try.prog 56 #[.pointer A0, .pointer A1, .int .i64 a2] w fun e w' => e = .returned (.int .i64 r) ∧ Drawn0 w w' := by
 have HR0 := Aside0.mk hr0
 have HC0 := Aside0.mk hc0
 clear hr0 hc0
 have HR1 := Aside0.mk hr1
 have HC1 := Aside0.mk hc1
 clear hr1 hc1
 have H : ((spec_l06Ok.f k l0).bind fun t121 => (if t121 = true then ((spec_l03Ok.f k l1).bind fun t122 => (spec_l06Given.j0 k a2 (!t122))) else (spec_l06Given.j0 k a2 true))) = some r := h
 clear h
 have HC4 := Aside0.mk H
 clear H
 go_enter Try.func56, Try.ntmps56
 go_upto_region 1 with (fail)
 go_cut [14] (fun v14 wc => ∃ (kq : Nat) (x14_3 : Bool), v14 = .bool x14_3 ∧ Aside0 (spec_l06Given.j0 kq a2 x14_3 = some r) ∧ Aside0 (kq ≤ k) ∧ Drawn0 w wc)
 case first =>
  have H := HC4.out
  clear HC4
  replace H := Option.bind_eq_some_iff.mp H
  obtain ⟨t121, A50, H⟩ := H
  replace H : (if t121 = true then ((spec_l03Ok.f k l1).bind fun t122 => (spec_l06Given.j0 k a2 (!t122))) else (spec_l06Given.j0 k a2 true)) = some r := H
  have A5 := Aside0.mk A50
  clear A50
  by_cases c6 : t121 = true
  ·
   subst c6
   have H1 : ((spec_l03Ok.f k l1).bind fun t122 => (spec_l06Given.j0 k a2 (!t122))) = some r := by first | (rw [if_pos rfl] at H; exact H) | rfl
   clear H
   have H := H1
   clear H1
   replace H := Option.bind_eq_some_iff.mp H
   obtain ⟨t122, A70, H⟩ := H
   replace H : (spec_l06Given.j0 k a2 (!t122)) = some r := H
   have A7 := Aside0.mk A70
   clear A70
   have H' := Aside0.mk H
   clear H
   go_wp2_with (first | ((with_reducible refine gate_callee (f := 66) rfl ?_); refine goesL_ (some 8) rfl rfl Try.func66 (by kernel_rfl) rfl #[.pointer A0] rfl (by (try simp only [List.map_toArray, List.map_cons, List.map_nil]); first | done | rfl | (simp only [List.length_drop, List.length_take]; rfl)) ?_; (with_reducible refine (spec_l06Ok.calls k _ (l0).length l0 true _ ?side1 ?side2 A5.out).mono ?_); (case side1 => repeat (first | exact HR0.out | (with_reducible refine Kd.C_alloc ?_ _) | (with_reducible refine Kd.C_drewN ?_ _) | (with_reducible refine Kd.C_drew ?_))); (case side2 => exact Nat.le_refl _); rintro e w' ⟨rfl, ⟨nd, rfl⟩⟩; refine ⟨_, rfl, ?_⟩) | (go_at_call 98; (with_reducible refine (spec_l03Ok.calls k _ (l1).length l1 t122 _ ?side1 ?side2 A7.out).mono ?_); (case side1 => repeat (first | exact HR1.out | (with_reducible refine Kd.C_alloc ?_ _) | (with_reducible refine Kd.C_drewN ?_ _) | (with_reducible refine Kd.C_drew ?_))); (case side2 => exact Nat.le_refl _); rintro e w' ⟨rfl, ⟨nd, rfl⟩⟩))
   go_meet
   case rel => exact ⟨_, (!t122), (by first | rfl | (simp; done) | (simp [*]; done) | (simp [isE_]; done)), H', ⟨by first | omega | exact Nat.le_refl _⟩, by repeat (first | exact Drawn0.refl _ | apply Drawn0.step)⟩
  ·
   replace c6 := Bool.eq_false_iff.mpr c6
   subst c6
   have H1 : (spec_l06Given.j0 k a2 true) = some r := by first | (rw [if_neg (show ¬ (false = true) by decide)] at H; exact H) | rfl
   clear H
   have H := H1
   clear H1
   have H' := Aside0.mk H
   clear H
   go_wp2_with (first | ((with_reducible refine gate_callee (f := 66) rfl ?_); refine goesL_ (some 8) rfl rfl Try.func66 (by kernel_rfl) rfl #[.pointer A0] rfl (by (try simp only [List.map_toArray, List.map_cons, List.map_nil]); first | done | rfl | (simp only [List.length_drop, List.length_take]; rfl)) ?_; (with_reducible refine (spec_l06Ok.calls k _ (l0).length l0 false _ ?side1 ?side2 A5.out).mono ?_); (case side1 => repeat (first | exact HR0.out | (with_reducible refine Kd.C_alloc ?_ _) | (with_reducible refine Kd.C_drewN ?_ _) | (with_reducible refine Kd.C_drew ?_))); (case side2 => exact Nat.le_refl _); rintro e w' ⟨rfl, ⟨nd, rfl⟩⟩; refine ⟨_, rfl, ?_⟩))
   go_meet
   case rel => exact ⟨_, (true), (by first | rfl | (simp; done) | (simp [*]; done) | (simp [isE_]; done)), H', ⟨by first | omega | exact Nat.le_refl _⟩, by repeat (first | exact Drawn0.refl _ | apply Drawn0.step)⟩
 case rest =>
  clear HC4
  try clear c1
  try clear p2
  try clear c5
  try clear c6
  obtain ⟨kq, x14_3, rfl, HA, HJ3, ⟨mc3, rfl⟩⟩ := hcut
  cases kq with
  | zero => exact absurd HA.out (by simp [spec_l06Given.j0])
  | succ kj3 =>
   have H := HA.out
   clear HA
   simp only [spec_l06Given.j0] at H
   by_cases c8 : x14_3 = true
   ·
    subst c8
    have H1 : (some 1) = some r := by first | (rw [if_pos rfl] at H; exact H) | rfl
    clear H
    have H := H1
    clear H1
    obtain rfl := Option.some.inj H
    go_wp2
    go_ret
    exact ⟨by first | rfl | (simp; done) | (simp [*]; done) | (simp [isE_]; done), by repeat (first | exact Drawn0.refl _ | apply Drawn0.step)⟩
   ·
    replace c8 := Bool.eq_false_iff.mpr c8
    subst c8
    have H1 : ((spec_l00In.f a2 0 60).bind fun t123 => (if t123 = true then (some 0) else (some 2))) = some r := by first | (rw [if_neg (show ¬ (false = true) by decide)] at H; exact H) | rfl
    clear H
    have H := H1
    clear H1
    replace H := Option.bind_eq_some_iff.mp H
    obtain ⟨t123, A90, H⟩ := H
    replace H : (if t123 = true then (some 0) else (some 2)) = some r := H
    have A9 := Aside0.mk A90
    clear A90
    by_cases c10 : t123 = true
    ·
     subst c10
     have H1 : (some 0) = some r := by first | (rw [if_pos rfl] at H; exact H) | rfl
     clear H
     have H := H1
     clear H1
     obtain rfl := Option.some.inj H
     go_wp2_with (first | ((with_reducible refine gate_callee (f := 109) rfl ?_); refine goesL_ (some 16) rfl rfl Try.func109 (by kernel_rfl) rfl #[.int .i64 a2, .int .i64 0, .int .i64 60] rfl (by (try simp only [List.map_toArray, List.map_cons, List.map_nil]); first | done | rfl | (simp only [List.length_drop, List.length_take]; rfl)) ?_; (with_reducible refine (spec_l00In.calls a2 0 60 true _ A9.out).mono ?_); rintro e w' ⟨rfl, ⟨nd, rfl⟩⟩; refine ⟨_, rfl, ?_⟩))
     go_ret
     exact ⟨by first | rfl | (simp; done) | (simp [*]; done) | (simp [isE_]; done), by repeat (first | exact Drawn0.refl _ | apply Drawn0.step)⟩
    ·
     replace c10 := Bool.eq_false_iff.mpr c10
     subst c10
     have H1 : (some 2) = some r := by first | (rw [if_neg (show ¬ (false = true) by decide)] at H; exact H) | rfl
     clear H
     have H := H1
     clear H1
     obtain rfl := Option.some.inj H
     go_wp2_with (first | ((with_reducible refine gate_callee (f := 109) rfl ?_); refine goesL_ (some 16) rfl rfl Try.func109 (by kernel_rfl) rfl #[.int .i64 a2, .int .i64 0, .int .i64 60] rfl (by (try simp only [List.map_toArray, List.map_cons, List.map_nil]); first | done | rfl | (simp only [List.length_drop, List.length_take]; rfl)) ?_; (with_reducible refine (spec_l00In.calls a2 0 60 false _ A9.out).mono ?_); rintro e w' ⟨rfl, ⟨nd, rfl⟩⟩; refine ⟨_, rfl, ?_⟩))
     go_ret
     exact ⟨by first | rfl | (simp; done) | (simp [*]; done) | (simp [isE_]; done), by repeat (first | exact Drawn0.refl _ | apply Drawn0.step)⟩
/-! ### spec_l03At: function 110 -/
def spec_l03At.f (l0 : List (S36)) (a1 : Int) : Option (Int) := if 0 < (l0.length : Int) then (if a1 < (((rd_T36 l0 0).f0).length : Int) then (if 0 ≤ a1 then (some (rd ((rd_T36 l0 0).f0) a1)) else (none)) else (if (((rd_T36 l0 0).f1).length : Int) = 0 then (none) else (if 0 ≤ (Int.tmod (wrap64 (a1 - (((rd_T36 l0 0).f0).length : Int))) (((rd_T36 l0 0).f1).length : Int)) then (if (Int.tmod (wrap64 (a1 - (((rd_T36 l0 0).f0).length : Int))) (((rd_T36 l0 0).f1).length : Int)) < (((rd_T36 l0 0).f1).length : Int) then (some (rd ((rd_T36 l0 0).f1) (Int.tmod (wrap64 (a1 - (((rd_T36 l0 0).f0).length : Int))) (((rd_T36 l0 0).f1).length : Int)))) else (none)) else (none)))) else (none)
set_option maxHeartbeats 8000000 in
set_option maxRecDepth 100000 in
theorem spec_l03At.calls (A0 : Option Addr) (c0 : Nat) (l0 : List (S36)) (a1 : Int) (r : Int) (w : World) (hr0 : Kd.C k36 w A0 l0.length l0) (hc0 : l0.length ≤ c0) (h : spec_l03At.f l0 a1 = some r) :
  Calls Try.prog 110 #[.pointer A0, .int .i64 a1] w fun e w' => e = .returned (.int .i8 r) ∧ Drawn0 w w' := by
 have HR0 := Aside0.mk hr0
 have HC0 := Aside0.mk hc0
 clear hr0 hc0
 have H : (if 0 < (l0.length : Int) then (if a1 < (((rd_T36 l0 0).f0).length : Int) then (if 0 ≤ a1 then (some (rd ((rd_T36 l0 0).f0) a1)) else (none)) else (if (((rd_T36 l0 0).f1).length : Int) = 0 then (none) else (if 0 ≤ (Int.tmod (wrap64 (a1 - (((rd_T36 l0 0).f0).length : Int))) (((rd_T36 l0 0).f1).length : Int)) then (if (Int.tmod (wrap64 (a1 - (((rd_T36 l0 0).f0).length : Int))) (((rd_T36 l0 0).f1).length : Int)) < (((rd_T36 l0 0).f1).length : Int) then (some (rd ((rd_T36 l0 0).f1) (Int.tmod (wrap64 (a1 - (((rd_T36 l0 0).f0).length : Int))) (((rd_T36 l0 0).f1).length : Int)))) else (none)) else (none)))) else (none)) = some r := h
 clear h
 by_cases c3 : 0 < (l0.length : Int)
 ·
  rw [if_pos c3] at H
  have c3b0 : decide (0 < (l0.length : Int)) = true := decide_eq_true c3
  have c3b1 : decide (0 < l0.length) = true := decide_eq_true (by omega)
  clear c3
  by_cases c4 : a1 < (((rd_T36 l0 0).f0).length : Int)
  ·
   rw [if_pos c4] at H
   have c4b0 : decide (a1 < (((rd_T36 l0 0).f0).length : Int)) = true := decide_eq_true c4
   clear c4
   by_cases c5 : 0 ≤ a1
   ·
    rw [if_pos c5] at H
    have c5b0 : decide (0 ≤ a1) = true := decide_eq_true c5
    clear c5
    obtain rfl := Option.some.inj H
    have q124 : 0 < (l0.length : Int) := of_decide_eq_true (by assumption)
    obtain ⟨ad124, A124_0, c124_0, A124_1, c124_1, e124, hx124_0, hx124_1, hl124_0, hi124_0, hl124_1, hi124_1⟩ := rp_T36 HR0.out q124
    cases e124
    have HR124_0 := Aside0.mk hi124_0
    have HC124_0 := Aside0.mk hl124_0
    clear hi124_0 hl124_0
    have HR124_1 := Aside0.mk hi124_1
    have HC124_1 := Aside0.mk hl124_1
    clear hi124_1 hl124_1
    have p125 : 0 ≤ (a1 : Int) := of_decide_eq_true (by assumption)
    have q125 : a1 < (((rd_T36 l0 0).f0).length : Int) := of_decide_eq_true (by assumption)
    obtain ⟨ad125, e125, hx125_0⟩ := Kd.at_int HR124_0.out a1 p125 q125
    cases e125
    replace p125 := eq_true p125
    replace q125 := eq_true q125
    go_enter Try.func110, Try.ntmps110
    go_wp2
    repeat (go_quiet (fail); try go_wp2)
    go_ret
    exact ⟨by first | rfl | (simp; done) | (simp [*]; done) | (simp [isE_]; done), by repeat (first | exact Drawn0.refl _ | apply Drawn0.step)⟩
   ·
    rw [if_neg c5] at H
    exact absurd H (by simp)
  ·
   rw [if_neg c4] at H
   have c4b0 : decide (a1 < (((rd_T36 l0 0).f0).length : Int)) = false := decide_eq_false c4
   clear c4
   by_cases c6 : (((rd_T36 l0 0).f1).length : Int) = 0
   ·
    rw [if_pos c6] at H
    exact absurd H (by simp)
   ·
    rw [if_neg c6] at H
    have c6b0 : ((((rd_T36 l0 0).f1).length : Int) == 0) = false := beq_eq_false_iff_ne.mpr c6
    have c6b1 : ((((rd_T36 l0 0).f1).length : Int) != 0) = true := bne_iff_ne.mpr c6
    have c6b2 : ¬ (((rd_T36 l0 0).f1) = []) := fun h_ => c6 (by rw [h_]; rfl)
    obtain ⟨ji7, hji7⟩ : ∃ j_ : Int, (Int.tmod (wrap64 (a1 - (((rd_T36 l0 0).f0).length : Int))) (((rd_T36 l0 0).f1).length : Int)) = j_ := ⟨_, rfl⟩
    replace H : (if 0 ≤ (ji7) then (if (ji7) < (((rd_T36 l0 0).f1).length : Int) then (some (rd ((rd_T36 l0 0).f1) (ji7))) else (none)) else (none)) = some r := by first | (rw [hji7] at H; exact H) | (simp only [hji7] at H ⊢; exact H)
    by_cases c8 : 0 ≤ (ji7)
    ·
     rw [if_pos c8] at H
     have c8b0 : decide (0 ≤ (ji7)) = true := decide_eq_true c8
     clear c8
     by_cases c9 : (ji7) < (((rd_T36 l0 0).f1).length : Int)
     ·
      rw [if_pos c9] at H
      have c9b0 : decide ((ji7) < (((rd_T36 l0 0).f1).length : Int)) = true := decide_eq_true c9
      clear c9
      obtain rfl := Option.some.inj H
      have q124 : 0 < (l0.length : Int) := of_decide_eq_true (by assumption)
      obtain ⟨ad124, A124_0, c124_0, A124_1, c124_1, e124, hx124_0, hx124_1, hl124_0, hi124_0, hl124_1, hi124_1⟩ := rp_T36 HR0.out q124
      cases e124
      have HR124_0 := Aside0.mk hi124_0
      have HC124_0 := Aside0.mk hl124_0
      clear hi124_0 hl124_0
      have HR124_1 := Aside0.mk hi124_1
      have HC124_1 := Aside0.mk hl124_1
      clear hi124_1 hl124_1
      have p126 : 0 ≤ ((ji7) : Int) := of_decide_eq_true (by assumption)
      have q126 : (ji7) < (((rd_T36 l0 0).f1).length : Int) := of_decide_eq_true (by assumption)
      obtain ⟨ad126, e126, hx126_0⟩ := Kd.at_int HR124_1.out (ji7) p126 q126
      cases e126
      replace p126 := eq_true p126
      replace q126 := eq_true q126
      go_enter Try.func110, Try.ntmps110
      go_wp2
      repeat (go_quiet (fail); try go_wp2)
      go_ret
      exact ⟨by first | rfl | (simp; done) | (simp only [← hji7] <;> (first | rfl | simp)) | (simp [*]; done), by repeat (first | exact Drawn0.refl _ | apply Drawn0.step)⟩
     ·
      rw [if_neg c9] at H
      exact absurd H (by simp)
    ·
     rw [if_neg c8] at H
     exact absurd H (by simp)
 ·
  rw [if_neg c3] at H
  exact absurd H (by simp)
/-! ### spec_l06Run: function 57 -/
def spec_l06Run.l0 : Nat → List (S34) → List (S36) → Int → List Int → Int → Int → Option (List Int × Int × Int)
 | 0, _, _, _, _, _, _ => none
 | k + 1, x0, x1, x2, x9, x10, x11 => if (x9.length : Int) < x2 then (if 0 < (x0.length : Int) then (if 0 ≤ x11 then (if x11 < (((rd_T34 x0 0).f0).length : Int) then (if 0 < ([rd_T89 ((rd_T34 x0 0).f0) x11].length : Int) then (if ((rd_T89 ((rd_T34 x0 0).f0) x11).f0) = 2 then (if x9.length < 140737488355328 then (spec_l06Run.l0 k x0 x1 x2 (x9 ++ [(rd_T89 ((rd_T34 x0 0).f0) x11).f1]) x10 ((rd_T89 ((rd_T34 x0 0).f0) x11).f2.f0)) else (none)) else (if x10 = 400 then (some ((([] : List Int)), 0, 7)) else ((spec_l03At.f x1 x10).bind fun t141 => (if 0 ≤ (IntKind.i8.wrap (t141 + 1)) then (if (IntKind.i8.wrap (t141 + 1)) < 3 then (spec_l06Run.l0 k x0 x1 x2 x9 (wrap64 (x10 + 1)) (rd [(rd_T89 ((rd_T34 x0 0).f0) x11).f2.f0, (rd_T89 ((rd_T34 x0 0).f0) x11).f2.f1, (rd_T89 ((rd_T34 x0 0).f0) x11).f2.f2] (IntKind.i8.wrap (t141 + 1)))) else (none)) else (none))))) else (none)) else (none)) else (none)) else (none)) else (some (x9, x10, 0))
def spec_l06Run.f (k : Nat) (l0 : List (S34)) (l1 : List (S36)) (a2 : Int) : Option (List Int × Int × Int) := spec_l06Run.l0 k l0 l1 a2 (([] : List Int)) 0 0
theorem spec_l06Run.mono_l : ∀ k, (∀ y0 y1 y2 y3 y4 y5, LeO (spec_l06Run.l0 k y0 y1 y2 y3 y4 y5) (spec_l06Run.l0 (k + 1) y0 y1 y2 y3 y4 y5))
 | 0 => fun _ _ _ _ _ _ r h => by simp [spec_l06Run.l0] at h
 | k + 1 => by
  have ih0 := spec_l06Run.mono_l k
  ·
   intro y0 y1 y2 y3 y4 y5
   unfold spec_l06Run.l0
   repeat' first
   | (with_reducible exact ih0 _ _ _ _ _ _)
   | (with_reducible exact LeO.refl _)
   | (with_reducible exact LeO.none _)
   | (with_reducible refine LeO.ite ?_ ?_)
   | (with_reducible refine LeO.bind ?_ (fun _ => ?_))
   | exact ih0 _ _ _ _ _ _
   | exact LeO.none _
   | refine LeO.ite ?_ ?_
   | refine LeO.bind ?_ (fun _ => ?_)
theorem spec_l06Run.mono : ∀ a0 a1 a2 k, LeO (spec_l06Run.f k a0 a1 a2) (spec_l06Run.f (k + 1) a0 a1 a2) := by
 intro a0 a1 a2 k
 have ih0 := spec_l06Run.mono_l k
 unfold spec_l06Run.f
 repeat' first
   | (with_reducible exact ih0 _ _ _ _ _ _)
   | (with_reducible exact LeO.refl _)
   | (with_reducible exact LeO.none _)
   | (with_reducible refine LeO.ite ?_ ?_)
   | (with_reducible refine LeO.bind ?_ (fun _ => ?_))
   | exact ih0 _ _ _ _ _ _
   | exact LeO.none _
   | refine LeO.ite ?_ ?_
   | refine LeO.bind ?_ (fun _ => ?_)
set_option maxHeartbeats 8000000 in
set_option maxRecDepth 100000 in
theorem spec_l06Run.calls (k : Nat) (A0 : Option Addr) (c0 : Nat) (l0 : List (S34)) (A1 : Option Addr) (c1 : Nat) (l1 : List (S36)) (a2 : Int) (r1 : List Int) (r2 : Int) (r3 : Int) (w : World) (hr0 : Kd.C k34 w A0 l0.length l0) (hc0 : l0.length ≤ c0) (hr1 : Kd.C k36 w A1 l1.length l1) (hc1 : l1.length ≤ c1) (h : spec_l06Run.f k l0 l1 a2 = some (r1, r2, r3)) :
  Calls Try.prog 57 #[.pointer A0, .pointer A1, .int .i64 a2] w fun e w' => ∃ v0_ : Value, e = .returned (.tuple #[v0_, .int .i64 r2, .int .i64 r3]) ∧ Kd.R (Kd.int .i8) 86 w' w.heap.size (fun _ => True) v0_ r1 ∧ Below w.heap.size w w' := by
 have HR0 := Aside0.mk hr0
 have HC0 := Aside0.mk hc0
 clear hr0 hc0
 have HR1 := Aside0.mk hr1
 have HC1 := Aside0.mk hc1
 clear hr1 hc1
 have HB := Aside0.mk (Below.refl w.heap.size w)
 have H : (spec_l06Run.l0 k l0 l1 a2 (([] : List Int)) 0 0) = some (r1, r2, r3) := h
 clear h
 obtain ⟨y127, hy127⟩ : ∃ y_ : List Int, y_ = (([] : List Int)) := ⟨_, rfl⟩
 replace H : (spec_l06Run.l0 k l0 l1 a2 y127 0 0) = some (r1, r2, r3) := by first | (rw [hy127]; with_reducible exact H) | (have H2_ := (Option.bind_some _ _).symm.trans H; rw [hy127]; with_reducible exact H2_) | (have H2_ := (Option.bind_some _ _).symm.trans H; with_reducible exact H2_) | with_reducible exact H | (rw [hy127]; exact H) | exact H
 have Ny127 := Aside0.mk hy127
 clear hy127
 have H' := Aside0.mk H
 clear H
 go_enter Try.func57, Try.ntmps57
 go_wp2_with (first | ((with_reducible refine gate_dst (N := 13) rfl ?_); refine Kd.R_lit (Kd.int .i8) _ 86 ?hg (N := 13) ?hd (xs := ([] : List Int)) (inner := []) (ok := fun _ => True) (okp := fun _ => True) ?hr ?hp (fun _ hk => hk) trivial (Below.refl _ _) (Nat.le_refl _) (by simp) ?_; (case hd => rfl); (case hg => rfl); (case hr => first | (go_simp; done) | (go_simp; rfl)); (case hp => exact (Reps.none _ _)); intro v128 w4 ho5 hb hg_ hnew_; clear hg_ hnew_; (first | rw [← Ny127.out] at ho5 | (simp only [Int.reduceToNat] at ho5; rw [← Ny127.out] at ho5)); have n0_ := Aside0.mk (Kd.R_lower ho5 (below_size (by repeat (first | (with_reducible first | exact HB.out | apply below_alloc | apply pw_below_drewN | apply below_drew1) | exact HB.out)))); have n1_ := Aside0.mk (below_step (by repeat (first | (with_reducible first | exact HB.out | apply below_alloc | apply pw_below_drewN | apply below_drew1) | exact HB.out)) hb); clear HB; have HO129 := n0_; have HB := n1_; clear n0_ n1_; clear hb ho5))
 repeat (go_quiet (first | ((with_reducible refine gate_dst (N := 13) rfl ?_); refine Kd.R_lit (Kd.int .i8) _ 86 ?hg (N := 13) ?hd (xs := ([] : List Int)) (inner := []) (ok := fun _ => True) (okp := fun _ => True) ?hr ?hp (fun _ hk => hk) trivial (Below.refl _ _) (Nat.le_refl _) (by simp) ?_; (case hd => rfl); (case hg => rfl); (case hr => first | (go_simp; done) | (go_simp; rfl)); (case hp => exact (Reps.none _ _)); intro v128 w4 ho5 hb hg_ hnew_; clear hg_ hnew_; (first | rw [← Ny127.out] at ho5 | (simp only [Int.reduceToNat] at ho5; rw [← Ny127.out] at ho5)); have n0_ := Aside0.mk (Kd.R_lower ho5 (below_size (by repeat (first | (with_reducible first | exact HB.out | apply below_alloc | apply pw_below_drewN | apply below_drew1) | exact HB.out)))); have n1_ := Aside0.mk (below_step (by repeat (first | (with_reducible first | exact HB.out | apply below_alloc | apply pw_below_drewN | apply below_drew1) | exact HB.out)) hb); clear HB; have HO129 := n0_; have HB := n1_; clear n0_ n1_; clear hb ho5)); try go_wp2_with (first | ((with_reducible refine gate_dst (N := 13) rfl ?_); refine Kd.R_lit (Kd.int .i8) _ 86 ?hg (N := 13) ?hd (xs := ([] : List Int)) (inner := []) (ok := fun _ => True) (okp := fun _ => True) ?hr ?hp (fun _ hk => hk) trivial (Below.refl _ _) (Nat.le_refl _) (by simp) ?_; (case hd => rfl); (case hg => rfl); (case hr => first | (go_simp; done) | (go_simp; rfl)); (case hp => exact (Reps.none _ _)); intro v128 w4 ho5 hb hg_ hnew_; clear hg_ hnew_; (first | rw [← Ny127.out] at ho5 | (simp only [Int.reduceToNat] at ho5; rw [← Ny127.out] at ho5)); have n0_ := Aside0.mk (Kd.R_lower ho5 (below_size (by repeat (first | (with_reducible first | exact HB.out | apply below_alloc | apply pw_below_drewN | apply below_drew1) | exact HB.out)))); have n1_ := Aside0.mk (below_step (by repeat (first | (with_reducible first | exact HB.out | apply below_alloc | apply pw_below_drewN | apply below_drew1) | exact HB.out)) hb); clear HB; have HO129 := n0_; have HB := n1_; clear n0_ n1_; clear hb ho5)))
 go_loopg [9, 10, 11] k (fun kq v9 v10 v11 w' => ∃ (x9_1 : List Int) (x10_1 : Int) (x11_1 : Int), v10 = .int .i64 x10_1 ∧ v11 = .int .i16 x11_1 ∧ Aside0 (spec_l06Run.l0 kq l0 l1 a2 x9_1 x10_1 x11_1 = some (r1, r2, r3)) ∧ Aside0 (kq ≤ k) ∧ Aside0 (Kd.R (Kd.int .i8) 86 w' w.heap.size (fun _ => True) v9 x9_1) ∧ Aside0 (Below w.heap.size w w'))
 case atStart => exact ⟨(y127), (0), (0), (by first | rfl | (simp; done) | (simp [*]; done) | (simp [isE_]; done)), (by first | rfl | (simp; done) | (simp [*]; done) | (simp [isE_]; done)), H', ⟨Nat.le_refl _⟩, ⟨by (with_reducible repeat (first | apply Kd.R_alloc | apply Kd.R_drewN | apply Kd.R_drew)); exact HO129.out⟩, ⟨by repeat (first | (with_reducible first | exact HB.out | apply below_alloc | apply pw_below_drewN | apply below_drew1) | exact HB.out)⟩⟩
 case round =>
  clear H'
  try clear c1
  try clear p2
  try clear c5
  obtain ⟨x9_1, x10_1, x11_1, rfl, rfl, HA, HK1, HO_9, HB⟩ := hrel
  cases gk with
  | zero => exact absurd HA.out (by simp [spec_l06Run.l0])
  | succ k1 =>
   have H := HA.out
   clear HA
   simp only [spec_l06Run.l0] at H
   (repeat (first | rw [rd1_T89] at H))
   by_cases c6 : (x9_1.length : Int) < a2
   ·
    rw [if_pos c6] at H
    have c6b0 : decide ((x9_1.length : Int) < a2) = true := decide_eq_true c6
    clear c6
    by_cases c7 : 0 < (l0.length : Int)
    ·
     rw [if_pos c7] at H
     have c7b0 : decide (0 < (l0.length : Int)) = true := decide_eq_true c7
     have c7b1 : decide (0 < l0.length) = true := decide_eq_true (by omega)
     clear c7
     by_cases c8 : 0 ≤ x11_1
     ·
      rw [if_pos c8] at H
      have c8b0 : decide (0 ≤ x11_1) = true := decide_eq_true c8
      clear c8
      by_cases c9 : x11_1 < (((rd_T34 l0 0).f0).length : Int)
      ·
       rw [if_pos c9] at H
       have c9b0 : decide (x11_1 < (((rd_T34 l0 0).f0).length : Int)) = true := decide_eq_true c9
       clear c9
       by_cases c10 : 0 < ([rd_T89 ((rd_T34 l0 0).f0) x11_1].length : Int)
       ·
        rw [if_pos c10] at H
        have c10b0 : decide (0 < ([rd_T89 ((rd_T34 l0 0).f0) x11_1].length : Int)) = true := decide_eq_true c10
        have c10b1 : decide (0 < [rd_T89 ((rd_T34 l0 0).f0) x11_1].length) = true := decide_eq_true (by omega)
        clear c10
        by_cases c11 : ((rd_T89 ((rd_T34 l0 0).f0) x11_1).f0) = 2
        ·
         rw [if_pos c11] at H
         have c11b0 : (((rd_T89 ((rd_T34 l0 0).f0) x11_1).f0) == 2) = true := beq_iff_eq.mpr c11
         have c11b1 : (((rd_T89 ((rd_T34 l0 0).f0) x11_1).f0) != 2) = false := bne_eq_false_iff_eq.mpr c11
         clear c11
         by_cases c12 : x9_1.length < 140737488355328
         ·
          rw [if_pos c12] at H
          have LMc12 := Aside0.mk c12
          clear c12
          obtain ⟨y134, hy134⟩ : ∃ y_ : List Int, y_ = (x9_1 ++ [(rd_T89 ((rd_T34 l0 0).f0) x11_1).f1]) := ⟨_, rfl⟩
          replace H : (spec_l06Run.l0 k1 l0 l1 a2 y134 x10_1 ((rd_T89 ((rd_T34 l0 0).f0) x11_1).f2.f0)) = some (r1, r2, r3) := by first | (rw [hy134]; with_reducible exact H) | (have H2_ := (Option.bind_some _ _).symm.trans H; rw [hy134]; with_reducible exact H2_) | (have H2_ := (Option.bind_some _ _).symm.trans H; with_reducible exact H2_) | with_reducible exact H | (rw [hy134]; exact H) | exact H
          have Ny134 := Aside0.mk hy134
          clear hy134
          have H' := Aside0.mk H
          clear H
          obtain ⟨Ao13, co13, eo13⟩ := Kd.R_slice HO_9.out
          subst eo13
          have q130 : 0 < (l0.length : Int) := of_decide_eq_true (by assumption)
          obtain ⟨ad130, A130_0, c130_0, e130, hx130_0, hl130_0, hi130_0⟩ := rp_T34 HR0.out q130
          cases e130
          replace hx130_0 := (HB.out.cell (World.block_lt_of_cell? w _ hx130_0)).trans hx130_0
          have HR130_0 := Aside0.mk hi130_0
          have HC130_0 := Aside0.mk hl130_0
          clear hi130_0 hl130_0
          have p131 : 0 ≤ (x11_1 : Int) := of_decide_eq_true (by assumption)
          have q131 : x11_1 < (((rd_T34 l0 0).f0).length : Int) := of_decide_eq_true (by assumption)
          obtain ⟨ad131, e131, hx131_0, hx131_1, hx131_2, hx131_3, hx131_4⟩ := at_T89 HR130_0.out x11_1 p131 q131
          cases e131
          replace hx131_0 := (HB.out.cell (World.block_lt_of_cell? w _ hx131_0)).trans hx131_0
          replace hx131_1 := (HB.out.cell (World.block_lt_of_cell? w _ hx131_1)).trans hx131_1
          replace hx131_2 := (HB.out.cell (World.block_lt_of_cell? w _ hx131_2)).trans hx131_2
          replace hx131_3 := (HB.out.cell (World.block_lt_of_cell? w _ hx131_3)).trans hx131_3
          replace hx131_4 := (HB.out.cell (World.block_lt_of_cell? w _ hx131_4)).trans hx131_4
          replace p131 := eq_true p131
          replace q131 := eq_true q131
          have HR132 := Aside0.mk (show Kd.C k89 w (some (Addr.add ad131 (x11_1.toNat * 5))) [rd_T89 ((rd_T34 l0 0).f0) x11_1].length [rd_T89 ((rd_T34 l0 0).f0) x11_1] from Kd.C_el k89 z89 HR130_0.out (x11_1 : Int) (of_eq_true p131) (of_eq_true q131))
          have q133 : 0 < ([rd_T89 ((rd_T34 l0 0).f0) x11_1].length : Int) := of_decide_eq_true (by assumption)
          obtain ⟨ad133, e133, hx133_0, hx133_1, hx133_2, hx133_3, hx133_4⟩ := rp_T89 HR132.out q133
          (try simp only [rd1_T89] at hx133_0 hx133_1 hx133_2 hx133_3 hx133_4)
          obtain rfl : (Addr.add ad131 (x11_1.toNat * 5)) = ad133 := (by injection e133)
          replace hx133_0 := (HB.out.cell (World.block_lt_of_cell? w _ hx133_0)).trans hx133_0
          replace hx133_1 := (HB.out.cell (World.block_lt_of_cell? w _ hx133_1)).trans hx133_1
          replace hx133_2 := (HB.out.cell (World.block_lt_of_cell? w _ hx133_2)).trans hx133_2
          replace hx133_3 := (HB.out.cell (World.block_lt_of_cell? w _ hx133_3)).trans hx133_3
          replace hx133_4 := (HB.out.cell (World.block_lt_of_cell? w _ hx133_4)).trans hx133_4
          go_wp2_with (first | ((with_reducible refine gate_builtin (b := .append) (xs := #[.tmp 29, .tmp 34]) rfl ?_); at_builtin; refine Kd.R_append (Kd.int .i8) (w0 := w) w.heap.size rfl (.tmp 29) (.tmp 34) 25 86 (.int .i8 0) 1 rfl Try.underlying25 info86 rfl (by decide) (by omega) (.slice Ao13 x9_1.length co13) x9_1 ((rd_T89 ((rd_T34 l0 0).f0) x11_1).f1) [.int .i8 ((rd_T89 ((rd_T34 l0 0).f0) x11_1).f1)] (fun _ => True) (fun _ => False) rfl rfl ?aP (fun _ hk => hk.elim) ?aF ?aO ?aB ?aS ?aL ?_; (case aP => exact rfl); (case aB => exact (by repeat (first | (with_reducible first | exact HB.out | apply below_alloc | apply pw_below_drewN | apply below_drew1) | exact HB.out))); (case aF => exact (fun _ _ => trivial)); (case aO => exact (by (with_reducible repeat (first | apply Kd.R_alloc | apply Kd.R_drewN | apply Kd.R_drew)); exact HO_9.out)); (case aS => exact (below_size (by repeat (first | (with_reducible first | exact HB.out | apply below_alloc | apply pw_below_drewN | apply below_drew1) | exact HB.out)))); (case aL => have := LMc12.out; omega); intro v135 w14 ho hb hg hat; rw [← Ny134.out] at ho; have n0_ := Aside0.mk (hb); have n1_ := Aside0.mk (ho); clear HB; clear HO_9; have HB := n0_; have HO136 := n1_; clear n0_ n1_; clear ho hb hg hat; have q137 : 0 < ([rd_T89 ((rd_T34 l0 0).f0) x11_1].length : Int) := of_decide_eq_true (by assumption); obtain ⟨ad137, e137, hx137_0, hx137_1, hx137_2, hx137_3, hx137_4⟩ := rp_T89 HR132.out q137; (try simp only [rd1_T89] at hx137_0 hx137_1 hx137_2 hx137_3 hx137_4); obtain rfl : (Addr.add ad131 (x11_1.toNat * 5)) = ad137 := (by injection e137); replace hx137_0 := (HB.out.cell (World.block_lt_of_cell? w _ hx137_0)).trans hx137_0; replace hx137_1 := (HB.out.cell (World.block_lt_of_cell? w _ hx137_1)).trans hx137_1; replace hx137_2 := (HB.out.cell (World.block_lt_of_cell? w _ hx137_2)).trans hx137_2; replace hx137_3 := (HB.out.cell (World.block_lt_of_cell? w _ hx137_3)).trans hx137_3; replace hx137_4 := (HB.out.cell (World.block_lt_of_cell? w _ hx137_4)).trans hx137_4))
          repeat (go_quiet (first | ((with_reducible refine gate_builtin (b := .append) (xs := #[.tmp 29, .tmp 34]) rfl ?_); at_builtin; refine Kd.R_append (Kd.int .i8) (w0 := w) w.heap.size rfl (.tmp 29) (.tmp 34) 25 86 (.int .i8 0) 1 rfl Try.underlying25 info86 rfl (by decide) (by omega) (.slice Ao13 x9_1.length co13) x9_1 ((rd_T89 ((rd_T34 l0 0).f0) x11_1).f1) [.int .i8 ((rd_T89 ((rd_T34 l0 0).f0) x11_1).f1)] (fun _ => True) (fun _ => False) rfl rfl ?aP (fun _ hk => hk.elim) ?aF ?aO ?aB ?aS ?aL ?_; (case aP => exact rfl); (case aB => exact (by repeat (first | (with_reducible first | exact HB.out | apply below_alloc | apply pw_below_drewN | apply below_drew1) | exact HB.out))); (case aF => exact (fun _ _ => trivial)); (case aO => exact (by (with_reducible repeat (first | apply Kd.R_alloc | apply Kd.R_drewN | apply Kd.R_drew)); exact HO_9.out)); (case aS => exact (below_size (by repeat (first | (with_reducible first | exact HB.out | apply below_alloc | apply pw_below_drewN | apply below_drew1) | exact HB.out)))); (case aL => have := LMc12.out; omega); intro v135 w14 ho hb hg hat; rw [← Ny134.out] at ho; have n0_ := Aside0.mk (hb); have n1_ := Aside0.mk (ho); clear HB; clear HO_9; have HB := n0_; have HO136 := n1_; clear n0_ n1_; clear ho hb hg hat; have q137 : 0 < ([rd_T89 ((rd_T34 l0 0).f0) x11_1].length : Int) := of_decide_eq_true (by assumption); obtain ⟨ad137, e137, hx137_0, hx137_1, hx137_2, hx137_3, hx137_4⟩ := rp_T89 HR132.out q137; (try simp only [rd1_T89] at hx137_0 hx137_1 hx137_2 hx137_3 hx137_4); obtain rfl : (Addr.add ad131 (x11_1.toNat * 5)) = ad137 := (by injection e137); replace hx137_0 := (HB.out.cell (World.block_lt_of_cell? w _ hx137_0)).trans hx137_0; replace hx137_1 := (HB.out.cell (World.block_lt_of_cell? w _ hx137_1)).trans hx137_1; replace hx137_2 := (HB.out.cell (World.block_lt_of_cell? w _ hx137_2)).trans hx137_2; replace hx137_3 := (HB.out.cell (World.block_lt_of_cell? w _ hx137_3)).trans hx137_3; replace hx137_4 := (HB.out.cell (World.block_lt_of_cell? w _ hx137_4)).trans hx137_4)); try go_wp2_with (first | ((with_reducible refine gate_builtin (b := .append) (xs := #[.tmp 29, .tmp 34]) rfl ?_); at_builtin; refine Kd.R_append (Kd.int .i8) (w0 := w) w.heap.size rfl (.tmp 29) (.tmp 34) 25 86 (.int .i8 0) 1 rfl Try.underlying25 info86 rfl (by decide) (by omega) (.slice Ao13 x9_1.length co13) x9_1 ((rd_T89 ((rd_T34 l0 0).f0) x11_1).f1) [.int .i8 ((rd_T89 ((rd_T34 l0 0).f0) x11_1).f1)] (fun _ => True) (fun _ => False) rfl rfl ?aP (fun _ hk => hk.elim) ?aF ?aO ?aB ?aS ?aL ?_; (case aP => exact rfl); (case aB => exact (by repeat (first | (with_reducible first | exact HB.out | apply below_alloc | apply pw_below_drewN | apply below_drew1) | exact HB.out))); (case aF => exact (fun _ _ => trivial)); (case aO => exact (by (with_reducible repeat (first | apply Kd.R_alloc | apply Kd.R_drewN | apply Kd.R_drew)); exact HO_9.out)); (case aS => exact (below_size (by repeat (first | (with_reducible first | exact HB.out | apply below_alloc | apply pw_below_drewN | apply below_drew1) | exact HB.out)))); (case aL => have := LMc12.out; omega); intro v135 w14 ho hb hg hat; rw [← Ny134.out] at ho; have n0_ := Aside0.mk (hb); have n1_ := Aside0.mk (ho); clear HB; clear HO_9; have HB := n0_; have HO136 := n1_; clear n0_ n1_; clear ho hb hg hat; have q137 : 0 < ([rd_T89 ((rd_T34 l0 0).f0) x11_1].length : Int) := of_decide_eq_true (by assumption); obtain ⟨ad137, e137, hx137_0, hx137_1, hx137_2, hx137_3, hx137_4⟩ := rp_T89 HR132.out q137; (try simp only [rd1_T89] at hx137_0 hx137_1 hx137_2 hx137_3 hx137_4); obtain rfl : (Addr.add ad131 (x11_1.toNat * 5)) = ad137 := (by injection e137); replace hx137_0 := (HB.out.cell (World.block_lt_of_cell? w _ hx137_0)).trans hx137_0; replace hx137_1 := (HB.out.cell (World.block_lt_of_cell? w _ hx137_1)).trans hx137_1; replace hx137_2 := (HB.out.cell (World.block_lt_of_cell? w _ hx137_2)).trans hx137_2; replace hx137_3 := (HB.out.cell (World.block_lt_of_cell? w _ hx137_3)).trans hx137_3; replace hx137_4 := (HB.out.cell (World.block_lt_of_cell? w _ hx137_4)).trans hx137_4)))
          go_roundg k1
          case measure => have := HK1.out; omega
          case rel => exact ⟨(y134), (x10_1), ((rd_T89 ((rd_T34 l0 0).f0) x11_1).f2.f0), (by first | rfl | (simp; done) | (simp [*]; done) | (simp [isE_]; done)), (by first | rfl | (simp; done) | (simp [*]; done) | (simp [isE_]; done)), H', ⟨by have := HK1.out; omega⟩, ⟨by (with_reducible repeat (first | apply Kd.R_alloc | apply Kd.R_drewN | apply Kd.R_drew)); exact HO136.out⟩, ⟨by repeat (first | (with_reducible first | exact HB.out | apply below_alloc | apply pw_below_drewN | apply below_drew1) | exact HB.out)⟩⟩
         ·
          rw [if_neg c12] at H
          exact absurd H (by simp)
        ·
         rw [if_neg c11] at H
         have c11b0 : (((rd_T89 ((rd_T34 l0 0).f0) x11_1).f0) == 2) = false := beq_eq_false_iff_ne.mpr c11
         have c11b1 : (((rd_T89 ((rd_T34 l0 0).f0) x11_1).f0) != 2) = true := bne_iff_ne.mpr c11
         by_cases c15 : x10_1 = 400
         ·
          rw [if_pos c15] at H
          have c15b0 : (x10_1 == 400) = true := beq_iff_eq.mpr c15
          have c15b1 : (x10_1 != 400) = false := bne_eq_false_iff_eq.mpr c15
          clear c15
          obtain ⟨y138, hy138⟩ : ∃ y_ : List Int, y_ = (([] : List Int)) := ⟨_, rfl⟩
          replace H : (some (y138, 0, 7)) = some (r1, r2, r3) := by first | (rw [hy138]; with_reducible exact H) | (have H2_ := (Option.bind_some _ _).symm.trans H; rw [hy138]; with_reducible exact H2_) | (have H2_ := (Option.bind_some _ _).symm.trans H; with_reducible exact H2_) | with_reducible exact H | (rw [hy138]; exact H) | exact H
          have Ny138 := Aside0.mk hy138
          clear hy138
          simp only [Option.some.injEq, Prod.mk.injEq] at H
          obtain ⟨rfl, rfl, rfl⟩ := H
          obtain ⟨Ao16, co16, eo16⟩ := Kd.R_slice HO_9.out
          subst eo16
          have q130 : 0 < (l0.length : Int) := of_decide_eq_true (by assumption)
          obtain ⟨ad130, A130_0, c130_0, e130, hx130_0, hl130_0, hi130_0⟩ := rp_T34 HR0.out q130
          cases e130
          replace hx130_0 := (HB.out.cell (World.block_lt_of_cell? w _ hx130_0)).trans hx130_0
          have HR130_0 := Aside0.mk hi130_0
          have HC130_0 := Aside0.mk hl130_0
          clear hi130_0 hl130_0
          have p131 : 0 ≤ (x11_1 : Int) := of_decide_eq_true (by assumption)
          have q131 : x11_1 < (((rd_T34 l0 0).f0).length : Int) := of_decide_eq_true (by assumption)
          obtain ⟨ad131, e131, hx131_0, hx131_1, hx131_2, hx131_3, hx131_4⟩ := at_T89 HR130_0.out x11_1 p131 q131
          cases e131
          replace hx131_0 := (HB.out.cell (World.block_lt_of_cell? w _ hx131_0)).trans hx131_0
          replace hx131_1 := (HB.out.cell (World.block_lt_of_cell? w _ hx131_1)).trans hx131_1
          replace hx131_2 := (HB.out.cell (World.block_lt_of_cell? w _ hx131_2)).trans hx131_2
          replace hx131_3 := (HB.out.cell (World.block_lt_of_cell? w _ hx131_3)).trans hx131_3
          replace hx131_4 := (HB.out.cell (World.block_lt_of_cell? w _ hx131_4)).trans hx131_4
          replace p131 := eq_true p131
          replace q131 := eq_true q131
          have HR132 := Aside0.mk (show Kd.C k89 w (some (Addr.add ad131 (x11_1.toNat * 5))) [rd_T89 ((rd_T34 l0 0).f0) x11_1].length [rd_T89 ((rd_T34 l0 0).f0) x11_1] from Kd.C_el k89 z89 HR130_0.out (x11_1 : Int) (of_eq_true p131) (of_eq_true q131))
          have q133 : 0 < ([rd_T89 ((rd_T34 l0 0).f0) x11_1].length : Int) := of_decide_eq_true (by assumption)
          obtain ⟨ad133, e133, hx133_0, hx133_1, hx133_2, hx133_3, hx133_4⟩ := rp_T89 HR132.out q133
          (try simp only [rd1_T89] at hx133_0 hx133_1 hx133_2 hx133_3 hx133_4)
          obtain rfl : (Addr.add ad131 (x11_1.toNat * 5)) = ad133 := (by injection e133)
          replace hx133_0 := (HB.out.cell (World.block_lt_of_cell? w _ hx133_0)).trans hx133_0
          replace hx133_1 := (HB.out.cell (World.block_lt_of_cell? w _ hx133_1)).trans hx133_1
          replace hx133_2 := (HB.out.cell (World.block_lt_of_cell? w _ hx133_2)).trans hx133_2
          replace hx133_3 := (HB.out.cell (World.block_lt_of_cell? w _ hx133_3)).trans hx133_3
          replace hx133_4 := (HB.out.cell (World.block_lt_of_cell? w _ hx133_4)).trans hx133_4
          go_wp2_with (first | ((with_reducible refine gate_dst (N := 43) rfl ?_); refine Kd.R_lit (Kd.int .i8) _ 86 ?hg (N := 43) ?hd (xs := ([] : List Int)) (inner := []) (ok := fun _ => True) (okp := fun _ => True) ?hr ?hp (fun _ hk => hk) trivial (Below.refl _ _) (Nat.le_refl _) (by simp) ?_; (case hd => rfl); (case hg => rfl); (case hr => first | (go_simp; done) | (go_simp; rfl)); (case hp => exact (Reps.none _ _)); intro v139 w17 ho18 hb hg_ hnew_; clear hg_ hnew_; (first | rw [← Ny138.out] at ho18 | (simp only [Int.reduceToNat] at ho18; rw [← Ny138.out] at ho18)); have n0_ := Aside0.mk (Kd.R_elder' (by (with_reducible repeat (first | apply Kd.R_alloc | apply Kd.R_drewN | apply Kd.R_drew)); exact HO_9.out) (Kd.R_base ho18) hb); have n1_ := Aside0.mk (Kd.R_lower (Kd.R_new' ho18 (Kd.R_lt (by (with_reducible repeat (first | apply Kd.R_alloc | apply Kd.R_drewN | apply Kd.R_drew)); exact HO_9.out))) (below_size (by repeat (first | (with_reducible first | exact HB.out | apply below_alloc | apply pw_below_drewN | apply below_drew1) | exact HB.out)))); have n2_ := Aside0.mk (below_step (by repeat (first | (with_reducible first | exact HB.out | apply below_alloc | apply pw_below_drewN | apply below_drew1) | exact HB.out)) hb); clear HO_9; clear HB; have HO_9 := n0_; have HO140 := n1_; have HB := n2_; clear n0_ n1_ n2_; clear hb ho18))
          repeat (go_quiet (first | ((with_reducible refine gate_dst (N := 43) rfl ?_); refine Kd.R_lit (Kd.int .i8) _ 86 ?hg (N := 43) ?hd (xs := ([] : List Int)) (inner := []) (ok := fun _ => True) (okp := fun _ => True) ?hr ?hp (fun _ hk => hk) trivial (Below.refl _ _) (Nat.le_refl _) (by simp) ?_; (case hd => rfl); (case hg => rfl); (case hr => first | (go_simp; done) | (go_simp; rfl)); (case hp => exact (Reps.none _ _)); intro v139 w17 ho18 hb hg_ hnew_; clear hg_ hnew_; (first | rw [← Ny138.out] at ho18 | (simp only [Int.reduceToNat] at ho18; rw [← Ny138.out] at ho18)); have n0_ := Aside0.mk (Kd.R_elder' (by (with_reducible repeat (first | apply Kd.R_alloc | apply Kd.R_drewN | apply Kd.R_drew)); exact HO_9.out) (Kd.R_base ho18) hb); have n1_ := Aside0.mk (Kd.R_lower (Kd.R_new' ho18 (Kd.R_lt (by (with_reducible repeat (first | apply Kd.R_alloc | apply Kd.R_drewN | apply Kd.R_drew)); exact HO_9.out))) (below_size (by repeat (first | (with_reducible first | exact HB.out | apply below_alloc | apply pw_below_drewN | apply below_drew1) | exact HB.out)))); have n2_ := Aside0.mk (below_step (by repeat (first | (with_reducible first | exact HB.out | apply below_alloc | apply pw_below_drewN | apply below_drew1) | exact HB.out)) hb); clear HO_9; clear HB; have HO_9 := n0_; have HO140 := n1_; have HB := n2_; clear n0_ n1_ n2_; clear hb ho18)); try go_wp2_with (first | ((with_reducible refine gate_dst (N := 43) rfl ?_); refine Kd.R_lit (Kd.int .i8) _ 86 ?hg (N := 43) ?hd (xs := ([] : List Int)) (inner := []) (ok := fun _ => True) (okp := fun _ => True) ?hr ?hp (fun _ hk => hk) trivial (Below.refl _ _) (Nat.le_refl _) (by simp) ?_; (case hd => rfl); (case hg => rfl); (case hr => first | (go_simp; done) | (go_simp; rfl)); (case hp => exact (Reps.none _ _)); intro v139 w17 ho18 hb hg_ hnew_; clear hg_ hnew_; (first | rw [← Ny138.out] at ho18 | (simp only [Int.reduceToNat] at ho18; rw [← Ny138.out] at ho18)); have n0_ := Aside0.mk (Kd.R_elder' (by (with_reducible repeat (first | apply Kd.R_alloc | apply Kd.R_drewN | apply Kd.R_drew)); exact HO_9.out) (Kd.R_base ho18) hb); have n1_ := Aside0.mk (Kd.R_lower (Kd.R_new' ho18 (Kd.R_lt (by (with_reducible repeat (first | apply Kd.R_alloc | apply Kd.R_drewN | apply Kd.R_drew)); exact HO_9.out))) (below_size (by repeat (first | (with_reducible first | exact HB.out | apply below_alloc | apply pw_below_drewN | apply below_drew1) | exact HB.out)))); have n2_ := Aside0.mk (below_step (by repeat (first | (with_reducible first | exact HB.out | apply below_alloc | apply pw_below_drewN | apply below_drew1) | exact HB.out)) hb); clear HO_9; clear HB; have HO_9 := n0_; have HO140 := n1_; have HB := n2_; clear n0_ n1_ n2_; clear hb ho18)))
          go_ret3
          exact ⟨_, by first | rfl | (simp [errW_none, errW_some] <;> rfl) | (simp [*, errW_none, errW_some] <;> rfl), by (with_reducible repeat (first | apply Kd.R_alloc | apply Kd.R_drewN | apply Kd.R_drew)); exact Kd.R_mono HO140.out (fun _ hk => trivial), by repeat (first | (with_reducible first | exact HB.out | apply below_alloc | apply pw_below_drewN | apply below_drew1) | exact HB.out)⟩
         ·
          rw [if_neg c15] at H
          have c15b0 : (x10_1 == 400) = false := beq_eq_false_iff_ne.mpr c15
          have c15b1 : (x10_1 != 400) = true := bne_iff_ne.mpr c15
          replace H := Option.bind_eq_some_iff.mp H
          obtain ⟨t141, A190, H⟩ := H
          replace H : (if 0 ≤ (IntKind.i8.wrap (t141 + 1)) then (if (IntKind.i8.wrap (t141 + 1)) < 3 then (spec_l06Run.l0 k1 l0 l1 a2 x9_1 (wrap64 (x10_1 + 1)) (rd [(rd_T89 ((rd_T34 l0 0).f0) x11_1).f2.f0, (rd_T89 ((rd_T34 l0 0).f0) x11_1).f2.f1, (rd_T89 ((rd_T34 l0 0).f0) x11_1).f2.f2] (IntKind.i8.wrap (t141 + 1)))) else (none)) else (none)) = some (r1, r2, r3) := H
          have A19 := Aside0.mk A190
          clear A190
          obtain ⟨ji20, hji20⟩ : ∃ j_ : Int, (IntKind.i8.wrap (t141 + 1)) = j_ := ⟨_, rfl⟩
          replace H : (if 0 ≤ (ji20) then (if (ji20) < 3 then (spec_l06Run.l0 k1 l0 l1 a2 x9_1 (wrap64 (x10_1 + 1)) (rd [(rd_T89 ((rd_T34 l0 0).f0) x11_1).f2.f0, (rd_T89 ((rd_T34 l0 0).f0) x11_1).f2.f1, (rd_T89 ((rd_T34 l0 0).f0) x11_1).f2.f2] (ji20))) else (none)) else (none)) = some (r1, r2, r3) := by first | (rw [hji20] at H; exact H) | (simp only [hji20] at H ⊢; exact H)
          (try rw [hji20] at A19)
          by_cases c21 : 0 ≤ (ji20)
          ·
           rw [if_pos c21] at H
           have c21b0 : decide (0 ≤ (ji20)) = true := decide_eq_true c21
           clear c21
           by_cases c22 : (ji20) < 3
           ·
            rw [if_pos c22] at H
            have c22b0 : decide ((ji20) < 3) = true := decide_eq_true c22
            clear c22
            have H' := Aside0.mk H
            clear H
            obtain ⟨Ao23, co23, eo23⟩ := Kd.R_slice HO_9.out
            subst eo23
            have q130 : 0 < (l0.length : Int) := of_decide_eq_true (by assumption)
            obtain ⟨ad130, A130_0, c130_0, e130, hx130_0, hl130_0, hi130_0⟩ := rp_T34 HR0.out q130
            cases e130
            replace hx130_0 := (HB.out.cell (World.block_lt_of_cell? w _ hx130_0)).trans hx130_0
            have HR130_0 := Aside0.mk hi130_0
            have HC130_0 := Aside0.mk hl130_0
            clear hi130_0 hl130_0
            have p131 : 0 ≤ (x11_1 : Int) := of_decide_eq_true (by assumption)
            have q131 : x11_1 < (((rd_T34 l0 0).f0).length : Int) := of_decide_eq_true (by assumption)
            obtain ⟨ad131, e131, hx131_0, hx131_1, hx131_2, hx131_3, hx131_4⟩ := at_T89 HR130_0.out x11_1 p131 q131
            cases e131
            replace hx131_0 := (HB.out.cell (World.block_lt_of_cell? w _ hx131_0)).trans hx131_0
            replace hx131_1 := (HB.out.cell (World.block_lt_of_cell? w _ hx131_1)).trans hx131_1
            replace hx131_2 := (HB.out.cell (World.block_lt_of_cell? w _ hx131_2)).trans hx131_2
            replace hx131_3 := (HB.out.cell (World.block_lt_of_cell? w _ hx131_3)).trans hx131_3
            replace hx131_4 := (HB.out.cell (World.block_lt_of_cell? w _ hx131_4)).trans hx131_4
            replace p131 := eq_true p131
            replace q131 := eq_true q131
            have HR132 := Aside0.mk (show Kd.C k89 w (some (Addr.add ad131 (x11_1.toNat * 5))) [rd_T89 ((rd_T34 l0 0).f0) x11_1].length [rd_T89 ((rd_T34 l0 0).f0) x11_1] from Kd.C_el k89 z89 HR130_0.out (x11_1 : Int) (of_eq_true p131) (of_eq_true q131))
            have q133 : 0 < ([rd_T89 ((rd_T34 l0 0).f0) x11_1].length : Int) := of_decide_eq_true (by assumption)
            obtain ⟨ad133, e133, hx133_0, hx133_1, hx133_2, hx133_3, hx133_4⟩ := rp_T89 HR132.out q133
            (try simp only [rd1_T89] at hx133_0 hx133_1 hx133_2 hx133_3 hx133_4)
            obtain rfl : (Addr.add ad131 (x11_1.toNat * 5)) = ad133 := (by injection e133)
            replace hx133_0 := (HB.out.cell (World.block_lt_of_cell? w _ hx133_0)).trans hx133_0
            replace hx133_1 := (HB.out.cell (World.block_lt_of_cell? w _ hx133_1)).trans hx133_1
            replace hx133_2 := (HB.out.cell (World.block_lt_of_cell? w _ hx133_2)).trans hx133_2
            replace hx133_3 := (HB.out.cell (World.block_lt_of_cell? w _ hx133_3)).trans hx133_3
            replace hx133_4 := (HB.out.cell (World.block_lt_of_cell? w _ hx133_4)).trans hx133_4
            go_wp2_with (first | (go_at_call 110; (with_reducible refine (spec_l03At.calls _ (l1).length l1 x10_1 t141 _ ?side1 ?side2 A19.out).mono ?_); (case side1 => repeat (first | exact (Kd.C_below HR1.out HB.out) | (with_reducible refine Kd.C_alloc ?_ _) | (with_reducible refine Kd.C_drewN ?_ _) | (with_reducible refine Kd.C_drew ?_))); (case side2 => exact Nat.le_refl _); rintro e w' ⟨rfl, ⟨nd, rfl⟩⟩; (try first | exact ⟨rfl, _, World.drewN_drewN _ _ _⟩ | exact ⟨rfl, _, Eq.trans (World.drewN_drewN _ _ _) (congrArg (World.drewN _) (Nat.add_assoc _ _ _))⟩); have p142 : 0 ≤ ((ji20) : Int) := of_decide_eq_true (by assumption); have q142 : ((ji20) : Int) < 3 := of_decide_eq_true (by assumption); have hx142_0 := cell_arr3 hx133_2 hx133_3 hx133_4 (ji20) p142 q142; (try simp only [Nat.zero_add, Nat.add_zero] at hx142_0); replace p142 := eq_true p142; replace q142 := eq_true q142))
            repeat (go_quiet (first | (go_at_call 110; (with_reducible refine (spec_l03At.calls _ (l1).length l1 x10_1 t141 _ ?side1 ?side2 A19.out).mono ?_); (case side1 => repeat (first | exact (Kd.C_below HR1.out HB.out) | (with_reducible refine Kd.C_alloc ?_ _) | (with_reducible refine Kd.C_drewN ?_ _) | (with_reducible refine Kd.C_drew ?_))); (case side2 => exact Nat.le_refl _); rintro e w' ⟨rfl, ⟨nd, rfl⟩⟩; (try first | exact ⟨rfl, _, World.drewN_drewN _ _ _⟩ | exact ⟨rfl, _, Eq.trans (World.drewN_drewN _ _ _) (congrArg (World.drewN _) (Nat.add_assoc _ _ _))⟩); have p142 : 0 ≤ ((ji20) : Int) := of_decide_eq_true (by assumption); have q142 : ((ji20) : Int) < 3 := of_decide_eq_true (by assumption); have hx142_0 := cell_arr3 hx133_2 hx133_3 hx133_4 (ji20) p142 q142; (try simp only [Nat.zero_add, Nat.add_zero] at hx142_0); replace p142 := eq_true p142; replace q142 := eq_true q142)); try go_wp2_with (first | (go_at_call 110; (with_reducible refine (spec_l03At.calls _ (l1).length l1 x10_1 t141 _ ?side1 ?side2 A19.out).mono ?_); (case side1 => repeat (first | exact (Kd.C_below HR1.out HB.out) | (with_reducible refine Kd.C_alloc ?_ _) | (with_reducible refine Kd.C_drewN ?_ _) | (with_reducible refine Kd.C_drew ?_))); (case side2 => exact Nat.le_refl _); rintro e w' ⟨rfl, ⟨nd, rfl⟩⟩; (try first | exact ⟨rfl, _, World.drewN_drewN _ _ _⟩ | exact ⟨rfl, _, Eq.trans (World.drewN_drewN _ _ _) (congrArg (World.drewN _) (Nat.add_assoc _ _ _))⟩); have p142 : 0 ≤ ((ji20) : Int) := of_decide_eq_true (by assumption); have q142 : ((ji20) : Int) < 3 := of_decide_eq_true (by assumption); have hx142_0 := cell_arr3 hx133_2 hx133_3 hx133_4 (ji20) p142 q142; (try simp only [Nat.zero_add, Nat.add_zero] at hx142_0); replace p142 := eq_true p142; replace q142 := eq_true q142)))
            go_roundg k1
            case measure => have := HK1.out; omega
            case rel => exact ⟨(x9_1), (wrap64 (x10_1 + 1)), (rd [(rd_T89 ((rd_T34 l0 0).f0) x11_1).f2.f0, (rd_T89 ((rd_T34 l0 0).f0) x11_1).f2.f1, (rd_T89 ((rd_T34 l0 0).f0) x11_1).f2.f2] (ji20)), (by first | rfl | (simp; done) | (simp [*]; done) | (simp [isE_]; done)), (by first | rfl | (simp; done) | (simp only [← hji20] <;> (first | rfl | simp)) | (simp [*]; done)), H', ⟨by have := HK1.out; omega⟩, ⟨by (with_reducible repeat (first | apply Kd.R_alloc | apply Kd.R_drewN | apply Kd.R_drew)); exact HO_9.out⟩, ⟨by repeat (first | (with_reducible first | exact HB.out | apply below_alloc | apply pw_below_drewN | apply below_drew1) | exact HB.out)⟩⟩
           ·
            rw [if_neg c22] at H
            exact absurd H (by simp)
          ·
           rw [if_neg c21] at H
           exact absurd H (by simp)
       ·
        rw [if_neg c10] at H
        exact absurd H (by simp)
      ·
       rw [if_neg c9] at H
       exact absurd H (by simp)
     ·
      rw [if_neg c8] at H
      exact absurd H (by simp)
    ·
     rw [if_neg c7] at H
     exact absurd H (by simp)
   ·
    rw [if_neg c6] at H
    have c6b0 : decide ((x9_1.length : Int) < a2) = false := decide_eq_false c6
    clear c6
    simp only [Option.some.injEq, Prod.mk.injEq] at H
    obtain ⟨rfl, rfl, rfl⟩ := H
    obtain ⟨Ao24, co24, eo24⟩ := Kd.R_slice HO_9.out
    subst eo24
    go_wp2
    repeat (go_quiet (fail); try go_wp2)
    go_ret3
    exact ⟨_, by first | rfl | (simp [errW_none, errW_some] <;> rfl) | (simp [*, errW_none, errW_some] <;> rfl), by (with_reducible repeat (first | apply Kd.R_alloc | apply Kd.R_drewN | apply Kd.R_drew)); exact HO_9.out, by repeat (first | (with_reducible first | exact HB.out | apply below_alloc | apply pw_below_drewN | apply below_drew1) | exact HB.out)⟩
/-! ### spec_RunTree: function 16 -/
def spec_RunTree.f (k : Nat) (l0_0 : List (S89)) (l1_0 : List Int) (l1_1 : List Int) (a2 : Int) : Option (List Int × Int × Int) := (spec_l06Given.f k [(⟨l0_0⟩ : S34)] [(⟨l1_0, l1_1⟩ : S36)] a2).bind fun t147 => (if t147 = 0 then ((spec_l06Run.f k [(⟨l0_0⟩ : S34)] [(⟨l1_0, l1_1⟩ : S36)] a2).bind fun bt150 => (some (bt150.1, bt150.2.1, bt150.2.2))) else (some ((([] : List Int)), 0, t147)))
theorem spec_RunTree.mono : ∀ a0 a1 a2 a3 k, LeO (spec_RunTree.f k a0 a1 a2 a3) (spec_RunTree.f (k + 1) a0 a1 a2 a3) := by
 intro a0 a1 a2 a3 k
 unfold spec_RunTree.f
 repeat' first
   | (with_reducible exact spec_l06Given.mono _ _ _ _)
   | (with_reducible exact spec_l06Run.mono _ _ _ _)
   | (with_reducible exact LeO.refl _)
   | (with_reducible exact LeO.none _)
   | (with_reducible refine LeO.ite ?_ ?_)
   | (with_reducible refine LeO.bind ?_ (fun _ => ?_))
   | exact LeO.none _
   | refine LeO.ite ?_ ?_
   | refine LeO.bind ?_ (fun _ => ?_)
set_option maxHeartbeats 8000000 in
set_option maxRecDepth 100000 in
theorem spec_RunTree.calls (k : Nat) (A0_0 : Option Addr) (c0_0 : Nat) (l0_0 : List (S89)) (A1_0 : Option Addr) (c1_0 : Nat) (l1_0 : List Int) (A1_1 : Option Addr) (c1_1 : Nat) (l1_1 : List Int) (a2 : Int) (r1 : List Int) (r2 : Int) (r3 : Int) (w : World) (hr0_0 : Kd.C k89 w A0_0 l0_0.length l0_0) (hc0_0 : l0_0.length ≤ c0_0) (hr1_0 : Kd.C (Kd.int .i8) w A1_0 l1_0.length l1_0) (hc1_0 : l1_0.length ≤ c1_0) (hr1_1 : Kd.C (Kd.int .i8) w A1_1 l1_1.length l1_1) (hc1_1 : l1_1.length ≤ c1_1) (h : spec_RunTree.f k l0_0 l1_0 l1_1 a2 = some (r1, r2, r3)) :
  Calls Try.prog 16 #[.agg #[.slice A0_0 l0_0.length c0_0], .agg #[.slice A1_0 l1_0.length c1_0, .slice A1_1 l1_1.length c1_1], .int .i64 a2] w fun e w' => ∃ v0_ : Value, e = .returned (.tuple #[v0_, .int .i64 r2, .int .i64 r3]) ∧ Kd.R (Kd.int .i8) 86 w' w.heap.size (fun _ => True) v0_ r1 ∧ Below w.heap.size w w' := by
 have hu34 := Try.underlying34
 have hu36 := Try.underlying36
 have HR0_0 := Aside0.mk hr0_0
 have HC0_0 := Aside0.mk hc0_0
 clear hr0_0 hc0_0
 have HR1_0 := Aside0.mk hr1_0
 have HC1_0 := Aside0.mk hc1_0
 clear hr1_0 hc1_0
 have HR1_1 := Aside0.mk hr1_1
 have HC1_1 := Aside0.mk hc1_1
 clear hr1_1 hc1_1
 have HB := Aside0.mk (Below.refl w.heap.size w)
 have H : ((spec_l06Given.f k [(⟨l0_0⟩ : S34)] [(⟨l1_0, l1_1⟩ : S36)] a2).bind fun t147 => (if t147 = 0 then ((spec_l06Run.f k [(⟨l0_0⟩ : S34)] [(⟨l1_0, l1_1⟩ : S36)] a2).bind fun bt150 => (some (bt150.1, bt150.2.1, bt150.2.2))) else (some ((([] : List Int)), 0, t147)))) = some (r1, r2, r3) := h
 clear h
 replace H := Option.bind_eq_some_iff.mp H
 obtain ⟨t147, A40, H⟩ := H
 replace H : (if t147 = 0 then ((spec_l06Run.f k [(⟨l0_0⟩ : S34)] [(⟨l1_0, l1_1⟩ : S36)] a2).bind fun bt150 => (some (bt150.1, bt150.2.1, bt150.2.2))) else (some ((([] : List Int)), 0, t147))) = some (r1, r2, r3) := H
 have A4 := Aside0.mk A40
 clear A40
 by_cases c5 : t147 = 0
 ·
  rw [if_pos c5] at H
  have c5b0 : (t147 == 0) = true := beq_iff_eq.mpr c5
  have c5b1 : (t147 != 0) = false := bne_eq_false_iff_eq.mpr c5
  clear c5
  replace H := Option.bind_eq_some_iff.mp H
  obtain ⟨⟨t150, t151, t152⟩, A60, H⟩ := H
  replace H : (some (t150, t151, t152)) = some (r1, r2, r3) := H
  have A6 := Aside0.mk A60
  clear A60
  simp only [Option.some.injEq, Prod.mk.injEq] at H
  obtain ⟨rfl, rfl, rfl⟩ := H
  go_enter Try.func16, Try.ntmps16
  go_wp2_with (first | ((with_reducible refine gate_dst (N := 3) rfl ?_); refine box_event ?hg (N := 3) ?hd (cs := #[.slice A0_0 l0_0.length c0_0]) (t := 34) ?hr ?_; (case hd => rfl); (case hg => rfl); (case hr => first | (go_simp; done) | (go_simp; rfl)); intro gb143 hg w7 hbox hb; have n0_ := Aside0.mk (below_step (by repeat (first | (with_reducible first | exact HB.out | apply below_alloc | apply pw_below_drewN | apply below_drew1) | exact HB.out)) hb); have n1_ := Aside0.mk (hbox); have n2_ := Aside0.mk ((by rw [hg]; exact (below_size (by repeat (first | (with_reducible first | exact HB.out | apply below_alloc | apply pw_below_drewN | apply below_drew1) | exact HB.out))) : w.heap.size ≤ gb143)); have n3_ := Aside0.mk ((by rw [hg]; exact (below_size (by repeat (first | (with_reducible first | exact HB.out | apply below_alloc | apply pw_below_drewN | apply below_drew1) | exact HB.out))) : w.heap.size ≤ gb143)); clear HB; have HB := n0_; have BK143 := n1_; have GW143 := n2_; have GE143 := n3_; clear n0_ n1_ n2_ n3_; clear hb hbox hg) | ((with_reducible refine gate_dst (N := 4) rfl ?_); refine box_event ?hg (N := 4) ?hd (cs := #[.slice A1_0 l1_0.length c1_0, .slice A1_1 l1_1.length c1_1]) (t := 36) ?hr ?_; (case hd => rfl); (case hg => rfl); (case hr => first | (go_simp; done) | (go_simp; rfl)); intro gb144 hg w8 hbox hb; have n0_ := Aside0.mk (blk_below (g := gb143) (o := .cells #[.slice A0_0 l0_0.length c0_0] 34 (0, 0)) (by (with_reducible repeat (first | refine blk_drewN ?_ _ | refine blk_drew ?_ | refine blk_alloc ?_ _)); exact BK143.out) hb); have n1_ := Aside0.mk (below_step (by repeat (first | (with_reducible first | exact HB.out | apply below_alloc | apply pw_below_drewN | apply below_drew1 | refine below_set ?_ GE143.out) | exact HB.out)) hb); have n2_ := Aside0.mk (hbox); have n3_ := Aside0.mk ((by rw [hg]; exact (below_size (by repeat (first | (with_reducible first | exact HB.out | apply below_alloc | apply pw_below_drewN | apply below_drew1 | refine below_set ?_ GE143.out) | exact HB.out))) : w.heap.size ≤ gb144)); have n4_ := Aside0.mk ((by rw [hg]; exact (below_size (by repeat (first | (with_reducible first | exact HB.out | apply below_alloc | apply pw_below_drewN | apply below_drew1 | refine below_set ?_ GE143.out) | exact HB.out))) : w.heap.size ≤ gb144)); have n5_ := Aside0.mk ((by rw [hg]; exact Nat.ne_of_lt (blk_lt (g := gb143) (o := .cells #[.slice A0_0 l0_0.length c0_0] 34 (0, 0)) (by (with_reducible repeat (first | refine blk_drewN ?_ _ | refine blk_drew ?_ | refine blk_alloc ?_ _)); exact BK143.out)) : gb143 ≠ gb144)); have n6_ := Aside0.mk ((by rw [hg]; exact Nat.ne_of_gt (blk_lt (g := gb143) (o := .cells #[.slice A0_0 l0_0.length c0_0] 34 (0, 0)) (by (with_reducible repeat (first | refine blk_drewN ?_ _ | refine blk_drew ?_ | refine blk_alloc ?_ _)); exact BK143.out)) : gb144 ≠ gb143)); clear BK143; clear HB; have BK143 := n0_; have HB := n1_; have BK144 := n2_; have GW144 := n3_; have GE144 := n4_; have NB143_144 := n5_; have NB144_143 := n6_; clear n0_ n1_ n2_ n3_ n4_ n5_ n6_; clear hb hbox hg) | ((with_reducible refine gate_callee (f := 56) rfl ?_); refine goesL_ (some 11) rfl rfl Try.func56 (by kernel_rfl) rfl #[.pointer (some ⟨gb143, 0, none⟩), .pointer (some ⟨gb144, 0, none⟩), .int .i64 a2] rfl (by (try simp only [List.map_toArray, List.map_cons, List.map_nil]); first | done | rfl | (simp only [List.length_drop, List.length_take]; rfl)) ?_; (with_reducible refine (spec_l06Given.calls k _ ([(⟨l0_0⟩ : S34)]).length [(⟨l0_0⟩ : S34)] _ ([(⟨l1_0, l1_1⟩ : S36)]).length [(⟨l1_0, l1_1⟩ : S36)] a2 t147 _ ?side1 ?side2 ?side3 ?side4 A4.out).mono ?_); (case side1 => refine Kd.C_block k34 (g := gb143) (cs := #[.slice A0_0 l0_0.length c0_0]) (T := 34) (by (with_reducible repeat (first | refine blk_drewN ?_ _ | refine blk_drew ?_ | refine blk_alloc ?_ _)); exact BK143.out) (show Kd.K k34 _ (⟨l0_0⟩ : S34) [.slice A0_0 l0_0.length c0_0] from k34_mk _ _ (by exact HC0_0.out) (by repeat (first | exact (Kd.C_below HR0_0.out HB.out) | (with_reducible refine Kd.C_alloc ?_ _) | (with_reducible refine Kd.C_drewN ?_ _) | (with_reducible refine Kd.C_drew ?_)))) (by decide)); (case side2 => exact Nat.le_refl _); (case side3 => refine Kd.C_block k36 (g := gb144) (cs := #[.slice A1_0 l1_0.length c1_0, .slice A1_1 l1_1.length c1_1]) (T := 36) (by (with_reducible repeat (first | refine blk_drewN ?_ _ | refine blk_drew ?_ | refine blk_alloc ?_ _)); exact BK144.out) (show Kd.K k36 _ (⟨l1_0, l1_1⟩ : S36) [.slice A1_0 l1_0.length c1_0, .slice A1_1 l1_1.length c1_1] from k36_mk _ _ (by exact HC1_0.out) (by repeat (first | exact (Kd.C_below HR1_0.out HB.out) | (with_reducible refine Kd.C_alloc ?_ _) | (with_reducible refine Kd.C_drewN ?_ _) | (with_reducible refine Kd.C_drew ?_))) (by exact HC1_1.out) (by repeat (first | exact (Kd.C_below HR1_1.out HB.out) | (with_reducible refine Kd.C_alloc ?_ _) | (with_reducible refine Kd.C_drewN ?_ _) | (with_reducible refine Kd.C_drew ?_)))) (by decide)); (case side4 => exact Nat.le_refl _); rintro e w' ⟨rfl, ⟨nd, rfl⟩⟩; refine ⟨_, rfl, ?_⟩) | ((with_reducible refine gate_callee (f := 57) rfl ?_); refine goesL_ (some 17) rfl rfl Try.func57 (by kernel_rfl) rfl #[.pointer (some ⟨gb143, 0, none⟩), .pointer (some ⟨gb144, 0, none⟩), .int .i64 a2] rfl (by (try simp only [List.map_toArray, List.map_cons, List.map_nil]); first | done | rfl | (simp only [List.length_drop, List.length_take]; rfl)) ?_; (with_reducible refine (spec_l06Run.calls k _ ([(⟨l0_0⟩ : S34)]).length [(⟨l0_0⟩ : S34)] _ ([(⟨l1_0, l1_1⟩ : S36)]).length [(⟨l1_0, l1_1⟩ : S36)] a2 t150 t151 t152 _ ?side1 ?side2 ?side3 ?side4 A6.out).mono ?_); (case side1 => refine Kd.C_block k34 (g := gb143) (cs := #[.slice A0_0 l0_0.length c0_0]) (T := 34) (by (with_reducible repeat (first | refine blk_drewN ?_ _ | refine blk_drew ?_ | refine blk_alloc ?_ _)); exact BK143.out) (show Kd.K k34 _ (⟨l0_0⟩ : S34) [.slice A0_0 l0_0.length c0_0] from k34_mk _ _ (by exact HC0_0.out) (by repeat (first | exact (Kd.C_below HR0_0.out (by repeat (first | (with_reducible first | exact HB.out | apply below_alloc | apply pw_below_drewN | apply below_drew1 | refine below_set ?_ GE143.out | refine below_set ?_ GE144.out) | exact HB.out))) | (with_reducible refine Kd.C_alloc ?_ _) | (with_reducible refine Kd.C_drewN ?_ _) | (with_reducible refine Kd.C_drew ?_)))) (by decide)); (case side2 => exact Nat.le_refl _); (case side3 => refine Kd.C_block k36 (g := gb144) (cs := #[.slice A1_0 l1_0.length c1_0, .slice A1_1 l1_1.length c1_1]) (T := 36) (by (with_reducible repeat (first | refine blk_drewN ?_ _ | refine blk_drew ?_ | refine blk_alloc ?_ _)); exact BK144.out) (show Kd.K k36 _ (⟨l1_0, l1_1⟩ : S36) [.slice A1_0 l1_0.length c1_0, .slice A1_1 l1_1.length c1_1] from k36_mk _ _ (by exact HC1_0.out) (by repeat (first | exact (Kd.C_below HR1_0.out (by repeat (first | (with_reducible first | exact HB.out | apply below_alloc | apply pw_below_drewN | apply below_drew1 | refine below_set ?_ GE143.out | refine below_set ?_ GE144.out) | exact HB.out))) | (with_reducible refine Kd.C_alloc ?_ _) | (with_reducible refine Kd.C_drewN ?_ _) | (with_reducible refine Kd.C_drew ?_))) (by exact HC1_1.out) (by repeat (first | exact (Kd.C_below HR1_1.out (by repeat (first | (with_reducible first | exact HB.out | apply below_alloc | apply pw_below_drewN | apply below_drew1 | refine below_set ?_ GE143.out | refine below_set ?_ GE144.out) | exact HB.out))) | (with_reducible refine Kd.C_alloc ?_ _) | (with_reducible refine Kd.C_drewN ?_ _) | (with_reducible refine Kd.C_drew ?_)))) (by decide)); (case side4 => exact Nat.le_refl _); rintro e w9 ⟨v153, rfl, ho0, hb⟩; refine ⟨_, rfl, ?_⟩; have n0_ := Aside0.mk (Kd.R_lower ho0 (below_size (by repeat (first | (with_reducible first | exact HB.out | apply below_alloc | apply pw_below_drewN | apply below_drew1 | refine below_set ?_ GE143.out | refine below_set ?_ GE144.out) | exact HB.out)))); have n1_ := Aside0.mk (blk_below (g := gb143) (o := .cells #[.slice A0_0 l0_0.length c0_0] 34 (0, 0)) (by (with_reducible repeat (first | refine blk_drewN ?_ _ | refine blk_drew ?_ | refine blk_alloc ?_ _)); exact BK143.out) hb); have n2_ := Aside0.mk (blk_below (g := gb144) (o := .cells #[.slice A1_0 l1_0.length c1_0, .slice A1_1 l1_1.length c1_1] 36 (0, 0)) (by (with_reducible repeat (first | refine blk_drewN ?_ _ | refine blk_drew ?_ | refine blk_alloc ?_ _)); exact BK144.out) hb); have n3_ := Aside0.mk (below_step (by repeat (first | (with_reducible first | exact HB.out | apply below_alloc | apply pw_below_drewN | apply below_drew1 | refine below_set ?_ GE143.out | refine below_set ?_ GE144.out) | exact HB.out)) hb); clear BK143; clear BK144; clear HB; have HO154 := n0_; have BK143 := n1_; have BK144 := n2_; have HB := n3_; clear n0_ n1_ n2_ n3_; (try clear hb); (try clear hb2); (try clear hk); (try clear hi); (try clear ho0)))
  go_ret3
  exact ⟨_, by first | rfl | (simp [errW_none, errW_some] <;> rfl) | (simp [*, errW_none, errW_some] <;> rfl), by (with_reducible repeat (first | apply Kd.R_alloc | apply Kd.R_drewN | apply Kd.R_drew)); exact HO154.out, by repeat (first | (with_reducible first | exact HB.out | apply below_alloc | apply pw_below_drewN | apply below_drew1 | refine below_set ?_ GE143.out | refine below_set ?_ GE144.out) | exact HB.out)⟩
 ·
  rw [if_neg c5] at H
  have c5b0 : (t147 == 0) = false := beq_eq_false_iff_ne.mpr c5
  have c5b1 : (t147 != 0) = true := bne_iff_ne.mpr c5
  obtain ⟨y155, hy155⟩ : ∃ y_ : List Int, y_ = (([] : List Int)) := ⟨_, rfl⟩
  replace H : (some (y155, 0, t147)) = some (r1, r2, r3) := by first | (rw [hy155]; with_reducible exact H) | (have H2_ := (Option.bind_some _ _).symm.trans H; rw [hy155]; with_reducible exact H2_) | (have H2_ := (Option.bind_some _ _).symm.trans H; with_reducible exact H2_) | with_reducible exact H | (rw [hy155]; exact H) | exact H
  have Ny155 := Aside0.mk hy155
  clear hy155
  simp only [Option.some.injEq, Prod.mk.injEq] at H
  obtain ⟨rfl, rfl, rfl⟩ := H
  go_enter Try.func16, Try.ntmps16
  go_wp2_with (first | ((with_reducible refine gate_dst (N := 3) rfl ?_); refine box_event ?hg (N := 3) ?hd (cs := #[.slice A0_0 l0_0.length c0_0]) (t := 34) ?hr ?_; (case hd => rfl); (case hg => rfl); (case hr => first | (go_simp; done) | (go_simp; rfl)); intro gb143 hg w10 hbox hb; have n0_ := Aside0.mk (below_step (by repeat (first | (with_reducible first | exact HB.out | apply below_alloc | apply pw_below_drewN | apply below_drew1) | exact HB.out)) hb); have n1_ := Aside0.mk (hbox); have n2_ := Aside0.mk ((by rw [hg]; exact (below_size (by repeat (first | (with_reducible first | exact HB.out | apply below_alloc | apply pw_below_drewN | apply below_drew1) | exact HB.out))) : w.heap.size ≤ gb143)); have n3_ := Aside0.mk ((by rw [hg]; exact (below_size (by repeat (first | (with_reducible first | exact HB.out | apply below_alloc | apply pw_below_drewN | apply below_drew1) | exact HB.out))) : w.heap.size ≤ gb143)); clear HB; have HB := n0_; have BK143 := n1_; have GW143 := n2_; have GE143 := n3_; clear n0_ n1_ n2_ n3_; clear hb hbox hg) | ((with_reducible refine gate_dst (N := 4) rfl ?_); refine box_event ?hg (N := 4) ?hd (cs := #[.slice A1_0 l1_0.length c1_0, .slice A1_1 l1_1.length c1_1]) (t := 36) ?hr ?_; (case hd => rfl); (case hg => rfl); (case hr => first | (go_simp; done) | (go_simp; rfl)); intro gb144 hg w11 hbox hb; have n0_ := Aside0.mk (blk_below (g := gb143) (o := .cells #[.slice A0_0 l0_0.length c0_0] 34 (0, 0)) (by (with_reducible repeat (first | refine blk_drewN ?_ _ | refine blk_drew ?_ | refine blk_alloc ?_ _)); exact BK143.out) hb); have n1_ := Aside0.mk (below_step (by repeat (first | (with_reducible first | exact HB.out | apply below_alloc | apply pw_below_drewN | apply below_drew1 | refine below_set ?_ GE143.out) | exact HB.out)) hb); have n2_ := Aside0.mk (hbox); have n3_ := Aside0.mk ((by rw [hg]; exact (below_size (by repeat (first | (with_reducible first | exact HB.out | apply below_alloc | apply pw_below_drewN | apply below_drew1 | refine below_set ?_ GE143.out) | exact HB.out))) : w.heap.size ≤ gb144)); have n4_ := Aside0.mk ((by rw [hg]; exact (below_size (by repeat (first | (with_reducible first | exact HB.out | apply below_alloc | apply pw_below_drewN | apply below_drew1 | refine below_set ?_ GE143.out) | exact HB.out))) : w.heap.size ≤ gb144)); have n5_ := Aside0.mk ((by rw [hg]; exact Nat.ne_of_lt (blk_lt (g := gb143) (o := .cells #[.slice A0_0 l0_0.length c0_0] 34 (0, 0)) (by (with_reducible repeat (first | refine blk_drewN ?_ _ | refine blk_drew ?_ | refine blk_alloc ?_ _)); exact BK143.out)) : gb143 ≠ gb144)); have n6_ := Aside0.mk ((by rw [hg]; exact Nat.ne_of_gt (blk_lt (g := gb143) (o := .cells #[.slice A0_0 l0_0.length c0_0] 34 (0, 0)) (by (with_reducible repeat (first | refine blk_drewN ?_ _ | refine blk_drew ?_ | refine blk_alloc ?_ _)); exact BK143.out)) : gb144 ≠ gb143)); clear BK143; clear HB; have BK143 := n0_; have HB := n1_; have BK144 := n2_; have GW144 := n3_; have GE144 := n4_; have NB143_144 := n5_; have NB144_143 := n6_; clear n0_ n1_ n2_ n3_ n4_ n5_ n6_; clear hb hbox hg) | ((with_reducible refine gate_callee (f := 56) rfl ?_); refine goesL_ (some 11) rfl rfl Try.func56 (by kernel_rfl) rfl #[.pointer (some ⟨gb143, 0, none⟩), .pointer (some ⟨gb144, 0, none⟩), .int .i64 a2] rfl (by (try simp only [List.map_toArray, List.map_cons, List.map_nil]); first | done | rfl | (simp only [List.length_drop, List.length_take]; rfl)) ?_; (with_reducible refine (spec_l06Given.calls k _ ([(⟨l0_0⟩ : S34)]).length [(⟨l0_0⟩ : S34)] _ ([(⟨l1_0, l1_1⟩ : S36)]).length [(⟨l1_0, l1_1⟩ : S36)] a2 t147 _ ?side1 ?side2 ?side3 ?side4 A4.out).mono ?_); (case side1 => refine Kd.C_block k34 (g := gb143) (cs := #[.slice A0_0 l0_0.length c0_0]) (T := 34) (by (with_reducible repeat (first | refine blk_drewN ?_ _ | refine blk_drew ?_ | refine blk_alloc ?_ _)); exact BK143.out) (show Kd.K k34 _ (⟨l0_0⟩ : S34) [.slice A0_0 l0_0.length c0_0] from k34_mk _ _ (by exact HC0_0.out) (by repeat (first | exact (Kd.C_below HR0_0.out HB.out) | (with_reducible refine Kd.C_alloc ?_ _) | (with_reducible refine Kd.C_drewN ?_ _) | (with_reducible refine Kd.C_drew ?_)))) (by decide)); (case side2 => exact Nat.le_refl _); (case side3 => refine Kd.C_block k36 (g := gb144) (cs := #[.slice A1_0 l1_0.length c1_0, .slice A1_1 l1_1.length c1_1]) (T := 36) (by (with_reducible repeat (first | refine blk_drewN ?_ _ | refine blk_drew ?_ | refine blk_alloc ?_ _)); exact BK144.out) (show Kd.K k36 _ (⟨l1_0, l1_1⟩ : S36) [.slice A1_0 l1_0.length c1_0, .slice A1_1 l1_1.length c1_1] from k36_mk _ _ (by exact HC1_0.out) (by repeat (first | exact (Kd.C_below HR1_0.out HB.out) | (with_reducible refine Kd.C_alloc ?_ _) | (with_reducible refine Kd.C_drewN ?_ _) | (with_reducible refine Kd.C_drew ?_))) (by exact HC1_1.out) (by repeat (first | exact (Kd.C_below HR1_1.out HB.out) | (with_reducible refine Kd.C_alloc ?_ _) | (with_reducible refine Kd.C_drewN ?_ _) | (with_reducible refine Kd.C_drew ?_)))) (by decide)); (case side4 => exact Nat.le_refl _); rintro e w' ⟨rfl, ⟨nd, rfl⟩⟩; refine ⟨_, rfl, ?_⟩) | ((with_reducible refine gate_dst (N := 14) rfl ?_); refine Kd.R_lit (Kd.int .i8) _ 86 ?hg (N := 14) ?hd (xs := ([] : List Int)) (inner := []) (ok := fun _ => True) (okp := fun _ => True) ?hr ?hp (fun _ hk => hk) trivial (Below.refl _ _) (Nat.le_refl _) (by simp) ?_; (case hd => rfl); (case hg => rfl); (case hr => first | (go_simp; done) | (go_simp; rfl)); (case hp => exact (Reps.none _ _)); intro v156 w12 ho13 hb hg_ hnew_; clear hg_ hnew_; (first | rw [← Ny155.out] at ho13 | (simp only [Int.reduceToNat] at ho13; rw [← Ny155.out] at ho13)); have n0_ := Aside0.mk (Kd.R_lower ho13 (below_size (by repeat (first | (with_reducible first | exact HB.out | apply below_alloc | apply pw_below_drewN | apply below_drew1 | refine below_set ?_ GE143.out | refine below_set ?_ GE144.out) | exact HB.out)))); have n1_ := Aside0.mk (blk_below (g := gb143) (o := .cells #[.slice A0_0 l0_0.length c0_0] 34 (0, 0)) (by (with_reducible repeat (first | refine blk_drewN ?_ _ | refine blk_drew ?_ | refine blk_alloc ?_ _)); exact BK143.out) hb); have n2_ := Aside0.mk (blk_below (g := gb144) (o := .cells #[.slice A1_0 l1_0.length c1_0, .slice A1_1 l1_1.length c1_1] 36 (0, 0)) (by (with_reducible repeat (first | refine blk_drewN ?_ _ | refine blk_drew ?_ | refine blk_alloc ?_ _)); exact BK144.out) hb); have n3_ := Aside0.mk (below_step (by repeat (first | (with_reducible first | exact HB.out | apply below_alloc | apply pw_below_drewN | apply below_drew1 | refine below_set ?_ GE143.out | refine below_set ?_ GE144.out) | exact HB.out)) hb); clear BK143; clear BK144; clear HB; have HO157 := n0_; have BK143 := n1_; have BK144 := n2_; have HB := n3_; clear n0_ n1_ n2_ n3_; clear hb ho13))
  go_ret3
  exact ⟨_, by first | rfl | (simp [errW_none, errW_some] <;> rfl) | (simp [*, errW_none, errW_some] <;> rfl), by (with_reducible repeat (first | apply Kd.R_alloc | apply Kd.R_drewN | apply Kd.R_drew)); exact HO157.out, by repeat (first | (with_reducible first | exact HB.out | apply below_alloc | apply pw_below_drewN | apply below_drew1 | refine below_set ?_ GE143.out | refine below_set ?_ GE144.out) | exact HB.out)⟩
/-! ### laws_toInt16A3: function 146 -/
def laws_toInt16A3.l0 : Nat → Int → Int → Int → Int → Int → Int → Int → Option (Int × Int × Int)
 | 0, _, _, _, _, _, _, _ => none
 | k + 1, x4, x159000, x159001, x159002, x161000, x161001, x161002 => if x4 < 3 then (if 0 ≤ x4 then (laws_toInt16A3.l0 k (wrap64 (x4 + 1)) x159000 x159001 x159002 (up 0 x4 (rd [x159000, x159001, x159002] x4) x161000) (up 1 x4 (rd [x159000, x159001, x159002] x4) x161001) (up 2 x4 (rd [x159000, x159001, x159002] x4) x161002)) else (none)) else (some (x161000, x161001, x161002))
def laws_toInt16A3.f (k : Nat) (a0_0 : Int) (a0_1 : Int) (a0_2 : Int) : Option (Int × Int × Int) := laws_toInt16A3.l0 k 0 a0_0 a0_1 a0_2 0 0 0
theorem laws_toInt16A3.mono_l : ∀ k, (∀ y0 y1 y2 y3 y4 y5 y6, LeO (laws_toInt16A3.l0 k y0 y1 y2 y3 y4 y5 y6) (laws_toInt16A3.l0 (k + 1) y0 y1 y2 y3 y4 y5 y6))
 | 0 => fun _ _ _ _ _ _ _ r h => by simp [laws_toInt16A3.l0] at h
 | k + 1 => by
  have ih0 := laws_toInt16A3.mono_l k
  ·
   intro y0 y1 y2 y3 y4 y5 y6
   unfold laws_toInt16A3.l0
   repeat' first
   | (with_reducible exact ih0 _ _ _ _ _ _ _)
   | (with_reducible exact LeO.refl _)
   | (with_reducible exact LeO.none _)
   | (with_reducible refine LeO.ite ?_ ?_)
   | (with_reducible refine LeO.bind ?_ (fun _ => ?_))
   | exact ih0 _ _ _ _ _ _ _
   | exact LeO.none _
   | refine LeO.ite ?_ ?_
   | refine LeO.bind ?_ (fun _ => ?_)
theorem laws_toInt16A3.mono : ∀ a0 a1 a2 k, LeO (laws_toInt16A3.f k a0 a1 a2) (laws_toInt16A3.f (k + 1) a0 a1 a2) := by
 intro a0 a1 a2 k
 have ih0 := laws_toInt16A3.mono_l k
 unfold laws_toInt16A3.f
 repeat' first
   | (with_reducible exact ih0 _ _ _ _ _ _ _)
   | (with_reducible exact LeO.refl _)
   | (with_reducible exact LeO.none _)
   | (with_reducible refine LeO.ite ?_ ?_)
   | (with_reducible refine LeO.bind ?_ (fun _ => ?_))
   | exact ih0 _ _ _ _ _ _ _
   | exact LeO.none _
   | refine LeO.ite ?_ ?_
   | refine LeO.bind ?_ (fun _ => ?_)
set_option maxHeartbeats 8000000 in
set_option maxRecDepth 100000 in
theorem laws_toInt16A3.calls (k : Nat) (a0_0 : Int) (a0_1 : Int) (a0_2 : Int) (r1 : Int) (r2 : Int) (r3 : Int) (w : World) (h : laws_toInt16A3.f k a0_0 a0_1 a0_2 = some (r1, r2, r3)) :
  Calls Try.prog 146 #[.agg #[.int .i16 a0_0, .int .i16 a0_1, .int .i16 a0_2]] w fun e w' => e = .returned (.agg #[.int .i16 r1, .int .i16 r2, .int .i16 r3]) ∧ Below w.heap.size w w' := by
 have hu87 := Try.underlying87
 have HB := Aside0.mk (Below.refl w.heap.size w)
 have H : (laws_toInt16A3.l0 k 0 a0_0 a0_1 a0_2 0 0 0) = some (r1, r2, r3) := h
 clear h
 have H' := Aside0.mk H
 clear H
 go_enter Try.func146, Try.ntmps146
 go_wp2_with (first | ((with_reducible refine gate_dst (N := 1) rfl ?_); refine box_event ?hg (N := 1) ?hd (cs := #[.int .i16 a0_0, .int .i16 a0_1, .int .i16 a0_2]) (t := 87) ?hr ?_; (case hd => rfl); (case hg => rfl); (case hr => first | (go_simp; done) | (go_simp; rfl)); intro gb158 hg w2 hbox hb; have n0_ := Aside0.mk (below_step (by repeat (first | (with_reducible first | exact HB.out | apply below_alloc | apply pw_below_drewN | apply below_drew1) | exact HB.out)) hb); have n1_ := Aside0.mk (hbox); have n2_ := Aside0.mk ((by rw [hg]; exact (below_size (by repeat (first | (with_reducible first | exact HB.out | apply below_alloc | apply pw_below_drewN | apply below_drew1) | exact HB.out))) : w.heap.size ≤ gb158)); have n3_ := Aside0.mk ((by rw [hg]; exact (below_size (by repeat (first | (with_reducible first | exact HB.out | apply below_alloc | apply pw_below_drewN | apply below_drew1) | exact HB.out))) : w.heap.size ≤ gb158)); clear HB; have HB := n0_; have BK158 := n1_; have GW158 := n2_; have GE158 := n3_; clear n0_ n1_ n2_ n3_; clear hb hbox hg) | ((with_reducible refine gate_dst (N := 2) rfl ?_); refine box_event ?hg (N := 2) ?hd (cs := #[.int .i16 0, .int .i16 0, .int .i16 0]) (t := 87) ?hr ?_; (case hd => rfl); (case hg => rfl); (case hr => first | (go_simp; done) | (go_simp; rfl)); intro gb159 hg w3 hbox hb; have n0_ := Aside0.mk (blk_below (g := gb158) (o := .cells #[.int .i16 a0_0, .int .i16 a0_1, .int .i16 a0_2] 87 (0, 0)) (by (with_reducible repeat (first | refine blk_drewN ?_ _ | refine blk_drew ?_ | refine blk_alloc ?_ _)); exact BK158.out) hb); have n1_ := Aside0.mk (below_step (by repeat (first | (with_reducible first | exact HB.out | apply below_alloc | apply pw_below_drewN | apply below_drew1 | refine below_set ?_ GE158.out) | exact HB.out)) hb); have n2_ := Aside0.mk (hbox); have n3_ := Aside0.mk ((by rw [hg]; exact (below_size (by repeat (first | (with_reducible first | exact HB.out | apply below_alloc | apply pw_below_drewN | apply below_drew1 | refine below_set ?_ GE158.out) | exact HB.out))) : w.heap.size ≤ gb159)); have n4_ := Aside0.mk ((by rw [hg]; exact (below_size (by repeat (first | (with_reducible first | exact HB.out | apply below_alloc | apply pw_below_drewN | apply below_drew1 | refine below_set ?_ GE158.out) | exact HB.out))) : w.heap.size ≤ gb159)); have n5_ := Aside0.mk ((by rw [hg]; exact Nat.ne_of_lt (blk_lt (g := gb158) (o := .cells #[.int .i16 a0_0, .int .i16 a0_1, .int .i16 a0_2] 87 (0, 0)) (by (with_reducible repeat (first | refine blk_drewN ?_ _ | refine blk_drew ?_ | refine blk_alloc ?_ _)); exact BK158.out)) : gb158 ≠ gb159)); have n6_ := Aside0.mk ((by rw [hg]; exact Nat.ne_of_gt (blk_lt (g := gb158) (o := .cells #[.int .i16 a0_0, .int .i16 a0_1, .int .i16 a0_2] 87 (0, 0)) (by (with_reducible repeat (first | refine blk_drewN ?_ _ | refine blk_drew ?_ | refine blk_alloc ?_ _)); exact BK158.out)) : gb159 ≠ gb158)); clear BK158; clear HB; have BK158 := n0_; have HB := n1_; have BK159 := n2_; have GW159 := n3_; have GE159 := n4_; have NB158_159 := n5_; have NB159_158 := n6_; clear n0_ n1_ n2_ n3_ n4_ n5_ n6_; clear hb hbox hg) | ((with_reducible refine gate_dst (N := 3) rfl ?_); refine box_event ?hg (N := 3) ?hd (cs := #[.int .i16 0, .int .i16 0, .int .i16 0]) (t := 87) ?hr ?_; (case hd => rfl); (case hg => rfl); (case hr => first | (go_simp; done) | (go_simp; rfl)); intro gb160 hg w4 hbox hb; have n0_ := Aside0.mk (blk_below (g := gb158) (o := .cells #[.int .i16 a0_0, .int .i16 a0_1, .int .i16 a0_2] 87 (0, 0)) (by (with_reducible repeat (first | refine blk_drewN ?_ _ | refine blk_drew ?_ | refine blk_alloc ?_ _)); exact BK158.out) hb); have n1_ := Aside0.mk (blk_below (g := gb159) (o := .cells #[.int .i16 0, .int .i16 0, .int .i16 0] 87 (0, 0)) (by (with_reducible repeat (first | refine blk_drewN ?_ _ | refine blk_drew ?_ | refine blk_alloc ?_ _)); exact BK159.out) hb); have n2_ := Aside0.mk (below_step (by repeat (first | (with_reducible first | exact HB.out | apply below_alloc | apply pw_below_drewN | apply below_drew1 | refine below_set ?_ GE158.out | refine below_set ?_ GE159.out) | exact HB.out)) hb); have n3_ := Aside0.mk (hbox); have n4_ := Aside0.mk ((by rw [hg]; exact (below_size (by repeat (first | (with_reducible first | exact HB.out | apply below_alloc | apply pw_below_drewN | apply below_drew1 | refine below_set ?_ GE158.out | refine below_set ?_ GE159.out) | exact HB.out))) : w.heap.size ≤ gb160)); have n5_ := Aside0.mk ((by rw [hg]; exact (below_size (by repeat (first | (with_reducible first | exact HB.out | apply below_alloc | apply pw_below_drewN | apply below_drew1 | refine below_set ?_ GE158.out | refine below_set ?_ GE159.out) | exact HB.out))) : w.heap.size ≤ gb160)); have n6_ := Aside0.mk ((by rw [hg]; exact Nat.ne_of_lt (blk_lt (g := gb158) (o := .cells #[.int .i16 a0_0, .int .i16 a0_1, .int .i16 a0_2] 87 (0, 0)) (by (with_reducible repeat (first | refine blk_drewN ?_ _ | refine blk_drew ?_ | refine blk_alloc ?_ _)); exact BK158.out)) : gb158 ≠ gb160)); have n7_ := Aside0.mk ((by rw [hg]; exact Nat.ne_of_gt (blk_lt (g := gb158) (o := .cells #[.int .i16 a0_0, .int .i16 a0_1, .int .i16 a0_2] 87 (0, 0)) (by (with_reducible repeat (first | refine blk_drewN ?_ _ | refine blk_drew ?_ | refine blk_alloc ?_ _)); exact BK158.out)) : gb160 ≠ gb158)); have n8_ := Aside0.mk ((by rw [hg]; exact Nat.ne_of_lt (blk_lt (g := gb159) (o := .cells #[.int .i16 0, .int .i16 0, .int .i16 0] 87 (0, 0)) (by (with_reducible repeat (first | refine blk_drewN ?_ _ | refine blk_drew ?_ | refine blk_alloc ?_ _)); exact BK159.out)) : gb159 ≠ gb160)); have n9_ := Aside0.mk ((by rw [hg]; exact Nat.ne_of_gt (blk_lt (g := gb159) (o := .cells #[.int .i16 0, .int .i16 0, .int .i16 0] 87 (0, 0)) (by (with_reducible repeat (first | refine blk_drewN ?_ _ | refine blk_drew ?_ | refine blk_alloc ?_ _)); exact BK159.out)) : gb160 ≠ gb159)); clear BK158; clear BK159; clear HB; have BK158 := n0_; have BK159 := n1_; have HB := n2_; have BK160 := n3_; have GW160 := n4_; have GE160 := n5_; have NB158_160 := n6_; have NB160_158 := n7_; have NB159_160 := n8_; have NB160_159 := n9_; clear n0_ n1_ n2_ n3_ n4_ n5_ n6_ n7_ n8_ n9_; clear hb hbox hg))
 go_loopg [4] k (fun kq v4 w' => ∃ (x4_1 : Int) (x161000_1 : Int) (x161001_1 : Int) (x161002_1 : Int), v4 = .int .i64 x4_1 ∧ Aside0 (laws_toInt16A3.l0 kq x4_1 a0_0 a0_1 a0_2 x161000_1 x161001_1 x161002_1 = some (r1, r2, r3)) ∧ Aside0 (kq ≤ k) ∧ Aside0 (w'.heap[gb158]? = some (.cells #[.int .i16 a0_0, .int .i16 a0_1, .int .i16 a0_2] 87 (0, 0))) ∧ Aside0 (w'.heap[gb159]? = some (.cells #[.int .i16 0, .int .i16 0, .int .i16 0] 87 (0, 0))) ∧ Aside0 (w'.heap[gb160]? = some (.cells #[.int .i16 x161000_1, .int .i16 x161001_1, .int .i16 x161002_1] 87 (0, 0))) ∧ Aside0 (Below w.heap.size w w'))
 case atStart => exact ⟨(0), (0), (0), (0), (by first | rfl | (simp; done) | (simp [*]; done) | (simp [isE_]; done)), H', ⟨Nat.le_refl _⟩, ⟨by (with_reducible repeat (first | refine blk_drewN ?_ _ | refine blk_drew ?_ | refine blk_alloc ?_ _)); exact BK158.out⟩, ⟨by (with_reducible repeat (first | refine blk_drewN ?_ _ | refine blk_drew ?_ | refine blk_alloc ?_ _)); exact BK159.out⟩, ⟨by (with_reducible repeat (first | refine blk_drewN ?_ _ | refine blk_drew ?_ | refine blk_alloc ?_ _)); exact BK160.out⟩, ⟨by repeat (first | (with_reducible first | exact HB.out | apply below_alloc | apply pw_below_drewN | apply below_drew1 | refine below_set ?_ GE158.out | refine below_set ?_ GE159.out | refine below_set ?_ GE160.out) | exact HB.out)⟩⟩
 case round =>
  clear H'
  try clear c1
  try clear p2
  obtain ⟨x4_1, x161000_1, x161001_1, x161002_1, rfl, HA, HK1, BK158, BK159, BK160, HB⟩ := hrel
  cases gk with
  | zero => exact absurd HA.out (by simp [laws_toInt16A3.l0])
  | succ k1 =>
   have H := HA.out
   clear HA
   simp only [laws_toInt16A3.l0] at H
   by_cases c5 : x4_1 < 3
   ·
    rw [if_pos c5] at H
    have c5b0 : decide (x4_1 < 3) = true := decide_eq_true c5
    clear c5
    by_cases c6 : 0 ≤ x4_1
    ·
     rw [if_pos c6] at H
     have c6b0 : decide (0 ≤ x4_1) = true := decide_eq_true c6
     clear c6
     have H' := Aside0.mk H
     clear H
     have p161 : 0 ≤ (x4_1 : Int) := of_decide_eq_true (by assumption)
     have q161 : (x4_1 : Int) < 3 := of_decide_eq_true (by assumption)
     have hx161_0 := blk_arr (xs := [a0_0, a0_1, a0_2]) (k := .i16) BK158.out 0 rfl x4_1 p161 q161
     (try simp only [Nat.zero_add] at hx161_0)
     replace p161 := eq_true p161
     replace q161 := eq_true q161
     have p162 : 0 ≤ (x4_1 : Int) := of_decide_eq_true (by assumption)
     have q162 : (x4_1 : Int) < 3 := of_decide_eq_true (by assumption)
     have hx162_0 := blk_arr (xs := [x161000_1, x161001_1, x161002_1]) (k := .i16) BK160.out 0 rfl x4_1 p162 q162
     have hf162_0 := blk_frozen BK160.out (0 + (x4_1 : Int).toNat)
     have hcs162 := Aside0.mk (show (x4_1 : Int) = 0 ∨ (x4_1 : Int) = 1 ∨ (x4_1 : Int) = 2 by omega)
     (try simp only [Nat.zero_add] at hx162_0)
     (try simp only [Nat.zero_add] at hf162_0)
     replace p162 := eq_true p162
     replace q162 := eq_true q162
     go_wp2_with (first | ((with_reducible refine gate_store (t := 85) (p := 13) rfl ?_); refine store_event (t := 85) (p := 13) (v := ?vo_w7) (w1 := (wr.setCell ⟨gb160, (x4_1 : Int).toNat, none⟩ (.int .i16 (rd [a0_0, a0_1, a0_2] x4_1)))) ?hg ?ho ?hn ?hr ?_; (case ho => rfl); (case hg => rfl); (case hn => rfl); (case hr => first | (go_simp; done) | (go_simp; rfl)); intro w7 hw; have n0_ : Aside0 (w7.heap[gb158]? = some (.cells #[.int .i16 a0_0, .int .i16 a0_1, .int .i16 a0_2] 87 (0, 0))) := ⟨(by rw [hw]; exact (by (with_reducible repeat (first | refine blk_drewN ?_ _ | refine blk_drew ?_ | refine blk_alloc ?_ _)); refine blk_far ?_ NB158_160.out _; (with_reducible repeat (first | refine blk_drewN ?_ _ | refine blk_drew ?_ | refine blk_alloc ?_ _)); exact BK158.out))⟩; have n1_ : Aside0 (w7.heap[gb159]? = some (.cells #[.int .i16 0, .int .i16 0, .int .i16 0] 87 (0, 0))) := ⟨(by rw [hw]; exact (by (with_reducible repeat (first | refine blk_drewN ?_ _ | refine blk_drew ?_ | refine blk_alloc ?_ _)); refine blk_far ?_ NB159_160.out _; (with_reducible repeat (first | refine blk_drewN ?_ _ | refine blk_drew ?_ | refine blk_alloc ?_ _)); exact BK159.out))⟩; have n2_ : Aside0 (w7.heap[gb160]? = some (.cells #[.int .i16 (up 0 x4_1 (rd [a0_0, a0_1, a0_2] x4_1) x161000_1), .int .i16 (up 1 x4_1 (rd [a0_0, a0_1, a0_2] x4_1) x161001_1), .int .i16 (up 2 x4_1 (rd [a0_0, a0_1, a0_2] x4_1) x161002_1)] 87 (0, 0))) := ⟨(by rw [hw]; exact (by (with_reducible repeat (first | refine blk_drewN ?_ _ | refine blk_drew ?_ | refine blk_alloc ?_ _)); refine blk_put (cs := #[.int .i16 x161000_1, .int .i16 x161001_1, .int .i16 x161002_1]) ?_ ((x4_1 : Int).toNat) _ (by rcases hcs162.out with h_ | h_ | h_ <;> rw [h_] <;> rfl); (with_reducible repeat (first | refine blk_drewN ?_ _ | refine blk_drew ?_ | refine blk_alloc ?_ _)); exact BK160.out))⟩; have n3_ : Aside0 (Below w.heap.size w w7) := ⟨(by rw [hw]; exact (by repeat (first | (with_reducible first | exact HB.out | apply below_alloc | apply pw_below_drewN | apply below_drew1 | refine below_set ?_ GE158.out | refine below_set ?_ GE159.out | refine below_set ?_ GE160.out) | exact HB.out)))⟩; clear hw; clear BK158; clear BK159; clear BK160; clear HB; have BK158 := n0_; have BK159 := n1_; have BK160 := n2_; have HB := n3_; clear n0_ n1_ n2_ n3_))
     go_roundg k1
     case measure => have := HK1.out; omega
     case rel => exact ⟨(wrap64 (x4_1 + 1)), (up 0 x4_1 (rd [a0_0, a0_1, a0_2] x4_1) x161000_1), (up 1 x4_1 (rd [a0_0, a0_1, a0_2] x4_1) x161001_1), (up 2 x4_1 (rd [a0_0, a0_1, a0_2] x4_1) x161002_1), (by first | rfl | (simp; done) | (simp [*]; done) | (simp [isE_]; done)), H', ⟨by have := HK1.out; omega⟩, ⟨by (with_reducible repeat (first | refine blk_drewN ?_ _ | refine blk_drew ?_ | refine blk_alloc ?_ _)); exact BK158.out⟩, ⟨by (with_reducible repeat (first | refine blk_drewN ?_ _ | refine blk_drew ?_ | refine blk_alloc ?_ _)); exact BK159.out⟩, ⟨by (with_reducible repeat (first | refine blk_drewN ?_ _ | refine blk_drew ?_ | refine blk_alloc ?_ _)); exact BK160.out⟩, ⟨by repeat (first | (with_reducible first | exact HB.out | apply below_alloc | apply pw_below_drewN | apply below_drew1 | refine below_set ?_ GE158.out | refine below_set ?_ GE159.out | refine below_set ?_ GE160.out) | exact HB.out)⟩⟩
    ·
     rw [if_neg c6] at H
     exact absurd H (by simp)
   ·
    rw [if_neg c5] at H
    have c5b0 : decide (x4_1 < 3) = false := decide_eq_false c5
    clear c5
    simp only [Option.some.injEq, Prod.mk.injEq] at H
    obtain ⟨rfl, rfl, rfl⟩ := H
    have hnb8 := NB160_158.out
    have hnc8 := NB158_160.out
    have hnb9 := NB160_159.out
    have hnc9 := NB159_160.out
    have hcz10_0 : wr.cell? ⟨gb160, 0, none⟩ = some (.int .i16 x161000_1) := (blk_cell BK160.out 0).trans rfl
    have hcz10_1 : wr.cell? ⟨gb160, 1, none⟩ = some (.int .i16 x161001_1) := (blk_cell BK160.out 1).trans rfl
    have hcz10_2 : wr.cell? ⟨gb160, 2, none⟩ = some (.int .i16 x161002_1) := (blk_cell BK160.out 2).trans rfl
    have hfz10_0 := blk_frozen BK160.out 0
    have hfz10_1 := blk_frozen BK160.out 1
    have hfz10_2 := blk_frozen BK160.out 2
    have hnb11 := NB159_158.out
    have hnc11 := NB158_159.out
    have hcz12_0 : wr.cell? ⟨gb159, 0, none⟩ = some (.int .i16 0) := (blk_cell BK159.out 0).trans rfl
    have hcz12_1 : wr.cell? ⟨gb159, 1, none⟩ = some (.int .i16 0) := (blk_cell BK159.out 1).trans rfl
    have hcz12_2 : wr.cell? ⟨gb159, 2, none⟩ = some (.int .i16 0) := (blk_cell BK159.out 2).trans rfl
    have hfz12_0 := blk_frozen BK159.out 0
    have hfz12_1 := blk_frozen BK159.out 1
    have hfz12_2 := blk_frozen BK159.out 2
    go_wp2
    refine bodyPost_ret (results_cell_row rfl _ _ gb159 87 #[.int .i16 x161000_1, .int .i16 x161001_1, .int .i16 x161002_1] (0, 0) _ rfl (by (with_reducible repeat (first | refine blk_drewN ?_ _ | refine blk_drew ?_ | refine blk_alloc ?_ _)); refine blk_put (cs := #[.int .i16 x161000_1, .int .i16 x161001_1, .int .i16 0]) ?_ 2 _ rfl; (with_reducible repeat (first | refine blk_drewN ?_ _ | refine blk_drew ?_ | refine blk_alloc ?_ _)); refine blk_put (cs := #[.int .i16 x161000_1, .int .i16 0, .int .i16 0]) ?_ 1 _ rfl; (with_reducible repeat (first | refine blk_drewN ?_ _ | refine blk_drew ?_ | refine blk_alloc ?_ _)); refine blk_put (cs := #[.int .i16 0, .int .i16 0, .int .i16 0]) ?_ 0 _ rfl; (with_reducible repeat (first | refine blk_drewN ?_ _ | refine blk_drew ?_ | refine blk_alloc ?_ _)); exact BK159.out) Try.underlying87 rfl (by kernel_rfl)) rfl ?_
    exact ⟨by first | rfl | (simp [errW_none, errW_some] <;> rfl) | (simp [*, errW_none, errW_some] <;> rfl), by repeat (first | (with_reducible first | exact HB.out | apply below_alloc | apply pw_below_drewN | apply below_drew1 | refine below_set ?_ GE158.out | refine below_set ?_ GE159.out | refine below_set ?_ GE160.out) | exact HB.out)⟩
/-! ### laws_toFork: function 111 -/
def laws_toFork.f (k : Nat) (a0_0 : Int) (a0_1 : Int) (a0_2 : Int) (a0_3 : Int) (a0_4 : Int) : Option (Int × Int × Int × Int × Int) := (laws_toInt16A3.f k a0_2 a0_3 a0_4).bind fun bt166 => (some (a0_0, a0_1, bt166.1, bt166.2.1, bt166.2.2))
theorem laws_toFork.mono : ∀ a0 a1 a2 a3 a4 k, LeO (laws_toFork.f k a0 a1 a2 a3 a4) (laws_toFork.f (k + 1) a0 a1 a2 a3 a4) := by
 intro a0 a1 a2 a3 a4 k
 unfold laws_toFork.f
 repeat' first
   | (with_reducible exact laws_toInt16A3.mono _ _ _ _)
   | (with_reducible exact LeO.refl _)
   | (with_reducible exact LeO.none _)
   | (with_reducible refine LeO.ite ?_ ?_)
   | (with_reducible refine LeO.bind ?_ (fun _ => ?_))
   | exact LeO.none _
   | refine LeO.ite ?_ ?_
   | refine LeO.bind ?_ (fun _ => ?_)
set_option maxHeartbeats 8000000 in
set_option maxRecDepth 100000 in
theorem laws_toFork.calls (k : Nat) (a0_0 : Int) (a0_1 : Int) (a0_2 : Int) (a0_3 : Int) (a0_4 : Int) (r1 : Int) (r2 : Int) (r3 : Int) (r4 : Int) (r5 : Int) (w : World) (h : laws_toFork.f k a0_0 a0_1 a0_2 a0_3 a0_4 = some (r1, r2, r3, r4, r5)) :
  Calls Try.prog 111 #[.agg #[.int .i8 a0_0, .int .i8 a0_1, .int .i16 a0_2, .int .i16 a0_3, .int .i16 a0_4]] w fun e w' => e = .returned (.agg #[.int .i8 r1, .int .i8 r2, .int .i16 r3, .int .i16 r4, .int .i16 r5]) ∧ Below w.heap.size w w' := by
 have hu158 := Try.underlying158
 have hu89 := Try.underlying89
 have hu87 := Try.underlying87
 have HB := Aside0.mk (Below.refl w.heap.size w)
 have H : ((laws_toInt16A3.f k a0_2 a0_3 a0_4).bind fun bt166 => (some (a0_0, a0_1, bt166.1, bt166.2.1, bt166.2.2))) = some (r1, r2, r3, r4, r5) := h
 clear h
 replace H := Option.bind_eq_some_iff.mp H
 obtain ⟨⟨t166, t167, t168⟩, A20, H⟩ := H
 replace H : (some (a0_0, a0_1, t166, t167, t168)) = some (r1, r2, r3, r4, r5) := H
 have A2 := Aside0.mk A20
 clear A20
 simp only [Option.some.injEq, Prod.mk.injEq] at H
 obtain ⟨rfl, rfl, rfl, rfl, rfl⟩ := H
 go_enter Try.func111, Try.ntmps111
 go_wp2_with (first | ((with_reducible refine gate_dst (N := 1) rfl ?_); refine box_event ?hg (N := 1) ?hd (cs := #[.int .i8 a0_0, .int .i8 a0_1, .int .i16 a0_2, .int .i16 a0_3, .int .i16 a0_4]) (t := 158) ?hr ?_; (case hd => rfl); (case hg => rfl); (case hr => first | (go_simp; done) | (go_simp; rfl)); intro gb163 hg w3 hbox hb; have n0_ := Aside0.mk (below_step (by repeat (first | (with_reducible first | exact HB.out | apply below_alloc | apply pw_below_drewN | apply below_drew1) | exact HB.out)) hb); have n1_ := Aside0.mk (hbox); have n2_ := Aside0.mk ((by rw [hg]; exact (below_size (by repeat (first | (with_reducible first | exact HB.out | apply below_alloc | apply pw_below_drewN | apply below_drew1) | exact HB.out))) : w.heap.size ≤ gb163)); have n3_ := Aside0.mk ((by rw [hg]; exact (below_size (by repeat (first | (with_reducible first | exact HB.out | apply below_alloc | apply pw_below_drewN | apply below_drew1) | exact HB.out))) : w.heap.size ≤ gb163)); clear HB; have HB := n0_; have BK163 := n1_; have GW163 := n2_; have GE163 := n3_; clear n0_ n1_ n2_ n3_; clear hb hbox hg) | ((with_reducible refine gate_dst (N := 2) rfl ?_); refine box_event ?hg (N := 2) ?hd (cs := #[.int .i8 0, .int .i8 0, .int .i16 0, .int .i16 0, .int .i16 0]) (t := 89) ?hr ?_; (case hd => rfl); (case hg => rfl); (case hr => first | (go_simp; done) | (go_simp; rfl)); intro gb164 hg w4 hbox hb; have n0_ := Aside0.mk (blk_below (g := gb163) (o := .cells #[.int .i8 a0_0, .int .i8 a0_1, .int .i16 a0_2, .int .i16 a0_3, .int .i16 a0_4] 158 (0, 0)) (by (with_reducible repeat (first | refine blk_drewN ?_ _ | refine blk_drew ?_ | refine blk_alloc ?_ _)); exact BK163.out) hb); have n1_ := Aside0.mk (below_step (by repeat (first | (with_reducible first | exact HB.out | apply below_alloc | apply pw_below_drewN | apply below_drew1 | refine below_set ?_ GE163.out) | exact HB.out)) hb); have n2_ := Aside0.mk (hbox); have n3_ := Aside0.mk ((by rw [hg]; exact (below_size (by repeat (first | (with_reducible first | exact HB.out | apply below_alloc | apply pw_below_drewN | apply below_drew1 | refine below_set ?_ GE163.out) | exact HB.out))) : w.heap.size ≤ gb164)); have n4_ := Aside0.mk ((by rw [hg]; exact (below_size (by repeat (first | (with_reducible first | exact HB.out | apply below_alloc | apply pw_below_drewN | apply below_drew1 | refine below_set ?_ GE163.out) | exact HB.out))) : w.heap.size ≤ gb164)); have n5_ := Aside0.mk ((by rw [hg]; exact Nat.ne_of_lt (blk_lt (g := gb163) (o := .cells #[.int .i8 a0_0, .int .i8 a0_1, .int .i16 a0_2, .int .i16 a0_3, .int .i16 a0_4] 158 (0, 0)) (by (with_reducible repeat (first | refine blk_drewN ?_ _ | refine blk_drew ?_ | refine blk_alloc ?_ _)); exact BK163.out)) : gb163 ≠ gb164)); have n6_ := Aside0.mk ((by rw [hg]; exact Nat.ne_of_gt (blk_lt (g := gb163) (o := .cells #[.int .i8 a0_0, .int .i8 a0_1, .int .i16 a0_2, .int .i16 a0_3, .int .i16 a0_4] 158 (0, 0)) (by (with_reducible repeat (first | refine blk_drewN ?_ _ | refine blk_drew ?_ | refine blk_alloc ?_ _)); exact BK163.out)) : gb164 ≠ gb163)); clear BK163; clear HB; have BK163 := n0_; have HB := n1_; have BK164 := n2_; have GW164 := n3_; have GE164 := n4_; have NB163_164 := n5_; have NB164_163 := n6_; clear n0_ n1_ n2_ n3_ n4_ n5_ n6_; clear hb hbox hg) | ((with_reducible refine gate_dst (N := 3) rfl ?_); refine box_event ?hg (N := 3) ?hd (cs := #[.int .i8 0, .int .i8 0, .int .i16 0, .int .i16 0, .int .i16 0]) (t := 89) ?hr ?_; (case hd => rfl); (case hg => rfl); (case hr => first | (go_simp; done) | (go_simp; rfl)); intro gb165 hg w5 hbox hb; have n0_ := Aside0.mk (blk_below (g := gb163) (o := .cells #[.int .i8 a0_0, .int .i8 a0_1, .int .i16 a0_2, .int .i16 a0_3, .int .i16 a0_4] 158 (0, 0)) (by (with_reducible repeat (first | refine blk_drewN ?_ _ | refine blk_drew ?_ | refine blk_alloc ?_ _)); exact BK163.out) hb); have n1_ := Aside0.mk (blk_below (g := gb164) (o := .cells #[.int .i8 0, .int .i8 0, .int .i16 0, .int .i16 0, .int .i16 0] 89 (0, 0)) (by (with_reducible repeat (first | refine blk_drewN ?_ _ | refine blk_drew ?_ | refine blk_alloc ?_ _)); exact BK164.out) hb); have n2_ := Aside0.mk (below_step (by repeat (first | (with_reducible first | exact HB.out | apply below_alloc | apply pw_below_drewN | apply below_drew1 | refine below_set ?_ GE163.out | refine below_set ?_ GE164.out) | exact HB.out)) hb); have n3_ := Aside0.mk (hbox); have n4_ := Aside0.mk ((by rw [hg]; exact (below_size (by repeat (first | (with_reducible first | exact HB.out | apply below_alloc | apply pw_below_drewN | apply below_drew1 | refine below_set ?_ GE163.out | refine below_set ?_ GE164.out) | exact HB.out))) : w.heap.size ≤ gb165)); have n5_ := Aside0.mk ((by rw [hg]; exact (below_size (by repeat (first | (with_reducible first | exact HB.out | apply below_alloc | apply pw_below_drewN | apply below_drew1 | refine below_set ?_ GE163.out | refine below_set ?_ GE164.out) | exact HB.out))) : w.heap.size ≤ gb165)); have n6_ := Aside0.mk ((by rw [hg]; exact Nat.ne_of_lt (blk_lt (g := gb163) (o := .cells #[.int .i8 a0_0, .int .i8 a0_1, .int .i16 a0_2, .int .i16 a0_3, .int .i16 a0_4] 158 (0, 0)) (by (with_reducible repeat (first | refine blk_drewN ?_ _ | refine blk_drew ?_ | refine blk_alloc ?_ _)); exact BK163.out)) : gb163 ≠ gb165)); have n7_ := Aside0.mk ((by rw [hg]; exact Nat.ne_of_gt (blk_lt (g := gb163) (o := .cells #[.int .i8 a0_0, .int .i8 a0_1, .int .i16 a0_2, .int .i16 a0_3, .int .i16 a0_4] 158 (0, 0)) (by (with_reducible repeat (first | refine blk_drewN ?_ _ | refine blk_drew ?_ | refine blk_alloc ?_ _)); exact BK163.out)) : gb165 ≠ gb163)); have n8_ := Aside0.mk ((by rw [hg]; exact Nat.ne_of_lt (blk_lt (g := gb164) (o := .cells #[.int .i8 0, .int .i8 0, .int .i16 0, .int .i16 0, .int .i16 0] 89 (0, 0)) (by (with_reducible repeat (first | refine blk_drewN ?_ _ | refine blk_drew ?_ | refine blk_alloc ?_ _)); exact BK164.out)) : gb164 ≠ gb165)); have n9_ := Aside0.mk ((by rw [hg]; exact Nat.ne_of_gt (blk_lt (g := gb164) (o := .cells #[.int .i8 0, .int .i8 0, .int .i16 0, .int .i16 0, .int .i16 0] 89 (0, 0)) (by (with_reducible repeat (first | refine blk_drewN ?_ _ | refine blk_drew ?_ | refine blk_alloc ?_ _)); exact BK164.out)) : gb165 ≠ gb164)); clear BK163; clear BK164; clear HB; have BK163 := n0_; have BK164 := n1_; have HB := n2_; have BK165 := n3_; have GW165 := n4_; have GE165 := n5_; have NB163_165 := n6_; have NB165_163 := n7_; have NB164_165 := n8_; have NB165_164 := n9_; clear n0_ n1_ n2_ n3_ n4_ n5_ n6_ n7_ n8_ n9_; clear hb hbox hg; have hnb6 := NB163_164.out; have hnc6 := NB164_163.out; have hnb7 := NB163_165.out; have hnc7 := NB165_163.out; have hcz8_0 : w5.cell? ⟨gb163, 0, none⟩ = some (.int .i8 a0_0) := (blk_cell BK163.out 0).trans rfl; have hcz8_1 : w5.cell? ⟨gb163, 1, none⟩ = some (.int .i8 a0_1) := (blk_cell BK163.out 1).trans rfl; have hcz8_2 : w5.cell? ⟨gb163, 2, none⟩ = some (.int .i16 a0_2) := (blk_cell BK163.out 2).trans rfl; have hcz8_3 : w5.cell? ⟨gb163, 3, none⟩ = some (.int .i16 a0_3) := (blk_cell BK163.out 3).trans rfl; have hcz8_4 : w5.cell? ⟨gb163, 4, none⟩ = some (.int .i16 a0_4) := (blk_cell BK163.out 4).trans rfl; have hfz8_0 := blk_frozen BK163.out 0; have hfz8_1 := blk_frozen BK163.out 1; have hfz8_2 := blk_frozen BK163.out 2; have hfz8_3 := blk_frozen BK163.out 3; have hfz8_4 := blk_frozen BK163.out 4; have hnb9 := NB165_164.out; have hnc9 := NB164_165.out; have hcz10_0 : w5.cell? ⟨gb165, 0, none⟩ = some (.int .i8 0) := (blk_cell BK165.out 0).trans rfl; have hcz10_1 : w5.cell? ⟨gb165, 1, none⟩ = some (.int .i8 0) := (blk_cell BK165.out 1).trans rfl; have hcz10_2 : w5.cell? ⟨gb165, 2, none⟩ = some (.int .i16 0) := (blk_cell BK165.out 2).trans rfl; have hcz10_3 : w5.cell? ⟨gb165, 3, none⟩ = some (.int .i16 0) := (blk_cell BK165.out 3).trans rfl; have hcz10_4 : w5.cell? ⟨gb165, 4, none⟩ = some (.int .i16 0) := (blk_cell BK165.out 4).trans rfl; have hfz10_0 := blk_frozen BK165.out 0; have hfz10_1 := blk_frozen BK165.out 1; have hfz10_2 := blk_frozen BK165.out 2; have hfz10_3 := blk_frozen BK165.out 3; have hfz10_4 := blk_frozen BK165.out 4) | ((with_reducible refine gate_callee (f := 146) rfl ?_); refine goesL_ (some 12) rfl rfl Try.func146 (by kernel_rfl) rfl #[.agg #[.int .i16 a0_2, .int .i16 a0_3, .int .i16 a0_4]] rfl (by (try simp only [List.map_toArray, List.map_cons, List.map_nil]); first | done | rfl | (simp only [List.length_drop, List.length_take]; rfl)) ?_; (with_reducible refine (laws_toInt16A3.calls k a0_2 a0_3 a0_4 t166 t167 t168 _ A2.out).mono ?_); rintro e w11 ⟨rfl, hb⟩; refine ⟨_, rfl, ?_⟩; have n0_ := Aside0.mk (blk_below (g := gb163) (o := .cells #[.int .i8 a0_0, .int .i8 a0_1, .int .i16 a0_2, .int .i16 a0_3, .int .i16 a0_4] 158 (0, 0)) (by (with_reducible repeat (first | refine blk_drewN ?_ _ | refine blk_drew ?_ | refine blk_alloc ?_ _)); refine blk_far ?_ NB163_165.out _; (with_reducible repeat (first | refine blk_drewN ?_ _ | refine blk_drew ?_ | refine blk_alloc ?_ _)); refine blk_far ?_ NB163_165.out _; (with_reducible repeat (first | refine blk_drewN ?_ _ | refine blk_drew ?_ | refine blk_alloc ?_ _)); exact BK163.out) hb); have n1_ := Aside0.mk (blk_below (g := gb164) (o := .cells #[.int .i8 0, .int .i8 0, .int .i16 0, .int .i16 0, .int .i16 0] 89 (0, 0)) (by (with_reducible repeat (first | refine blk_drewN ?_ _ | refine blk_drew ?_ | refine blk_alloc ?_ _)); refine blk_far ?_ NB164_165.out _; (with_reducible repeat (first | refine blk_drewN ?_ _ | refine blk_drew ?_ | refine blk_alloc ?_ _)); refine blk_far ?_ NB164_165.out _; (with_reducible repeat (first | refine blk_drewN ?_ _ | refine blk_drew ?_ | refine blk_alloc ?_ _)); exact BK164.out) hb); have n2_ := Aside0.mk (blk_below (g := gb165) (o := .cells #[.int .i8 a0_0, .int .i8 a0_1, .int .i16 0, .int .i16 0, .int .i16 0] 89 (0, 0)) (by (with_reducible repeat (first | refine blk_drewN ?_ _ | refine blk_drew ?_ | refine blk_alloc ?_ _)); refine blk_put (cs := #[.int .i8 a0_0, .int .i8 0, .int .i16 0, .int .i16 0, .int .i16 0]) ?_ 1 _ rfl; (with_reducible repeat (first | refine blk_drewN ?_ _ | refine blk_drew ?_ | refine blk_alloc ?_ _)); refine blk_put (cs := #[.int .i8 0, .int .i8 0, .int .i16 0, .int .i16 0, .int .i16 0]) ?_ 0 _ rfl; (with_reducible repeat (first | refine blk_drewN ?_ _ | refine blk_drew ?_ | refine blk_alloc ?_ _)); exact BK165.out) hb); have n3_ := Aside0.mk (below_step (by repeat (first | (with_reducible first | exact HB.out | apply below_alloc | apply pw_below_drewN | apply below_drew1 | refine below_set ?_ GE163.out | refine below_set ?_ GE164.out | refine below_set ?_ GE165.out) | exact HB.out)) hb); clear BK163; clear BK164; clear BK165; clear HB; have BK163 := n0_; have BK164 := n1_; have BK165 := n2_; have HB := n3_; clear n0_ n1_ n2_ n3_; (try clear hb); (try clear hb2); (try clear hk); (try clear hi); have hcz12_0 : w11.cell? ⟨gb165, 0, none⟩ = some (.int .i8 a0_0) := (blk_cell BK165.out 0).trans rfl; have hcz12_1 : w11.cell? ⟨gb165, 1, none⟩ = some (.int .i8 a0_1) := (blk_cell BK165.out 1).trans rfl; have hcz12_2 : w11.cell? ⟨gb165, 2, none⟩ = some (.int .i16 0) := (blk_cell BK165.out 2).trans rfl; have hcz12_3 : w11.cell? ⟨gb165, 3, none⟩ = some (.int .i16 0) := (blk_cell BK165.out 3).trans rfl; have hcz12_4 : w11.cell? ⟨gb165, 4, none⟩ = some (.int .i16 0) := (blk_cell BK165.out 4).trans rfl; have hfz12_0 := blk_frozen BK165.out 0; have hfz12_1 := blk_frozen BK165.out 1; have hfz12_2 := blk_frozen BK165.out 2; have hfz12_3 := blk_frozen BK165.out 3; have hfz12_4 := blk_frozen BK165.out 4; have hcz13_0 : w11.cell? ⟨gb164, 0, none⟩ = some (.int .i8 0) := (blk_cell BK164.out 0).trans rfl; have hcz13_1 : w11.cell? ⟨gb164, 1, none⟩ = some (.int .i8 0) := (blk_cell BK164.out 1).trans rfl; have hcz13_2 : w11.cell? ⟨gb164, 2, none⟩ = some (.int .i16 0) := (blk_cell BK164.out 2).trans rfl; have hcz13_3 : w11.cell? ⟨gb164, 3, none⟩ = some (.int .i16 0) := (blk_cell BK164.out 3).trans rfl; have hcz13_4 : w11.cell? ⟨gb164, 4, none⟩ = some (.int .i16 0) := (blk_cell BK164.out 4).trans rfl; have hfz13_0 := blk_frozen BK164.out 0; have hfz13_1 := blk_frozen BK164.out 1; have hfz13_2 := blk_frozen BK164.out 2; have hfz13_3 := blk_frozen BK164.out 3; have hfz13_4 := blk_frozen BK164.out 4))
 refine bodyPost_ret (results_cell_row rfl _ _ gb164 89 #[.int .i8 a0_0, .int .i8 a0_1, .int .i16 t166, .int .i16 t167, .int .i16 t168] (0, 0) _ rfl (by (with_reducible repeat (first | refine blk_drewN ?_ _ | refine blk_drew ?_ | refine blk_alloc ?_ _)); refine blk_put (cs := #[.int .i8 a0_0, .int .i8 a0_1, .int .i16 t166, .int .i16 t167, .int .i16 0]) ?_ 4 _ rfl; (with_reducible repeat (first | refine blk_drewN ?_ _ | refine blk_drew ?_ | refine blk_alloc ?_ _)); refine blk_put (cs := #[.int .i8 a0_0, .int .i8 a0_1, .int .i16 t166, .int .i16 0, .int .i16 0]) ?_ 3 _ rfl; (with_reducible repeat (first | refine blk_drewN ?_ _ | refine blk_drew ?_ | refine blk_alloc ?_ _)); refine blk_put (cs := #[.int .i8 a0_0, .int .i8 a0_1, .int .i16 0, .int .i16 0, .int .i16 0]) ?_ 2 _ rfl; (with_reducible repeat (first | refine blk_drewN ?_ _ | refine blk_drew ?_ | refine blk_alloc ?_ _)); refine blk_put (cs := #[.int .i8 a0_0, .int .i8 0, .int .i16 0, .int .i16 0, .int .i16 0]) ?_ 1 _ rfl; (with_reducible repeat (first | refine blk_drewN ?_ _ | refine blk_drew ?_ | refine blk_alloc ?_ _)); refine blk_put (cs := #[.int .i8 0, .int .i8 0, .int .i16 0, .int .i16 0, .int .i16 0]) ?_ 0 _ rfl; (with_reducible repeat (first | refine blk_drewN ?_ _ | refine blk_drew ?_ | refine blk_alloc ?_ _)); refine blk_far ?_ NB164_165.out _; (with_reducible repeat (first | refine blk_drewN ?_ _ | refine blk_drew ?_ | refine blk_alloc ?_ _)); refine blk_far ?_ NB164_165.out _; (with_reducible repeat (first | refine blk_drewN ?_ _ | refine blk_drew ?_ | refine blk_alloc ?_ _)); refine blk_far ?_ NB164_165.out _; (with_reducible repeat (first | refine blk_drewN ?_ _ | refine blk_drew ?_ | refine blk_alloc ?_ _)); exact BK164.out) Try.underlying89 rfl (by kernel_rfl)) rfl ?_
 exact ⟨by first | rfl | (simp [errW_none, errW_some] <;> rfl) | (simp [*, errW_none, errW_some] <;> rfl), by repeat (first | (with_reducible first | exact HB.out | apply below_alloc | apply pw_below_drewN | apply below_drew1 | refine below_set ?_ GE163.out | refine below_set ?_ GE164.out | refine below_set ?_ GE165.out) | exact HB.out)⟩
/-! ### laws_toForkS: function 58 -/
def laws_toForkS.l0 : Nat → List (S158) → List (S89) → Int → Option ((List (S89)))
 | 0, _, _, _ => none
 | k + 1, x0, x3, x4 => if x4 < (x0.length : Int) then (if 0 ≤ x4 then ((laws_toFork.f k ((rd_T158 x0 x4).f0) ((rd_T158 x0 x4).f1) ((rd_T158 x0 x4).f2.f0) ((rd_T158 x0 x4).f2.f1) ((rd_T158 x0 x4).f2.f2)).bind fun bt173 => (if x4 < (x3.length : Int) then (laws_toForkS.l0 k x0 (x3.set (x4 : Int).toNat (⟨bt173.1, bt173.2.1, (⟨bt173.2.2.1, bt173.2.2.2.1, bt173.2.2.2.2⟩ : S87)⟩ : S89)) (wrap64 (x4 + 1))) else (none))) else (none)) else (some x3)
def laws_toForkS.f (k : Nat) (l0 : List (S158)) : Option ((List (S89))) := if 0 ≤ (l0.length : Int) then (if ((l0.length : Int) : Int).toNat ≤ 35184372088832 then (laws_toForkS.l0 k l0 (List.replicate ((l0.length : Int) : Int).toNat z89) 0) else (none)) else (none)
theorem laws_toForkS.mono_l : ∀ k, (∀ y0 y1 y2, LeO (laws_toForkS.l0 k y0 y1 y2) (laws_toForkS.l0 (k + 1) y0 y1 y2))
 | 0 => fun _ _ _ r h => by simp [laws_toForkS.l0] at h
 | k + 1 => by
  have ih0 := laws_toForkS.mono_l k
  ·
   intro y0 y1 y2
   unfold laws_toForkS.l0
   repeat' first
   | (with_reducible exact ih0 _ _ _)
   | (with_reducible exact laws_toFork.mono _ _ _ _ _ _)
   | (with_reducible exact LeO.refl _)
   | (with_reducible exact LeO.none _)
   | (with_reducible refine LeO.ite ?_ ?_)
   | (with_reducible refine LeO.bind ?_ (fun _ => ?_))
   | exact ih0 _ _ _
   | exact LeO.none _
   | refine LeO.ite ?_ ?_
   | refine LeO.bind ?_ (fun _ => ?_)
theorem laws_toForkS.mono : ∀ a0 k, LeO (laws_toForkS.f k a0) (laws_toForkS.f (k + 1) a0) := by
 intro a0 k
 have ih0 := laws_toForkS.mono_l k
 unfold laws_toForkS.f
 repeat' first
   | (with_reducible exact ih0 _ _ _)
   | (with_reducible exact laws_toFork.mono _ _ _ _ _ _)
   | (with_reducible exact LeO.refl _)
   | (with_reducible exact LeO.none _)
   | (with_reducible refine LeO.ite ?_ ?_)
   | (with_reducible refine LeO.bind ?_ (fun _ => ?_))
   | exact ih0 _ _ _
   | exact LeO.none _
   | refine LeO.ite ?_ ?_
   | refine LeO.bind ?_ (fun _ => ?_)
set_option maxHeartbeats 8000000 in
set_option maxRecDepth 100000 in
theorem laws_toForkS.calls (k : Nat) (A0 : Option Addr) (c0 : Nat) (l0 : List (S158)) (r : List (S89)) (w : World) (hr0 : Kd.C k158 w A0 l0.length l0) (hc0 : l0.length ≤ c0) (h : laws_toForkS.f k l0 = some r) :
  Calls Try.prog 58 #[.slice A0 l0.length c0] w fun e w' => ∃ v0_ : Value, e = .returned (v0_) ∧ Kd.R k89 89 w' w.heap.size (fun _ => True) v0_ r ∧ Below w.heap.size w w' := by
 have hu158 := Try.underlying158
 have hu89 := Try.underlying89
 have HR0 := Aside0.mk hr0
 have HC0 := Aside0.mk hc0
 clear hr0 hc0
 have HB := Aside0.mk (Below.refl w.heap.size w)
 have H : (if 0 ≤ (l0.length : Int) then (if ((l0.length : Int) : Int).toNat ≤ 35184372088832 then (laws_toForkS.l0 k l0 (List.replicate ((l0.length : Int) : Int).toNat z89) 0) else (none)) else (none)) = some r := h
 clear h
 by_cases c2 : 0 ≤ (l0.length : Int)
 ·
  rw [if_pos c2] at H
  have c2b0 := eq_true c2
  have c2b1 : decide (0 ≤ (l0.length : Int)) = true := decide_eq_true c2
  clear c2
  by_cases c3 : ((l0.length : Int) : Int).toNat ≤ 35184372088832
  ·
   rw [if_pos c3] at H
   have c3b0 := eq_true c3
   have c3b1 : decide (((l0.length : Int) : Int).toNat ≤ 35184372088832) = true := decide_eq_true c3
   clear c3
   obtain ⟨y169, hy169⟩ : ∃ y_ : List (S89), y_ = (List.replicate ((l0.length : Int) : Int).toNat z89) := ⟨_, rfl⟩
   replace H : (laws_toForkS.l0 k l0 y169 0) = some r := by first | (rw [hy169]; with_reducible exact H) | (have H2_ := (Option.bind_some _ _).symm.trans H; rw [hy169]; with_reducible exact H2_) | (have H2_ := (Option.bind_some _ _).symm.trans H; with_reducible exact H2_) | with_reducible exact H | (rw [hy169]; exact H) | exact H
   have Ny169 := Aside0.mk hy169
   clear hy169
   have H' := Aside0.mk H
   clear H
   go_enter Try.func58, Try.ntmps58
   go_wp2_with (first | ((with_reducible refine gate_dst (N := 7) rfl ?_); refine Kd.R_make k89 _ 89 rfl (N := 7) rfl 32 _ _ rfl (l0.length : Int) rfl rfl Try.underlying32 (.agg #[(.int .i8 0), (.int .i8 0), (.int .i16 0), (.int .i16 0), (.int .i16 0)]) 8 info89 rfl (by decide) (by omega) z89 (ok := fun _ => True) (okp := fun _ => True) (k89_mkM _ _ _ z89 ) (fun _ hk => hk) trivial (of_decide_eq_true (by assumption)) (Nat.le_trans (Nat.mul_le_mul_right _ (of_decide_eq_true (by assumption) : (l0.length : Int).toNat ≤ 35184372088832)) (by omega)) (Below.refl _ _) (Nat.le_refl _) ?_; intro v170 w4 ho5 hb hg_ hnew_; clear hg_ hnew_; (first | rw [← Ny169.out] at ho5 | (simp only [Int.reduceToNat] at ho5; rw [← Ny169.out] at ho5)); have n0_ := Aside0.mk (Kd.R_lower ho5 (below_size (by repeat (first | (with_reducible first | exact HB.out | apply below_alloc | apply pw_below_drewN | apply below_drew1) | exact HB.out)))); have n1_ := Aside0.mk (below_step (by repeat (first | (with_reducible first | exact HB.out | apply below_alloc | apply pw_below_drewN | apply below_drew1) | exact HB.out)) hb); clear HB; have HO171 := n0_; have HB := n1_; clear n0_ n1_; clear hb ho5))
   go_loopg [4] k (fun kq v4 w' => ∃ (x3_1 : List (S89)) (x4_1 : Int), v4 = .int .i64 x4_1 ∧ Aside0 (laws_toForkS.l0 kq l0 x3_1 x4_1 = some r) ∧ Aside0 (kq ≤ k) ∧ Aside0 (Kd.R k89 89 w' w.heap.size (fun _ => True) v170 x3_1) ∧ Aside0 (Below w.heap.size w w'))
   case atStart => exact ⟨(y169), (0), (by first | rfl | (simp; done) | (simp [*]; done) | (simp [isE_]; done)), H', ⟨Nat.le_refl _⟩, ⟨by (with_reducible repeat (first | apply Kd.R_alloc | apply Kd.R_drewN | apply Kd.R_drew)); exact HO171.out⟩, ⟨by repeat (first | (with_reducible first | exact HB.out | apply below_alloc | apply pw_below_drewN | apply below_drew1) | exact HB.out)⟩⟩
   case round =>
    clear H'
    try clear c2
    try clear c2b0
    try clear c2b1
    try clear p2
    try clear c3
    try clear c3b0
    try clear c3b1
    try clear c5
    obtain ⟨x3_1, x4_1, rfl, HA, HK1, HO_3, HB⟩ := hrel
    cases gk with
    | zero => exact absurd HA.out (by simp [laws_toForkS.l0])
    | succ k1 =>
     have H := HA.out
     clear HA
     simp only [laws_toForkS.l0] at H
     by_cases c6 : x4_1 < (l0.length : Int)
     ·
      rw [if_pos c6] at H
      have c6b0 : decide (x4_1 < (l0.length : Int)) = true := decide_eq_true c6
      clear c6
      by_cases c7 : 0 ≤ x4_1
      ·
       rw [if_pos c7] at H
       have c7b0 : decide (0 ≤ x4_1) = true := decide_eq_true c7
       clear c7
       replace H := Option.bind_eq_some_iff.mp H
       obtain ⟨⟨t173, t174, t175, t176, t177⟩, A80, H⟩ := H
       replace H : (if x4_1 < (x3_1.length : Int) then (laws_toForkS.l0 k1 l0 (x3_1.set (x4_1 : Int).toNat (⟨t173, t174, (⟨t175, t176, t177⟩ : S87)⟩ : S89)) (wrap64 (x4_1 + 1))) else (none)) = some r := H
       have A8 := Aside0.mk A80
       clear A80
       by_cases c9 : x4_1 < (x3_1.length : Int)
       ·
        rw [if_pos c9] at H
        have c9b0 : decide (x4_1 < (x3_1.length : Int)) = true := decide_eq_true c9
        clear c9
        obtain ⟨y178, hy178⟩ : ∃ y_ : List (S89), y_ = (x3_1.set (x4_1 : Int).toNat (⟨t173, t174, (⟨t175, t176, t177⟩ : S87)⟩ : S89)) := ⟨_, rfl⟩
        replace H : (laws_toForkS.l0 k1 l0 y178 (wrap64 (x4_1 + 1))) = some r := by first | (rw [hy178]; with_reducible exact H) | (have H2_ := (Option.bind_some _ _).symm.trans H; rw [hy178]; with_reducible exact H2_) | (have H2_ := (Option.bind_some _ _).symm.trans H; with_reducible exact H2_) | with_reducible exact H | (rw [hy178]; exact H) | exact H
        have Ny178 := Aside0.mk hy178
        clear hy178
        have H' := Aside0.mk H
        clear H
        have p172 : 0 ≤ (x4_1 : Int) := of_decide_eq_true (by assumption)
        have q172 : x4_1 < (l0.length : Int) := of_decide_eq_true (by assumption)
        obtain ⟨ad172, e172, hx172_0, hx172_1, hx172_2, hx172_3, hx172_4⟩ := at_T158 HR0.out x4_1 p172 q172
        cases e172
        replace hx172_0 := (HB.out.cell (World.block_lt_of_cell? w _ hx172_0)).trans hx172_0
        replace hx172_1 := (HB.out.cell (World.block_lt_of_cell? w _ hx172_1)).trans hx172_1
        replace hx172_2 := (HB.out.cell (World.block_lt_of_cell? w _ hx172_2)).trans hx172_2
        replace hx172_3 := (HB.out.cell (World.block_lt_of_cell? w _ hx172_3)).trans hx172_3
        replace hx172_4 := (HB.out.cell (World.block_lt_of_cell? w _ hx172_4)).trans hx172_4
        replace p172 := eq_true p172
        replace q172 := eq_true q172
        go_wp2_with (first | ((with_reducible refine gate_callee (f := 111) rfl ?_); refine goesL_ (some 20) rfl rfl Try.func111 (by kernel_rfl) rfl #[.agg #[.int .i8 ((rd_T158 l0 x4_1).f0), .int .i8 ((rd_T158 l0 x4_1).f1), .int .i16 ((rd_T158 l0 x4_1).f2.f0), .int .i16 ((rd_T158 l0 x4_1).f2.f1), .int .i16 ((rd_T158 l0 x4_1).f2.f2)]] rfl (by (try simp only [List.map_toArray, List.map_cons, List.map_nil]); first | done | rfl | (simp only [List.length_drop, List.length_take]; rfl)) ?_; (with_reducible refine (laws_toFork.calls k1 ((rd_T158 l0 x4_1).f0) ((rd_T158 l0 x4_1).f1) ((rd_T158 l0 x4_1).f2.f0) ((rd_T158 l0 x4_1).f2.f1) ((rd_T158 l0 x4_1).f2.f2) t173 t174 t175 t176 t177 _ A8.out).mono ?_); rintro e w11 ⟨rfl, hb⟩; refine ⟨_, rfl, ?_⟩; have n0_ := Aside0.mk (Kd.R_below (by (with_reducible repeat (first | apply Kd.R_alloc | apply Kd.R_drewN | apply Kd.R_drew)); exact HO_3.out) hb); have n1_ := Aside0.mk (below_step (by repeat (first | (with_reducible first | exact HB.out | apply below_alloc | apply pw_below_drewN | apply below_drew1) | exact HB.out)) hb); clear HO_3; clear HB; have HO_3 := n0_; have HB := n1_; clear n0_ n1_; (try clear hb); (try clear hb2); (try clear hk); (try clear hi); have p10 : 0 ≤ (x4_1 : Int) := of_decide_eq_true (by assumption); have q10 : (x4_1 : Int) < ((x3_1.length : Int) : Int) := of_decide_eq_true (by assumption); obtain ⟨go10, co10, eo10, gb10, gl10, cl10, HG10⟩ := Kd.R_form HO_3.out (by omega); (first | cases eo10 | (injection eo10 with ea_ en_ ec_; (first | subst ea_ | (injection ea_ with ea_; subst ea_)); subst ec_; clear en_)); have GB10 := Aside0.mk gb10; have GG10 := Aside0.mk HG10; clear gb10 gl10 HG10; obtain ⟨ce10, hcl10, hM10, hcc10, hfr10⟩ := Kd.R_elem HO_3.out z89 (x4_1 : Int) p10 q10; obtain rfl := k89_openM hM10; have hx10_0 : w11.cell? ⟨go10, (x4_1 : Int).toNat * 5, none⟩ = some (.int .i8 ((rd_T89 x3_1 x4_1).f0)) := hcc10 0 _ rfl; have hx10_1 : w11.cell? ⟨go10, (x4_1 : Int).toNat * 5 + 1, none⟩ = some (.int .i8 ((rd_T89 x3_1 x4_1).f1)) := hcc10 1 _ rfl; have hx10_2 : w11.cell? ⟨go10, (x4_1 : Int).toNat * 5 + 2, none⟩ = some (.int .i16 ((rd_T89 x3_1 x4_1).f2.f0)) := hcc10 2 _ rfl; have hx10_3 : w11.cell? ⟨go10, (x4_1 : Int).toNat * 5 + 3, none⟩ = some (.int .i16 ((rd_T89 x3_1 x4_1).f2.f1)) := hcc10 3 _ rfl; have hx10_4 : w11.cell? ⟨go10, (x4_1 : Int).toNat * 5 + 4, none⟩ = some (.int .i16 ((rd_T89 x3_1 x4_1).f2.f2)) := hcc10 4 _ rfl; have hf10_0 : w11.frozen? ⟨go10, (x4_1 : Int).toNat * 5, none⟩ = false := hfr10 0; have hf10_1 : w11.frozen? ⟨go10, (x4_1 : Int).toNat * 5 + 1, none⟩ = false := hfr10 1; have hf10_2 : w11.frozen? ⟨go10, (x4_1 : Int).toNat * 5 + 2, none⟩ = false := hfr10 2; have hf10_3 : w11.frozen? ⟨go10, (x4_1 : Int).toNat * 5 + 3, none⟩ = false := hfr10 3; have hf10_4 : w11.frozen? ⟨go10, (x4_1 : Int).toNat * 5 + 4, none⟩ = false := hfr10 4; clear hcl10 hcc10 hfr10 hM10; replace p10 := eq_true p10; replace q10 := eq_true q10; have HX12 := Aside0.mk (show Kd.R k89 89 w11 w.heap.size (fun _ => True) (.slice (some ⟨go10, 0, none⟩) x3_1.length co10) x3_1 from (by (with_reducible repeat (first | apply Kd.R_alloc | apply Kd.R_drewN | apply Kd.R_drew)); exact HO_3.out)); obtain ⟨ce12, hcl12, hM12, hcc12, hfr12⟩ := Kd.R_elem HX12.out z89 (x4_1 : Int) (of_decide_eq_true (by assumption)) (by have h_ : (x4_1 : Int) < ((x3_1.length : Int) : Int) := of_decide_eq_true (by assumption); first | exact h_ | (have e_ := (Kd.R_reads' HO_3.out).1; omega) | simpa using h_); obtain rfl := k89_openM hM12; have HP12 := Kd.R_seg HX12.out (x4_1 : Int) (of_decide_eq_true (by assumption)) (by have h_ : (x4_1 : Int) < ((x3_1.length : Int) : Int) := of_decide_eq_true (by assumption); first | exact h_ | (have e_ := (Kd.R_reads' HO_3.out).1; omega) | simpa using h_) (seg := [.int .i8 t173, .int .i8 t174, .int .i16 t175, .int .i16 t176, .int .i16 t177]) (j := 0) hcl12 hcc12 (show 5 ≤ 5 from by decide) (x' := (⟨t173, t174, (⟨t175, t176, t177⟩ : S87)⟩ : S89)) (k89_mkM _ _ _ (⟨t173, t174, (⟨t175, t176, t177⟩ : S87)⟩ : S89) ) (fun _ hk => hk); have hx12_0 := hcc12 0 _ rfl; (try simp only [show (k89).sz = 5 from rfl, Nat.mul_one, Nat.add_zero] at hx12_0); have hf12_0 := hfr12 0; (try simp only [show (k89).sz = 5 from rfl, Nat.mul_one, Nat.add_zero] at hf12_0); have hx12_1 := hcc12 1 _ rfl; (try simp only [show (k89).sz = 5 from rfl, Nat.mul_one, Nat.add_zero] at hx12_1); have hf12_1 := hfr12 1; (try simp only [show (k89).sz = 5 from rfl, Nat.mul_one, Nat.add_zero] at hf12_1); have hx12_2 := hcc12 2 _ rfl; (try simp only [show (k89).sz = 5 from rfl, Nat.mul_one, Nat.add_zero] at hx12_2); have hf12_2 := hfr12 2; (try simp only [show (k89).sz = 5 from rfl, Nat.mul_one, Nat.add_zero] at hf12_2); have hx12_3 := hcc12 3 _ rfl; (try simp only [show (k89).sz = 5 from rfl, Nat.mul_one, Nat.add_zero] at hx12_3); have hf12_3 := hfr12 3; (try simp only [show (k89).sz = 5 from rfl, Nat.mul_one, Nat.add_zero] at hf12_3); have hx12_4 := hcc12 4 _ rfl; (try simp only [show (k89).sz = 5 from rfl, Nat.mul_one, Nat.add_zero] at hx12_4); have hf12_4 := hfr12 4; (try simp only [show (k89).sz = 5 from rfl, Nat.mul_one, Nat.add_zero] at hf12_4); clear hcl12 hcc12 hfr12 hM12) | ((with_reducible refine gate_store (t := 89) (p := 21) rfl ?_); refine store_event (t := 89) (p := 21) (v := ?vo_w13) (w1 := (((((w11.setCell ⟨go10, (x4_1 : Int).toNat * 5, none⟩ (.int .i8 t173)).setCell ⟨go10, (x4_1 : Int).toNat * 5 + 1, none⟩ (.int .i8 t174)).setCell ⟨go10, (x4_1 : Int).toNat * 5 + 2, none⟩ (.int .i16 t175)).setCell ⟨go10, (x4_1 : Int).toNat * 5 + 3, none⟩ (.int .i16 t176)).setCell ⟨go10, (x4_1 : Int).toNat * 5 + 4, none⟩ (.int .i16 t177))) ?hg ?ho ?hn ?hr ?_; (case ho => rfl); (case hg => rfl); (case hn => rfl); (case hr => first | (go_simp; done) | (go_simp; rfl)); intro w13 hw; have hg : w11.grownBy w13 (some go10) := (by rw [hw]; exact HP12.2); have hp_ : Kd.R k89 89 w13 w.heap.size (fun _ => True) (.slice (some ⟨go10, 0, none⟩) x3_1.length co10) y178 := (by rw [hw, Ny178.out]; exact HP12.1); clear HP12; have n0_ := Aside0.mk (hp_); have n1_ := Aside0.mk ((by rw [hw]; exact below_set (below_set (below_set (below_set (below_set (HB.out) GB10.out) GB10.out) GB10.out) GB10.out) GB10.out : Below w.heap.size w w13)); clear HO_3; clear HB; have HO_3 := n0_; have HB := n1_; clear n0_ n1_; clear hg hw hp_))
        go_roundg k1
        case measure => have := HK1.out; omega
        case rel => exact ⟨(y178), (wrap64 (x4_1 + 1)), (by first | rfl | (simp; done) | (simp [*]; done) | (simp [isE_]; done)), H', ⟨by have := HK1.out; omega⟩, ⟨by (with_reducible repeat (first | apply Kd.R_alloc | apply Kd.R_drewN | apply Kd.R_drew)); exact HO_3.out⟩, ⟨by repeat (first | (with_reducible first | exact HB.out | apply below_alloc | apply pw_below_drewN | apply below_drew1) | exact HB.out)⟩⟩
       ·
        rw [if_neg c9] at H
        exact absurd H (by simp)
      ·
       rw [if_neg c7] at H
       exact absurd H (by simp)
     ·
      rw [if_neg c6] at H
      have c6b0 : decide (x4_1 < (l0.length : Int)) = false := decide_eq_false c6
      clear c6
      obtain rfl := Option.some.inj H
      go_wp2
      go_ret
      exact ⟨_, by first | rfl | (simp [errW_none, errW_some] <;> rfl) | (simp [*, errW_none, errW_some] <;> rfl), by (with_reducible repeat (first | apply Kd.R_alloc | apply Kd.R_drewN | apply Kd.R_drew)); exact HO_3.out, by repeat (first | (with_reducible first | exact HB.out | apply below_alloc | apply pw_below_drewN | apply below_drew1) | exact HB.out)⟩
  ·
   rw [if_neg c3] at H
   exact absurd H (by simp)
 ·
  rw [if_neg c2] at H
  exact absurd H (by simp)
end Go.Proofs.Ytpfnohdnaocpdaa.PT

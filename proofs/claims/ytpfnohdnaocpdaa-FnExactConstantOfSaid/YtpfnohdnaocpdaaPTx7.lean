-- Written by a program (xprint.py) out of the translation's own print; Lean checks it.
import Derived.Test.YtpfnohdnaocpdaaPTx0
import Derived.Test.YtpfnohdnaocpdaaPTx3
namespace Go.Proofs.Ytpfnohdnaocpdaa.PT
open Go.RowKit Go.Proofs.YtpfnohdnaocpdaaW.PrintWords Go.Proofs.YtpfnohdnaocpdaaW.PrintLast Go.Proofs.YtpfnohdnaocpdaaW.PrintMore Go.Proofs.YtpfnohdnaocpdaaRP
attribute [local go_sem] Go.Proofs.YtpfnohdnaocpdaaRP.tmod_len   -- for this text's walks alone
set_option linter.unusedVariables false
set_option linter.unusedSimpArgs false
/-! ### spec_l03Digits: function 135 -/
def spec_l03Digits.l0 : Nat → List Int → Int → Option (Bool)
 | 0, _, _ => none
 | k + 1, x0, x3 => if x3 < (x0.length : Int) then (if 0 ≤ x3 then (if (rd x0 x3) < (-1) then (some false) else (if (rd x0 x3) > 1 then (some false) else (spec_l03Digits.l0 k x0 (wrap64 (x3 + 1))))) else (none)) else (some true)
def spec_l03Digits.f (k : Nat) (l0 : List Int) : Option (Bool) := spec_l03Digits.l0 k l0 0
theorem spec_l03Digits.mono_l : ∀ k, (∀ y0 y1, LeO (spec_l03Digits.l0 k y0 y1) (spec_l03Digits.l0 (k + 1) y0 y1))
 | 0 => fun _ _ r h => by simp [spec_l03Digits.l0] at h
 | k + 1 => by
  have ih0 := spec_l03Digits.mono_l k
  ·
   intro y0 y1
   unfold spec_l03Digits.l0
   repeat' first
   | (with_reducible exact ih0 _ _)
   | (with_reducible exact LeO.refl _)
   | (with_reducible exact LeO.none _)
   | (with_reducible refine LeO.ite ?_ ?_)
   | (with_reducible refine LeO.bind ?_ (fun _ => ?_))
   | refine LeO.bind ?_ (fun _ => ?_)
theorem spec_l03Digits.mono : ∀ a0 k, LeO (spec_l03Digits.f k a0) (spec_l03Digits.f (k + 1) a0) := by
 intro a0 k
 have ih0 := spec_l03Digits.mono_l k
 unfold spec_l03Digits.f
 repeat' first
   | (with_reducible exact ih0 _ _)
   | (with_reducible exact LeO.refl _)
   | (with_reducible exact LeO.none _)
   | (with_reducible refine LeO.ite ?_ ?_)
   | (with_reducible refine LeO.bind ?_ (fun _ => ?_))
   | refine LeO.bind ?_ (fun _ => ?_)
set_option maxHeartbeats 8000000 in
set_option maxRecDepth 100000 in
theorem spec_l03Digits.calls (k : Nat) (A0 : Option Addr) (c0 : Nat) (l0 : List Int) (r : Bool) (w : World) (hr0 : Kd.C (Kd.int .i8) w A0 l0.length l0) (hc0 : l0.length ≤ c0) (h : spec_l03Digits.f k l0 = some r) :
  Calls Try.prog 135 #[.slice A0 l0.length c0] w fun e w' => e = .returned (.bool r) ∧ Drawn0 w w' := by
 have HR0 := Aside0.mk hr0
 have HC0 := Aside0.mk hc0
 clear hr0 hc0
 have H : (spec_l03Digits.l0 k l0 0) = some r := h
 clear h
 have H' := Aside0.mk H
 clear H
 go_enter Try.func135, Try.ntmps135
 go_wp2
 go_loopg [3] k (fun kq v3 w' => ∃ (x3_1 : Int), v3 = .int .i64 x3_1 ∧ Aside0 (spec_l03Digits.l0 kq l0 x3_1 = some r) ∧ Aside0 (kq ≤ k) ∧ Drawn0 w w')
 case atStart => exact ⟨(0), (by first | rfl | (simp; done) | (simp [*]; done) | (simp [isE_]; done)), H', ⟨Nat.le_refl _⟩, by repeat (first | exact Drawn0.refl _ | apply Drawn0.step)⟩
 case round =>
  clear H'
  try clear c1
  obtain ⟨x3_1, rfl, HA, HK1, ⟨m1, rfl⟩⟩ := hrel
  cases gk with
  | zero => exact absurd HA.out (by simp [spec_l03Digits.l0])
  | succ k1 =>
   have H := HA.out
   clear HA
   simp only [spec_l03Digits.l0] at H
   by_cases c2 : x3_1 < (l0.length : Int)
   ·
    rw [if_pos c2] at H
    have c2b0 : decide (x3_1 < (l0.length : Int)) = true := decide_eq_true c2
    clear c2
    by_cases c3 : 0 ≤ x3_1
    ·
     rw [if_pos c3] at H
     have c3b0 : decide (0 ≤ x3_1) = true := decide_eq_true c3
     clear c3
     by_cases c4 : (rd l0 x3_1) < (-1)
     ·
      rw [if_pos c4] at H
      have c4b0 : decide ((rd l0 x3_1) < (-1)) = true := decide_eq_true c4
      clear c4
      obtain rfl := Option.some.inj H
      have p248 : 0 ≤ (x3_1 : Int) := of_decide_eq_true (by assumption)
      have q248 : x3_1 < (l0.length : Int) := of_decide_eq_true (by assumption)
      obtain ⟨ad248, e248, hx248_0⟩ := Kd.at_int HR0.out x3_1 p248 q248
      cases e248
      replace p248 := eq_true p248
      replace q248 := eq_true q248
      go_wp2
      go_ret
      exact ⟨by first | rfl | (simp; done) | (simp [*]; done) | (simp [isE_]; done), by repeat (first | exact Drawn0.refl _ | apply Drawn0.step)⟩
     ·
      rw [if_neg c4] at H
      have c4b0 : decide ((rd l0 x3_1) < (-1)) = false := decide_eq_false c4
      clear c4
      by_cases c5 : (rd l0 x3_1) > 1
      ·
       rw [if_pos c5] at H
       have c5b0 : decide (1 < (rd l0 x3_1)) = true := decide_eq_true c5
       clear c5
       obtain rfl := Option.some.inj H
       have p248 : 0 ≤ (x3_1 : Int) := of_decide_eq_true (by assumption)
       have q248 : x3_1 < (l0.length : Int) := of_decide_eq_true (by assumption)
       obtain ⟨ad248, e248, hx248_0⟩ := Kd.at_int HR0.out x3_1 p248 q248
       cases e248
       replace p248 := eq_true p248
       replace q248 := eq_true q248
       have p249 : 0 ≤ (x3_1 : Int) := of_decide_eq_true (by assumption)
       have q249 : x3_1 < (l0.length : Int) := of_decide_eq_true (by assumption)
       obtain ⟨ad249, e249, hx249_0⟩ := Kd.at_int HR0.out x3_1 p249 q249
       obtain rfl : ad248 = ad249 := (by injection e249)
       replace p249 := eq_true p249
       replace q249 := eq_true q249
       go_wp2
       go_ret
       exact ⟨by first | rfl | (simp; done) | (simp [*]; done) | (simp [isE_]; done), by repeat (first | exact Drawn0.refl _ | apply Drawn0.step)⟩
      ·
       rw [if_neg c5] at H
       have c5b0 : decide (1 < (rd l0 x3_1)) = false := decide_eq_false c5
       clear c5
       have H' := Aside0.mk H
       clear H
       have p248 : 0 ≤ (x3_1 : Int) := of_decide_eq_true (by assumption)
       have q248 : x3_1 < (l0.length : Int) := of_decide_eq_true (by assumption)
       obtain ⟨ad248, e248, hx248_0⟩ := Kd.at_int HR0.out x3_1 p248 q248
       cases e248
       replace p248 := eq_true p248
       replace q248 := eq_true q248
       have p249 : 0 ≤ (x3_1 : Int) := of_decide_eq_true (by assumption)
       have q249 : x3_1 < (l0.length : Int) := of_decide_eq_true (by assumption)
       obtain ⟨ad249, e249, hx249_0⟩ := Kd.at_int HR0.out x3_1 p249 q249
       obtain rfl : ad248 = ad249 := (by injection e249)
       replace p249 := eq_true p249
       replace q249 := eq_true q249
       go_wp2
       go_roundg k1
       case measure => have := HK1.out; omega
       case rel => exact ⟨(wrap64 (x3_1 + 1)), (by first | rfl | (simp; done) | (simp [*]; done) | (simp [isE_]; done)), H', ⟨by have := HK1.out; omega⟩, by repeat (first | exact Drawn0.refl _ | apply Drawn0.step)⟩
    ·
     rw [if_neg c3] at H
     exact absurd H (by simp)
   ·
    rw [if_neg c2] at H
    have c2b0 : decide (x3_1 < (l0.length : Int)) = false := decide_eq_false c2
    clear c2
    obtain rfl := Option.some.inj H
    go_wp2
    go_ret
    exact ⟨by first | rfl | (simp; done) | (simp [*]; done) | (simp [isE_]; done), by repeat (first | exact Drawn0.refl _ | apply Drawn0.step)⟩
/-! ### spec_l03Ok: function 98 -/
def spec_l03Ok.f (k : Nat) (l0 : List (S36)) : Option (Bool) := if 0 < (l0.length : Int) then (if (((rd_T36 l0 0).f0).length : Int) ≤ 16 then ((spec_l00In.f (((rd_T36 l0 0).f1).length : Int) 1 14).bind fun t251 => (if t251 = true then ((spec_l03Digits.f k ((rd_T36 l0 0).f0)).bind fun t252 => (if t252 = true then ((spec_l03Digits.f k ((rd_T36 l0 0).f1)).bind fun t253 => (some t253)) else (some false))) else (some false))) else (some false)) else (none)
theorem spec_l03Ok.mono : ∀ a0 k, LeO (spec_l03Ok.f k a0) (spec_l03Ok.f (k + 1) a0) := by
 intro a0 k
 unfold spec_l03Ok.f
 repeat' first
   | (with_reducible exact spec_l03Digits.mono _ _)
   | (with_reducible exact LeO.refl _)
   | (with_reducible exact LeO.none _)
   | (with_reducible refine LeO.ite ?_ ?_)
   | (with_reducible refine LeO.bind ?_ (fun _ => ?_))
   | refine LeO.bind ?_ (fun _ => ?_)
set_option maxHeartbeats 8000000 in
set_option maxRecDepth 100000 in
theorem spec_l03Ok.calls (k : Nat) (A0 : Option Addr) (c0 : Nat) (l0 : List (S36)) (r : Bool) (w : World) (hr0 : Kd.C k36 w A0 l0.length l0) (hc0 : l0.length ≤ c0) (h : spec_l03Ok.f k l0 = some r) :
  Calls Try.prog 98 #[.pointer A0] w fun e w' => e = .returned (.bool r) ∧ Drawn0 w w' := by
 have HR0 := Aside0.mk hr0
 have HC0 := Aside0.mk hc0
 clear hr0 hc0
 have H : (if 0 < (l0.length : Int) then (if (((rd_T36 l0 0).f0).length : Int) ≤ 16 then ((spec_l00In.f (((rd_T36 l0 0).f1).length : Int) 1 14).bind fun t251 => (if t251 = true then ((spec_l03Digits.f k ((rd_T36 l0 0).f0)).bind fun t252 => (if t252 = true then ((spec_l03Digits.f k ((rd_T36 l0 0).f1)).bind fun t253 => (some t253)) else (some false))) else (some false))) else (some false)) else (none)) = some r := h
 clear h
 by_cases c2 : 0 < (l0.length : Int)
 ·
  rw [if_pos c2] at H
  have c2b0 : decide (0 < (l0.length : Int)) = true := decide_eq_true c2
  have c2b1 : decide (0 < l0.length) = true := decide_eq_true (by omega)
  clear c2
  by_cases c3 : (((rd_T36 l0 0).f0).length : Int) ≤ 16
  ·
   rw [if_pos c3] at H
   have c3b0 : decide ((((rd_T36 l0 0).f0).length : Int) ≤ 16) = true := decide_eq_true c3
   have c3b1 : decide (((rd_T36 l0 0).f0).length ≤ 16) = true := decide_eq_true (by omega)
   clear c3
   replace H := Option.bind_eq_some_iff.mp H
   obtain ⟨t251, A40, H⟩ := H
   replace H : (if t251 = true then ((spec_l03Digits.f k ((rd_T36 l0 0).f0)).bind fun t252 => (if t252 = true then ((spec_l03Digits.f k ((rd_T36 l0 0).f1)).bind fun t253 => (some t253)) else (some false))) else (some false)) = some r := H
   have A4 := Aside0.mk A40
   clear A40
   by_cases c5 : t251 = true
   ·
    subst c5
    have H1 : ((spec_l03Digits.f k ((rd_T36 l0 0).f0)).bind fun t252 => (if t252 = true then ((spec_l03Digits.f k ((rd_T36 l0 0).f1)).bind fun t253 => (some t253)) else (some false))) = some r := by first | (rw [if_pos rfl] at H; exact H) | rfl
    clear H
    have H := H1
    clear H1
    replace H := Option.bind_eq_some_iff.mp H
    obtain ⟨t252, A60, H⟩ := H
    replace H : (if t252 = true then ((spec_l03Digits.f k ((rd_T36 l0 0).f1)).bind fun t253 => (some t253)) else (some false)) = some r := H
    have A6 := Aside0.mk A60
    clear A60
    by_cases c7 : t252 = true
    ·
     subst c7
     have H1 : ((spec_l03Digits.f k ((rd_T36 l0 0).f1)).bind fun t253 => (some t253)) = some r := by first | (rw [if_pos rfl] at H; exact H) | rfl
     clear H
     have H := H1
     clear H1
     replace H := Option.bind_eq_some_iff.mp H
     obtain ⟨t253, A80, H⟩ := H
     replace H : (some t253) = some r := H
     have A8 := Aside0.mk A80
     clear A80
     obtain rfl := Option.some.inj H
     have q250 : 0 < (l0.length : Int) := of_decide_eq_true (by assumption)
     obtain ⟨ad250, A250_0, c250_0, A250_1, c250_1, e250, hx250_0, hx250_1, hl250_0, hi250_0, hl250_1, hi250_1⟩ := rp_T36 HR0.out q250
     cases e250
     have HR250_0 := Aside0.mk hi250_0
     have HC250_0 := Aside0.mk hl250_0
     clear hi250_0 hl250_0
     have HR250_1 := Aside0.mk hi250_1
     have HC250_1 := Aside0.mk hl250_1
     clear hi250_1 hl250_1
     go_enter Try.func98, Try.ntmps98
     go_wp2_with (first | (go_at_call 109; (with_reducible refine (spec_l00In.calls (((rd_T36 l0 0).f1).length : Int) 1 14 true _ A4.out).mono ?_); rintro e w' ⟨rfl, ⟨nd, rfl⟩⟩) | (go_at_call 135; (with_reducible refine (spec_l03Digits.calls k _ _ ((rd_T36 l0 0).f0) true _ ?side1 ?side2 A6.out).mono ?_); (case side1 => repeat (first | exact HR250_0.out | (with_reducible refine Kd.C_alloc ?_ _) | (with_reducible refine Kd.C_drewN ?_ _) | (with_reducible refine Kd.C_drew ?_))); (case side2 => exact HC250_0.out); rintro e w' ⟨rfl, ⟨nd, rfl⟩⟩) | (go_at_call 135; (with_reducible refine (spec_l03Digits.calls k _ _ ((rd_T36 l0 0).f1) t253 _ ?side1 ?side2 A8.out).mono ?_); (case side1 => repeat (first | exact HR250_1.out | (with_reducible refine Kd.C_alloc ?_ _) | (with_reducible refine Kd.C_drewN ?_ _) | (with_reducible refine Kd.C_drew ?_))); (case side2 => exact HC250_1.out); rintro e w' ⟨rfl, ⟨nd, rfl⟩⟩))
     go_ret
     exact ⟨by first | rfl | (simp; done) | (simp [*]; done) | (simp [isE_]; done), by repeat (first | exact Drawn0.refl _ | apply Drawn0.step)⟩
    ·
     replace c7 := Bool.eq_false_iff.mpr c7
     subst c7
     have H1 : (some false) = some r := by first | (rw [if_neg (show ¬ (false = true) by decide)] at H; exact H) | rfl
     clear H
     have H := H1
     clear H1
     obtain rfl := Option.some.inj H
     have q250 : 0 < (l0.length : Int) := of_decide_eq_true (by assumption)
     obtain ⟨ad250, A250_0, c250_0, A250_1, c250_1, e250, hx250_0, hx250_1, hl250_0, hi250_0, hl250_1, hi250_1⟩ := rp_T36 HR0.out q250
     cases e250
     have HR250_0 := Aside0.mk hi250_0
     have HC250_0 := Aside0.mk hl250_0
     clear hi250_0 hl250_0
     have HR250_1 := Aside0.mk hi250_1
     have HC250_1 := Aside0.mk hl250_1
     clear hi250_1 hl250_1
     go_enter Try.func98, Try.ntmps98
     go_wp2_with (first | (go_at_call 109; (with_reducible refine (spec_l00In.calls (((rd_T36 l0 0).f1).length : Int) 1 14 true _ A4.out).mono ?_); rintro e w' ⟨rfl, ⟨nd, rfl⟩⟩) | (go_at_call 135; (with_reducible refine (spec_l03Digits.calls k _ _ ((rd_T36 l0 0).f0) false _ ?side1 ?side2 A6.out).mono ?_); (case side1 => repeat (first | exact HR250_0.out | (with_reducible refine Kd.C_alloc ?_ _) | (with_reducible refine Kd.C_drewN ?_ _) | (with_reducible refine Kd.C_drew ?_))); (case side2 => exact HC250_0.out); rintro e w' ⟨rfl, ⟨nd, rfl⟩⟩))
     go_ret
     exact ⟨by first | rfl | (simp; done) | (simp [*]; done) | (simp [isE_]; done), by repeat (first | exact Drawn0.refl _ | apply Drawn0.step)⟩
   ·
    replace c5 := Bool.eq_false_iff.mpr c5
    subst c5
    have H1 : (some false) = some r := by first | (rw [if_neg (show ¬ (false = true) by decide)] at H; exact H) | rfl
    clear H
    have H := H1
    clear H1
    obtain rfl := Option.some.inj H
    have q250 : 0 < (l0.length : Int) := of_decide_eq_true (by assumption)
    obtain ⟨ad250, A250_0, c250_0, A250_1, c250_1, e250, hx250_0, hx250_1, hl250_0, hi250_0, hl250_1, hi250_1⟩ := rp_T36 HR0.out q250
    cases e250
    have HR250_0 := Aside0.mk hi250_0
    have HC250_0 := Aside0.mk hl250_0
    clear hi250_0 hl250_0
    have HR250_1 := Aside0.mk hi250_1
    have HC250_1 := Aside0.mk hl250_1
    clear hi250_1 hl250_1
    go_enter Try.func98, Try.ntmps98
    go_wp2_with (first | (go_at_call 109; (with_reducible refine (spec_l00In.calls (((rd_T36 l0 0).f1).length : Int) 1 14 false _ A4.out).mono ?_); rintro e w' ⟨rfl, ⟨nd, rfl⟩⟩))
    go_ret
    exact ⟨by first | rfl | (simp; done) | (simp [*]; done) | (simp [isE_]; done), by repeat (first | exact Drawn0.refl _ | apply Drawn0.step)⟩
  ·
   rw [if_neg c3] at H
   have c3b0 : decide ((((rd_T36 l0 0).f0).length : Int) ≤ 16) = false := decide_eq_false c3
   have c3b1 : decide (((rd_T36 l0 0).f0).length ≤ 16) = false := decide_eq_false (by omega)
   clear c3
   obtain rfl := Option.some.inj H
   have q250 : 0 < (l0.length : Int) := of_decide_eq_true (by assumption)
   obtain ⟨ad250, A250_0, c250_0, A250_1, c250_1, e250, hx250_0, hx250_1, hl250_0, hi250_0, hl250_1, hi250_1⟩ := rp_T36 HR0.out q250
   cases e250
   have HR250_0 := Aside0.mk hi250_0
   have HC250_0 := Aside0.mk hl250_0
   clear hi250_0 hl250_0
   have HR250_1 := Aside0.mk hi250_1
   have HC250_1 := Aside0.mk hl250_1
   clear hi250_1 hl250_1
   go_enter Try.func98, Try.ntmps98
   go_wp2
   go_ret
   exact ⟨by first | rfl | (simp; done) | (simp [*]; done) | (simp [isE_]; done), by repeat (first | exact Drawn0.refl _ | apply Drawn0.step)⟩
 ·
  rw [if_neg c2] at H
  exact absurd H (by simp)
end Go.Proofs.Ytpfnohdnaocpdaa.PT

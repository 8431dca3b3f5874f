import Derived.Test.YtenhgmddpkiliaaPBx0
import Derived.Test.YtenhgmddpkiliaaPBx1
namespace Go.Proofs.Ytenhgmddpkiliaa.PB
open Go.RowKit Go.Proofs.YtenhgmddpkiliaaW.PrintWords Go.Proofs.YtenhgmddpkiliaaW.PrintLast Go.Proofs.YtenhgmddpkiliaaW.PrintMore Go.Proofs.YtenhgmddpkiliaaRP
attribute [local go_sem] max2_int min2_int max_two min_two max_three min_three max_four min_four Go.Proofs.YtenhgmddpkiliaaRP.max_eight Go.Proofs.YtenhgmddpkiliaaRP.tmod_len   -- for this text's walks alone
set_option linter.unusedVariables false
set_option linter.unusedSimpArgs false
attribute [local go_sem high] eqA116
/-! ### spec_l01Ok: function 122 -/
def spec_l01Ok.f (l0 : List (S122)) : Option (Bool) := if 0 < (l0.length : Int) then (if ((rd_T122 l0 0).f0 = true) then (some (!(((rd_T122 l0 0).f1.f0) == 0) || (!(((rd_T122 l0 0).f1.f1) == 0) || (!(((rd_T122 l0 0).f1.f2) == 0) || (!(((rd_T122 l0 0).f1.f3) == 0) || (!(((rd_T122 l0 0).f1.f4) == 0) || (!(((rd_T122 l0 0).f1.f5) == 0)))))))) else (some true)) else (none)
set_option maxHeartbeats 8000000 in
set_option maxRecDepth 100000 in
theorem spec_l01Ok.calls (A0 : Option Addr) (c0 : Nat) (l0 : List (S122)) (r : Bool) (w : World) (hr0 : Kd.C k122 w A0 l0.length l0) (hc0 : l0.length ≤ c0) (h : spec_l01Ok.f l0 = some r) :
  Calls Try.prog 122 #[.pointer A0] w fun e w' => e = .returned (.bool r) ∧ Drawn0 w w' := by
 have hu116 := Try.underlying116
 have HR0 := A_ hr0
 have HC0 := A_ hc0
 clear hr0 hc0
 have H : (if 0 < (l0.length : Int) then (if ((rd_T122 l0 0).f0 = true) then (some (!(((rd_T122 l0 0).f1.f0) == 0) || (!(((rd_T122 l0 0).f1.f1) == 0) || (!(((rd_T122 l0 0).f1.f2) == 0) || (!(((rd_T122 l0 0).f1.f3) == 0) || (!(((rd_T122 l0 0).f1.f4) == 0) || (!(((rd_T122 l0 0).f1.f5) == 0)))))))) else (some true)) else (none)) = some r := h
 clear h
 by_cases c2 : 0 < (l0.length : Int)
 ·
  rw [if_pos c2] at H
  have c2b0 := decide_eq_true c2
  have c2b1 : decide (0 < l0.length) = true := decide_eq_true (by omega)
  clear c2
  obtain ⟨bq3, hbq3⟩ : ∃ b_ : Bool, b_ = ((rd_T122 l0 0).f0) := ⟨_, rfl⟩
  replace H : (if (bq3 = true) then (some (!(((rd_T122 l0 0).f1.f0) == 0) || (!(((rd_T122 l0 0).f1.f1) == 0) || (!(((rd_T122 l0 0).f1.f2) == 0) || (!(((rd_T122 l0 0).f1.f3) == 0) || (!(((rd_T122 l0 0).f1.f4) == 0) || (!(((rd_T122 l0 0).f1.f5) == 0)))))))) else (some true)) = some r := by rw [← hbq3] at H; exact H
  have Nbq3 := A_ hbq3
  clear hbq3
  by_cases c4 : (bq3 = true)
  ·
   subst c4
   have H1 := H; rw [if_pos rfl] at H1
   clear H
   have H := H1
   clear H1
   obtain rfl := Option.some.inj H
   have q234 : 0 < (l0.length : Int) := of_decide_eq_true (by assumption)
   obtain ⟨ad234, e234, hx234_0, hx234_1, hx234_2, hx234_3, hx234_4, hx234_5, hx234_6⟩ := rp_T122 HR0.out q234
   (try rw [← Nbq3.out] at hx234_0)
   cases e234
   go_enter Try.func122, Try.ntmps122
   go_wp2
   go_ret
   exact ⟨(by first | rfl | (simp; done) | (simp [*]; done) | (simp [isE_]; done)), (by repeat (first | exact Drawn0.refl _ | apply Drawn0.step))⟩
  ·
   replace c4 := Bool.eq_false_iff.mpr c4
   subst c4
   have H1 := H; rw [if_neg (show ¬ (false = true) by decide)] at H1
   clear H
   have H := H1
   clear H1
   obtain rfl := Option.some.inj H
   have q234 : 0 < (l0.length : Int) := of_decide_eq_true (by assumption)
   obtain ⟨ad234, e234, hx234_0, hx234_1, hx234_2, hx234_3, hx234_4, hx234_5, hx234_6⟩ := rp_T122 HR0.out q234
   (try rw [← Nbq3.out] at hx234_0)
   cases e234
   go_enter Try.func122, Try.ntmps122
   go_wp2
   go_ret
   exact ⟨(by first | rfl | (simp; done) | (simp [*]; done) | (simp [isE_]; done)), (by repeat (first | exact Drawn0.refl _ | apply Drawn0.step))⟩
 ·
  rw [if_neg c2] at H
  exact absurd H (by simp)
end Go.Proofs.Ytenhgmddpkiliaa.PB

import Derived.Test.YtpfnohdnaocpdaaPTx0
namespace Go.Proofs.Ytpfnohdnaocpdaa.PT
open Go.RowKit Go.Proofs.YtpfnohdnaocpdaaW.PrintWords Go.Proofs.YtpfnohdnaocpdaaW.PrintLast Go.Proofs.YtpfnohdnaocpdaaW.PrintMore Go.Proofs.YtpfnohdnaocpdaaRP
attribute [local go_sem] max2_int min2_int max_two min_two max_three min_three max_four min_four Go.Proofs.YtpfnohdnaocpdaaRP.max_eight Go.Proofs.YtpfnohdnaocpdaaRP.tmod_len   -- for this text's walks alone
set_option linter.unusedVariables false
set_option linter.unusedSimpArgs false
/-! ### spec_l06Ways: function 68 -/
def spec_l06Ways.f (l0 : List (S89)) : Option (Int) := if 0 < (l0.length : Int) then (if ((rd_T89 l0 0).f0) = 1 then (some 3) else (some 1)) else (none)
set_option maxHeartbeats 8000000 in
set_option maxRecDepth 100000 in
theorem spec_l06Ways.calls (A0 : Option Addr) (c0 : Nat) (l0 : List (S89)) (r : Int) (w : World) (hr0 : Kd.C k89 w A0 l0.length l0) (hc0 : l0.length ≤ c0) (h : spec_l06Ways.f l0 = some r) :
  Calls Try.prog 68 #[.pointer A0] w fun e w' => e = .returned (.int .i64 r) ∧ Drawn0 w w' := by
 have HR0 := A_ hr0
 have HC0 := A_ hc0
 clear hr0 hc0
 have H : (if 0 < (l0.length : Int) then (if ((rd_T89 l0 0).f0) = 1 then (some 3) else (some 1)) else (none)) = some r := h
 clear h
 by_cases c2 : 0 < (l0.length : Int)
 ·
  rw [if_pos c2] at H
  have c2b0 := decide_eq_true c2
  have c2b1 : decide (0 < l0.length) = true := decide_eq_true (by omega)
  clear c2
  by_cases c3 : ((rd_T89 l0 0).f0) = 1
  ·
   rw [if_pos c3] at H
   have c3b0 := beq_iff_eq.mpr c3
   have c3b1 := bne_eq_false_iff_eq.mpr c3
   clear c3
   obtain rfl := Option.some.inj H
   have q182 : 0 < (l0.length : Int) := of_decide_eq_true (by assumption)
   obtain ⟨ad182, e182, hx182_0, hx182_1, hx182_2, hx182_3, hx182_4⟩ := rp_T89 HR0.out q182
   cases e182
   go_enter Try.func68, Try.ntmps68
   go_wp2
   go_ret
   exact ⟨(by first | rfl | (simp; done) | (simp [*]; done) | (simp [isE_]; done)), (by repeat (first | exact Drawn0.refl _ | apply Drawn0.step))⟩
  ·
   rw [if_neg c3] at H
   have c3b0 : (((rd_T89 l0 0).f0) == 1) = false := beq_eq_false_iff_ne.mpr c3
   have c3b1 : (((rd_T89 l0 0).f0) != 1) = true := bne_iff_ne.mpr c3
   obtain rfl := Option.some.inj H
   have q182 : 0 < (l0.length : Int) := of_decide_eq_true (by assumption)
   obtain ⟨ad182, e182, hx182_0, hx182_1, hx182_2, hx182_3, hx182_4⟩ := rp_T89 HR0.out q182
   cases e182
   go_enter Try.func68, Try.ntmps68
   go_wp2
   go_ret
   exact ⟨(by first | rfl | (simp; done) | (simp [*]; done) | (simp [isE_]; done)), (by repeat (first | exact Drawn0.refl _ | apply Drawn0.step))⟩
 ·
  rw [if_neg c2] at H
  exact absurd H (by simp)
end Go.Proofs.Ytpfnohdnaocpdaa.PT

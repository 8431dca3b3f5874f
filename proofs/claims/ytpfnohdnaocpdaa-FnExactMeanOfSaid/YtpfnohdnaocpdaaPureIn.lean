/- Numbers within bounds, in the reference's text. -/
import Derived.Test.YtpfnohdnaocpdaaPTx1
import Derived.Test.YtpfnohdnaocpdaaPureEv
namespace Go.Proofs.Ytpfnohdnaocpdaa.Pure
open Go.RowKit Go.Proofs.Ytpfnohdnaocpdaa.PT Go.Proofs.YtpfnohdnaocpdaaW.PrintWords Go.Proofs.YtpfnohdnaocpdaaW.PrintLast Go.Proofs.YtpfnohdnaocpdaaW.PrintMore Go.Proofs.YtpfnohdnaocpdaaRP
set_option linter.unusedVariables false
set_option linter.unusedSimpArgs false
theorem in_eq (n a b : Int) : spec_l00In.f n a b = some (decide (a ≤ n) && decide (n ≤ b)) := by
  unfold spec_l00In.f
  by_cases h : n ≥ a
  · rw [if_pos h, decide_eq_true (show a ≤ n from h), Bool.true_and]
  · rw [if_neg h, decide_eq_false (show ¬ a ≤ n from h), Bool.false_and]
def inI (n a b : Int) : Bool := decide (a ≤ n) && decide (n ≤ b)
theorem in_eq' (n a b : Int) : spec_l00In.f n a b = some (inI n a b) := in_eq n a b
theorem inI_iff {n a b : Int} : inI n a b = true ↔ a ≤ n ∧ n ≤ b := by simp [inI]
end Go.Proofs.Ytpfnohdnaocpdaa.Pure

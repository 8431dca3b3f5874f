/- What is known of the nodes of a valid tree: kinds, and where they go. Plain Lean. -/
import Derived.Test.YtpfnohdnaocpdaaPTx0
import Derived.Test.YtpfnohdnaocpdaaRP
namespace Go.Proofs.Ytpfnohdnaocpdaa.PT
open Go.RowKit Go.Proofs.YtpfnohdnaocpdaaW.PrintWords Go.Proofs.YtpfnohdnaocpdaaW.PrintLast Go.Proofs.YtpfnohdnaocpdaaW.PrintMore Go.Lib Go.Proofs.YtpfnohdnaocpdaaRP
set_option linter.unusedVariables false
set_option linter.unusedSimpArgs false

def okN (n : Nat) (x : S89) : Bool := (x.f0 == 1 || x.f0 == 2) && decide (0 ≤ x.f2.f0 ∧ x.f2.f0 < n) && decide (0 ≤ x.f2.f1 ∧ x.f2.f1 < n) && decide (0 ≤ x.f2.f2 ∧ x.f2.f2 < n)
def okT (l : List S89) : Bool := l.all (okN l.length)
theorem okT_rd {l : List S89} (h : okT l = true) (i : Int) (h0 : 0 ≤ i) (h1 : i < l.length) : ((rd_T89 l i).f0 = 1 ∨ (rd_T89 l i).f0 = 2) ∧ (0 ≤ (rd_T89 l i).f2.f0 ∧ (rd_T89 l i).f2.f0 < l.length) ∧ (0 ≤ (rd_T89 l i).f2.f1 ∧ (rd_T89 l i).f2.f1 < l.length) ∧ (0 ≤ (rd_T89 l i).f2.f2 ∧ (rd_T89 l i).f2.f2 < l.length) := by
  have hi : i.toNat < l.length := by omega
  have e : rd_T89 l i = l[i.toNat] := by simp [rd_T89, List.getD, hi]
  have := List.all_eq_true.1 h _ (List.getElem_mem hi)
  rw [e]
  simp only [okN, Bool.and_eq_true, Bool.or_eq_true, beq_iff_eq, decide_eq_true_eq] at this
  exact ⟨this.1.1.1, this.1.1.2, this.1.2, this.2⟩
end Go.Proofs.Ytpfnohdnaocpdaa.PT

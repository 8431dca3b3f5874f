/- MoebiusTree: the program's answer is the reference's. Plain Lean over the printed functions. -/
import Derived.Test.YtpfnohdnaocpdaaPTx9
import Derived.Test.YtpfnohdnaocpdaaPTx7
import Derived.Test.YtpfnohdnaocpdaaPureMoebE
import Derived.Test.YtpfnohdnaocpdaaPureTreeHeld
import Derived.Test.YtpfnohdnaocpdaaDataPT
import Derived.OpenShut
namespace Go.Proofs.Ytpfnohdnaocpdaa.Pure
open Go.RowKit Go.Proofs.Ytpfnohdnaocpdaa.PT Go.Proofs.YtpfnohdnaocpdaaW.PrintWords Go.Proofs.YtpfnohdnaocpdaaW.PrintLast Go.Proofs.YtpfnohdnaocpdaaW.PrintMore Go.Proofs.YtpfnohdnaocpdaaRP
set_option linter.unusedVariables false
set_option linter.unusedSimpArgs false
/-- What the law needs: for every machine. -/
theorem FnExactMoebiusTree (x : S58) (g : G58 x) : ∃ k, laws_FnExactMoebiusTree.f k x.f0 x.f1 x.f2 x.f3 = some true := by
  refine Ev.rounds (g := fun k => laws_FnExactMoebiusTree.f k x.f0 x.f1 x.f2 x.f3) ?_
  unfold laws_FnExactMoebiusTree.f
  obtain ⟨A, sp, im, hA⟩ := mtreeE ⟨x.f0, x.f1, x.f2, x.f3⟩
  have eA := eqTree_ev A.1 (by omega)
  have mA := markT_ev A.1 1 (by omega) (by omega) (by omega)
  have hH := heldT_ev A.1.length (by omega)
  have n0 : ¬ (1 + 5 * (A.1.length : Int) < 0) := by omega
  simp only [laws_toMoebius.f, Option.bind_some]
  refine Ev.bind sp (Ev.bind im (Ev.bind eA (Ev.pos (by first | rfl | trivial) (Ev.step (fun k => rfl) ?_))))
  simp only [laws_FnExactMoebiusTree.j0, laws_toMoebius.f, Option.bind_some]
  refine Ev.neg (by simp) (Ev.bind mA (Ev.bind hH (Ev.neg n0 (Ev.pos (by first | rfl | trivial) (Ev.bind im (Ev.bind eA (Ev.pos (by first | rfl | trivial) (Ev.step (fun k => rfl) ?_))))))))
  simp only [laws_FnExactMoebiusTree.j1]
  exact Ev.neg (by simp) (Ev.bind hH (Ev.neg n0 (Ev.pos (by first | rfl | trivial) (Ev.now _))))
end Go.Proofs.Ytpfnohdnaocpdaa.Pure

/- Trees that are equal. Plain Lean over the printed functions. -/
import Derived.Test.YtpfnohdnaocpdaaPTx1
import Derived.Test.YtpfnohdnaocpdaaPureEv
namespace Go.Proofs.Ytpfnohdnaocpdaa.Pure
open Go.RowKit Go.Proofs.Ytpfnohdnaocpdaa.PT Go.Proofs.YtpfnohdnaocpdaaW.PrintWords Go.Proofs.YtpfnohdnaocpdaaW.PrintLast Go.Proofs.YtpfnohdnaocpdaaW.PrintMore Go.Proofs.YtpfnohdnaocpdaaRP
set_option linter.unusedVariables false
set_option linter.unusedSimpArgs false
theorem rd89_mid (d : List S89) (x : S89) (r : List S89) : rd_T89 (d ++ x :: r) (d.length : Int) = x := by
  simp [rd_T89, List.getD]
theorem eqA3_ev (a b c : Int) : Ev (fun k => laws_eqInt16A3.f k a b c a b c) true := by
  unfold laws_eqInt16A3.f
  have e0 : wrap64 ((0 : Int) + 1) = 1 := by unfold wrap64; omega
  have e1 : wrap64 ((1 : Int) + 1) = 2 := by unfold wrap64; omega
  have e2 : wrap64 ((2 : Int) + 1) = 3 := by unfold wrap64; omega
  refine Ev.step (fun k => rfl) ?_
  refine Ev.pos (by decide) (Ev.pos (by decide) (Ev.pos rfl ?_))
  rw [e0]
  refine Ev.step (fun k => rfl) ?_
  refine Ev.pos (by decide) (Ev.pos (by decide) (Ev.pos rfl ?_))
  rw [e1]
  refine Ev.step (fun k => rfl) ?_
  refine Ev.pos (by decide) (Ev.pos (by decide) (Ev.pos rfl ?_))
  rw [e2]
  refine Ev.step (fun k => rfl) ?_
  exact Ev.neg (by decide) (Ev.now _)
theorem eqFork_ev (x : S89) : Ev (fun k => laws_eqFork.f k x.f0 x.f1 x.f2.f0 x.f2.f1 x.f2.f2 x.f0 x.f1 x.f2.f0 x.f2.f1 x.f2.f2) true := by
  unfold laws_eqFork.f
  exact Ev.pos rfl (Ev.pos rfl (Ev.bind (eqA3_ev _ _ _) (Ev.pos rfl (Ev.now _))))
theorem eqForkS_loop (a : List S89) (hn : a.length ≤ 140737488355327) (d : Nat) : ∀ (i : Nat), i + d = a.length → Ev (fun k => laws_eqForkS.l0 k a a (i : Int)) true := by
  induction d with
  | zero =>
    intro i hi
    refine Ev.step (fun k => rfl) ?_
    simp only [laws_eqForkS.l0]
    exact Ev.neg (by omega) (Ev.now _)
  | succ d ih =>
    intro i hi
    refine Ev.step (fun k => rfl) ?_
    simp only [laws_eqForkS.l0]
    refine Ev.pos (by omega) (Ev.pos (by omega) (Ev.pos (by omega) (Ev.bind (eqFork_ev _) (Ev.pos rfl ?_))))
    rw [wnext i (by omega)]
    exact ih (i + 1) (by omega)
theorem eqTree_ev (a : List S89) (hn : a.length ≤ 140737488355327) : Ev (fun k => laws_eqTree.f k a a) true := by
  unfold laws_eqTree.f laws_eqForkS.f
  exact Ev.bind (Ev.pos rfl (eqForkS_loop a hn a.length 0 (by omega))) (Ev.pos rfl (Ev.now _))
end Go.Proofs.Ytpfnohdnaocpdaa.Pure

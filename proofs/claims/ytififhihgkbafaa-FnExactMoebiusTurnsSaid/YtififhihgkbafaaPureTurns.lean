/- MoebiusTurns: the program's answer is the reference's.
   For every machine, stream and number that can be read. -/
import Derived.Test.YtififhihgkbafaaPMx12
import Derived.Test.YtififhihgkbafaaPureMach
namespace Go.Proofs.Ytififhihgkbafaa.Pure
open Go.RowKit Go.Proofs.Ytififhihgkbafaa.PM Go.Proofs.YtififhihgkbafaaW.PrintWords Go.Proofs.YtififhihgkbafaaW.PrintLast Go.Proofs.YtififhihgkbafaaW.PrintMore
set_option linter.unusedVariables false
set_option linter.unusedSimpArgs false
/-- What the law about turns needs. -/
theorem FnExactMoebiusTurns (x : S23) (s : S26) (n : Int) (gx : G23 x) (gs : G26 s) (gn : (Lit.int .i64 n).wf = true) : ∃ k, laws_FnExactMoebiusTurns.f k x.f0 x.f1 x.f2 x.f3 s.f0 s.f1 n = some true := by
  have hh : s.f0.length ≤ 140737488355327 := by have := gs.1.2; omega
  have hl : s.f1.length ≤ 140737488355327 := by have := gs.2.2; omega
  refine Ev.rounds (g := fun k => laws_FnExactMoebiusTurns.f k x.f0 x.f1 x.f2 x.f3 s.f0 s.f1 n) ?_
  obtain ⟨r, hr⟩ := sz_some s.f0 s.f1 1048576
  unfold laws_FnExactMoebiusTurns.f
  simp only [hr, Option.bind_some]
  by_cases c : r < 0
  · exact Ev.pos c (Ev.now _)
  have tS := toStream_ev s.f0 s.f1 hh hl
  have sp := sturns_ev ⟨x.f0, x.f1, x.f2, x.f3⟩ s.f0 s.f1 n hh hl
  have im := iturns_ev ⟨x.f0, x.f1, x.f2, x.f3⟩ s.f0 s.f1 n
  have ln := turnsOf_len ⟨x.f0, x.f1, x.f2, x.f3⟩ s.f0 s.f1 n
  generalize turnsOf ⟨x.f0, x.f1, x.f2, x.f3⟩ s.f0 s.f1 n = T at sp im ln
  have eT := eqTurnS_ev T.1 (by omega)
  refine Ev.neg c ?_
  simp only [laws_toMoebius.f, Option.bind_some]
  refine Ev.bind tS (Ev.bind sp (Ev.bind tS (Ev.bind im (Ev.bind eT (Ev.pos rfl (Ev.step (fun k => rfl) ?_))))))
  simp only [laws_FnExactMoebiusTurns.j0]
  refine Ev.neg (by simp) (Ev.bind tS (Ev.bind (eqStream_ev _ _ hh hl) (Ev.pos rfl (Ev.bind (markStream_ev _ _ hh hl) (Ev.neg (by dsimp only; omega) (Ev.bind eT (Ev.pos rfl (Ev.step (fun k => rfl) ?_))))))))
  simp only [laws_FnExactMoebiusTurns.j1, laws_toMoebius.f, Option.bind_some]
  refine Ev.neg (by simp) (Ev.bind (markTurnS_ev T.1 (by omega)) (Ev.bind (heldTurnS_ev T.1.length (by omega)) (Ev.neg (by omega) (Ev.pos rfl (Ev.bind tS (Ev.bind im (Ev.bind eT (Ev.pos rfl (Ev.step (fun k => rfl) ?_)))))))))
  simp only [laws_FnExactMoebiusTurns.j2]
  exact Ev.neg (by simp) (Ev.bind (heldTurnS_ev T.1.length (by omega)) (Ev.neg (by omega) (Ev.pos rfl (Ev.now _))))
end Go.Proofs.Ytififhihgkbafaa.Pure

/- The turns of both texts. Plain Lean over the printed functions. -/
import Derived.Test.YtififhihgkbafaaPMx8
import Derived.Test.YtififhihgkbafaaPMx4
import Derived.Test.YtififhihgkbafaaPureMach
namespace Go.Proofs.Ytififhihgkbafaa.Pure
open Go.RowKit Go.Proofs.Ytififhihgkbafaa.PM Go.Proofs.YtififhihgkbafaaW.PrintWords Go.Proofs.YtififhihgkbafaaW.PrintLast Go.Proofs.YtififhihgkbafaaW.PrintMore
set_option linter.unusedVariables false
set_option linter.unusedSimpArgs false
theorem sturns_ev (m : M4) (h l : List Int) (n : Int) (hh : h.length ≤ 140737488355327) (hl : l.length ≤ 140737488355327) : Ev (fun k => spec_MoebiusTurns.f k m.a m.b m.c m.d h l n) (turnsOf m h l n) := by
  unfold spec_MoebiusTurns.f
  refine Ev.bind (sasked_ev m h l n hh hl) ?_
  by_cases c1 : okM m = true ∧ okS h l = true
  · by_cases c2 : inI n 0 60 = true
    · by_cases c3 : inOne m = true
      · rw [if_pos c1, if_pos c2, if_pos c3]
        exact Ev.pos rfl (Ev.bind (srun_ev c1.1 c1.2 c2 c3) (Ev.now _))
      · unfold turnsOf; rw [if_pos c1, if_pos c2, if_neg c3, if_pos c1, if_pos c2, if_neg c3]
        exact Ev.neg (by decide) (Ev.now _)
    · unfold turnsOf; rw [if_pos c1, if_neg c2, if_pos c1, if_neg c2]
      exact Ev.neg (by decide) (Ev.now _)
  · unfold turnsOf; rw [if_neg c1, if_neg c1]
    exact Ev.neg (by decide) (Ev.now _)
theorem iturns_ev (m : M4) (h l : List Int) (n : Int) : Ev (fun k => impl_MoebiusTurns.f k m.a m.b m.c m.d h l n) (turnsOf m h l n) := by
  unfold impl_MoebiusTurns.f
  exact Ev.bind (irun_ev m h l n) (Ev.now _)
end Go.Proofs.Ytififhihgkbafaa.Pure

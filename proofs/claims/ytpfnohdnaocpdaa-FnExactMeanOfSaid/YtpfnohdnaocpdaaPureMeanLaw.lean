/- MeanOf: the program's answer is the reference's. Plain Lean over the printed functions. -/
import Derived.Test.YtpfnohdnaocpdaaPTx6
import Derived.Test.YtpfnohdnaocpdaaPureMean
import Derived.Test.YtpfnohdnaocpdaaPureTreeLaw
import Derived.Test.YtpfnohdnaocpdaaDataPT
import Derived.OpenShut
namespace Go.Proofs.Ytpfnohdnaocpdaa.Pure
open Go.RowKit Go.Proofs.Ytpfnohdnaocpdaa.PT Go.Proofs.YtpfnohdnaocpdaaW.PrintWords Go.Proofs.YtpfnohdnaocpdaaW.PrintLast Go.Proofs.YtpfnohdnaocpdaaW.PrintMore Go.Proofs.YtpfnohdnaocpdaaRP
set_option linter.unusedVariables false
set_option linter.unusedSimpArgs false
theorem Rg_conv {xs : List S158} (h : GL22 xs) : ∀ x ∈ xs.map convF, Rg x := by
  intro x hx
  obtain ⟨y, hy, rfl⟩ := List.mem_map.1 hx
  have g := (h.1 y hy).2.2
  exact ⟨Go.bounds_i16 g.1, Go.bounds_i16 g.2.1, Go.bounds_i16 g.2.2⟩
theorem eqRatio_eq (a b : Int) : laws_eqRatio.f a b a b = some true := by
  unfold laws_eqRatio.f
  rw [if_pos rfl, if_pos rfl]
/-- What the law needs: for every tree and number. -/
theorem FnExactMeanOf (t : S24) (n : Int) (gt : G24 t) (gn : (Lit.int .i64 n).wf = true) : ∃ k, laws_FnExactMeanOf.f k t.f0 n = some true := by
  have ht : t.f0.length ≤ 17592186044000 := by have := gt.2; omega
  have hw := Rg_conv gt
  refine Ev.rounds (g := fun k => laws_FnExactMeanOf.f k t.f0 n) ?_
  unfold laws_FnExactMeanOf.f
  obtain ⟨r0, hr0⟩ := szTree_some t.f0 1048576
  simp only [hr0, Option.bind_some]
  by_cases c0 : r0 < 0
  · exact Ev.pos c0 (Ev.now _)
  have tT := toTree_ev t.f0 (by omega)
  have lT : (t.f0.map convF).length = t.f0.length := by simp
  have eT := eqTree_ev (t.f0.map convF) (by omega)
  generalize t.f0.map convF = T at hw tT lT eT
  obtain ⟨A, sp, im⟩ := mean_ev T hw (by omega) n
  refine Ev.neg c0 (Ev.bind tT (Ev.bind sp (Ev.bind tT (Ev.bind im ?_))))
  rw [eqRatio_eq]
  simp only [Option.bind_some]
  refine Ev.pos (by first | rfl | trivial) (Ev.step (fun k => rfl) ?_)
  simp only [laws_FnExactMeanOf.j0]
  exact Ev.neg (by simp) (Ev.bind tT (Ev.bind eT (Ev.pos (by first | rfl | trivial) (Ev.now _))))
end Go.Proofs.Ytpfnohdnaocpdaa.Pure

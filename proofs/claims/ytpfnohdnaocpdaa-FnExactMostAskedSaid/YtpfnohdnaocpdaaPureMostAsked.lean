/- MostAsked: the program's answer is the reference's. Plain Lean over the printed functions. -/
import Derived.Test.YtpfnohdnaocpdaaPTx9
import Derived.Test.YtpfnohdnaocpdaaPTx7
import Derived.Test.YtpfnohdnaocpdaaPureCountC
import Derived.Test.YtpfnohdnaocpdaaPureTreeLaw
import Derived.Test.YtpfnohdnaocpdaaDataPT
import Derived.OpenShut
namespace Go.Proofs.Ytpfnohdnaocpdaa.Pure
open Go.RowKit Go.Proofs.Ytpfnohdnaocpdaa.PT Go.Proofs.YtpfnohdnaocpdaaW.PrintWords Go.Proofs.YtpfnohdnaocpdaaW.PrintLast Go.Proofs.YtpfnohdnaocpdaaW.PrintMore Go.Proofs.YtpfnohdnaocpdaaRP
set_option linter.unusedVariables false
set_option linter.unusedSimpArgs false
theorem Rg_conv {xs : List S158} (h : GL22 xs) : ∀ x ∈ xs.map convF, Rg x := by
  intro x hx
  obtain ⟨y, hy, rfl⟩ := List.mem_map.1 hx
  have g := (h.1 y hy).2.2
  exact ⟨Go.bounds_i16 g.1, Go.bounds_i16 g.2.1, Go.bounds_i16 g.2.2⟩
/-- What the law needs: for every tree and number. -/
theorem FnExactMostAsked (t : S24) (n : Int) (gt : G24 t) (gn : (Lit.int .i64 n).wf = true) : ∃ k, laws_FnExactMostAsked.f k t.f0 n = some true := by
  have ht : t.f0.length ≤ 17592186044000 := by have := gt.2; omega
  have hw := Rg_conv gt
  refine Ev.rounds (g := fun k => laws_FnExactMostAsked.f k t.f0 n) ?_
  unfold laws_FnExactMostAsked.f
  obtain ⟨r0, hr0⟩ := szTree_some t.f0 1048576
  simp only [hr0, Option.bind_some]
  by_cases c0 : r0 < 0
  · exact Ev.pos c0 (Ev.now _)
  have tT := toTree_ev t.f0 (by omega)
  have lT : (t.f0.map convF).length = t.f0.length := by simp
  have eT := eqTree_ev (t.f0.map convF) (by omega)
  generalize t.f0.map convF = T at hw tT lT eT
  obtain ⟨A, sp, im⟩ := count_ev T hw (by omega) n true
  have sp' : Ev (fun k => spec_MostAsked.f k T n) A := by
    unfold spec_MostAsked.f
    exact Ev.bind sp (Ev.now _)
  have im' : Ev (fun k => impl_MostAsked.f k T n) A := by
    unfold impl_MostAsked.f
    exact Ev.bind im (Ev.now _)
  refine Ev.neg c0 (Ev.bind tT (Ev.bind sp' (Ev.bind tT (Ev.bind im' (Ev.pos rfl (Ev.step (fun k => rfl) ?_))))))
  simp only [laws_FnExactMostAsked.j0]
  exact Ev.neg (by simp) (Ev.bind tT (Ev.bind eT (Ev.pos (by first | rfl | trivial) (Ev.now _))))
end Go.Proofs.Ytpfnohdnaocpdaa.Pure

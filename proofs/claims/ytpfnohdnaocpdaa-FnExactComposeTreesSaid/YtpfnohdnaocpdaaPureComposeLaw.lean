/- ComposeTrees: the program's answer is the reference's. Plain Lean over the printed functions. -/
import Derived.Test.YtpfnohdnaocpdaaPTx8
import Derived.Test.YtpfnohdnaocpdaaPTx6
import Derived.Test.YtpfnohdnaocpdaaPureComposeE
import Derived.Test.YtpfnohdnaocpdaaPureTreeHeld
import Derived.Test.YtpfnohdnaocpdaaDataPT
import Derived.OpenShut
namespace Go.Proofs.Ytpfnohdnaocpdaa.Pure
open Go.RowKit Go.Proofs.Ytpfnohdnaocpdaa.PT Go.Proofs.YtpfnohdnaocpdaaW.PrintWords Go.Proofs.YtpfnohdnaocpdaaW.PrintLast Go.Proofs.YtpfnohdnaocpdaaW.PrintMore Go.Proofs.YtpfnohdnaocpdaaRP
set_option linter.unusedVariables false
set_option linter.unusedSimpArgs false
theorem Rg_conv {xs : List S158} (h : GL22 xs) : ∀ x ∈ xs.map convF, Rg x := by
  intro x hx
  obtain ⟨y, hy, rfl⟩ := List.mem_map.1 hx
  have g := (h.1 y hy).2.2
  exact ⟨Go.bounds_i16 g.1, Go.bounds_i16 g.2.1, Go.bounds_i16 g.2.2⟩
/-- What the law needs: for every two trees. -/
theorem FnExactComposeTrees (t u : S24) (gt : G24 t) (gu : G24 u) : ∃ k, laws_FnExactComposeTrees.f k t.f0 u.f0 = some true := by
  have ht : t.f0.length ≤ 17592186044000 := by have := gt.2; omega
  have hu : u.f0.length ≤ 17592186044000 := by have := gu.2; omega
  have hw := Rg_conv gt
  have hwu := Rg_conv gu
  refine Ev.rounds (g := fun k => laws_FnExactComposeTrees.f k t.f0 u.f0) ?_
  unfold laws_FnExactComposeTrees.f
  obtain ⟨r0, hr0⟩ := szTree_some t.f0 1048576
  simp only [hr0, Option.bind_some]
  by_cases c0 : r0 < 0
  · exact Ev.pos c0 (Ev.now _)
  obtain ⟨r1, hr1⟩ := szTree_some u.f0 r0
  simp only [hr1, Option.bind_some]
  by_cases c1 : r1 < 0
  · exact Ev.neg c0 (Ev.pos c1 (Ev.now _))
  have tT := toTree_ev t.f0 (by omega)
  have tU := toTree_ev u.f0 (by omega)
  have lT : (t.f0.map convF).length = t.f0.length := by simp
  have lU : (u.f0.map convF).length = u.f0.length := by simp
  have eT := eqTree_ev (t.f0.map convF) (by omega)
  have eU := eqTree_ev (u.f0.map convF) (by omega)
  generalize t.f0.map convF = T at hw tT lT eT
  generalize u.f0.map convF = U at hwu tU lU eU
  obtain ⟨A, sp, im, hA⟩ := compose_ev T U hw hwu (by omega) (by omega)
  have eA := eqTree_ev A.1 (by omega)
  have mT := markT_ev T 1 (by omega) (by omega) (by omega)
  have mU := markT_ev U (1 + 5 * (T.length : Int)) (by omega) (by omega) (by omega)
  have mA := markT_ev A.1 1 (by omega) (by omega) (by omega)
  have hH := heldT_ev A.1.length (by omega)
  have n0 : ¬ (1 + 5 * (A.1.length : Int) < 0) := by omega
  refine Ev.neg c0 (Ev.neg c1 (Ev.bind tT (Ev.bind tU (Ev.bind sp (Ev.bind tT (Ev.bind tU (Ev.bind im (Ev.bind eA (Ev.pos (by first | rfl | trivial) (Ev.step (fun k => rfl) ?_))))))))))
  simp only [laws_FnExactComposeTrees.j0]
  refine Ev.neg (by simp) (Ev.bind tT (Ev.bind eT (Ev.pos (by first | rfl | trivial) (Ev.bind tU (Ev.bind eU (Ev.pos (by first | rfl | trivial) (Ev.bind mT (Ev.bind mU (Ev.neg (by omega) (Ev.bind eA (Ev.pos (by first | rfl | trivial) (Ev.step (fun k => rfl) ?_))))))))))))
  simp only [laws_FnExactComposeTrees.j1]
  refine Ev.neg (by simp) (Ev.bind mA (Ev.bind hH (Ev.neg n0 (Ev.pos (by first | rfl | trivial) (Ev.bind tT (Ev.bind tU (Ev.bind im (Ev.bind eA (Ev.pos (by first | rfl | trivial) (Ev.step (fun k => rfl) ?_))))))))))
  simp only [laws_FnExactComposeTrees.j2]
  exact Ev.neg (by simp) (Ev.bind hH (Ev.neg n0 (Ev.pos (by first | rfl | trivial) (Ev.now _))))
end Go.Proofs.Ytpfnohdnaocpdaa.Pure

/- The law about runs of trees. Plain Lean over the printed functions. -/
import Derived.Test.YtpfnohdnaocpdaaPTx8
import Derived.Test.YtpfnohdnaocpdaaPTx2
import Derived.Test.YtpfnohdnaocpdaaPureRun
import Derived.Test.YtpfnohdnaocpdaaPureHeld8
import Derived.Test.YtpfnohdnaocpdaaDataPT
import Derived.OpenShut
namespace Go.Proofs.Ytpfnohdnaocpdaa.Pure
open Go.RowKit Go.Proofs.Ytpfnohdnaocpdaa.PT Go.Proofs.YtpfnohdnaocpdaaW.PrintWords Go.Proofs.YtpfnohdnaocpdaaW.PrintLast Go.Proofs.YtpfnohdnaocpdaaW.PrintMore Go.Proofs.YtpfnohdnaocpdaaRP
set_option linter.unusedVariables false
set_option linter.unusedSimpArgs false
theorem sRunTree_ev {l : List S89} {h s : List Int} {n : Int} (hw : ∀ x ∈ l, Rg x) (hl : l.length ≤ 140737488355327) (hh : h.length ≤ 140737488355327) (hs : s.length ≤ 140737488355327) : Ev (fun k => spec_RunTree.f k l h s n) (ansR l h s n) := by
  unfold spec_RunTree.f
  refine Ev.bind (sgiven_ev hw hl hh hs) ?_
  by_cases c : codeR l h s n = 0
  · refine Ev.pos c (Ev.bind (srun_ev hw c) ?_)
    unfold ansR
    rw [if_pos c]
    exact Ev.now _
  · refine Ev.neg c ?_
    unfold ansR
    rw [if_neg c]
    exact Ev.now _
theorem Rg_conv {xs : List S158} (h : GL22 xs) : ∀ x ∈ xs.map convF, Rg x := by
  intro x hx
  obtain ⟨y, hy, rfl⟩ := List.mem_map.1 hx
  have g := (h.1 y hy).2.2
  exact ⟨Go.bounds_i16 g.1, Go.bounds_i16 g.2.1, Go.bounds_i16 g.2.2⟩

/-- What the law about runs of trees needs. -/
theorem FnExactRunTree (t : S24) (s : S27) (n : Int) (gt : G24 t) (gs : G27 s) (gn : (Lit.int .i64 n).wf = true) : ∃ k, laws_FnExactRunTree.f k t.f0 s.f0 s.f1 n = some true := by
  have hh : s.f0.length ≤ 140737488355327 := by have := gs.1.2; omega
  have hl : s.f1.length ≤ 140737488355327 := by have := gs.2.2; omega
  have ht : t.f0.length ≤ 17592186044000 := by have := gt.2; omega
  have hw := Rg_conv gt
  refine Ev.rounds (g := fun k => laws_FnExactRunTree.f k t.f0 s.f0 s.f1 n) ?_
  unfold laws_FnExactRunTree.f
  obtain ⟨r0, hr0⟩ := szTree_some t.f0 1048576
  simp only [hr0, Option.bind_some]
  by_cases c0 : r0 < 0
  · exact Ev.pos c0 (Ev.now _)
  obtain ⟨r, hr⟩ := sz_some s.f0 s.f1 r0
  refine Ev.neg c0 ?_
  simp only [hr, Option.bind_some]
  by_cases c : r < 0
  · exact Ev.pos c (Ev.now _)
  have tS := toStream_ev s.f0 s.f1 hh hl
  have tT := toTree_ev t.f0 (by omega)
  have lT : (t.f0.map convF).length = t.f0.length := by simp
  have eT := eqTree_ev (t.f0.map convF) (by omega)
  obtain ⟨y, mT⟩ := markTree_ev (t.f0.map convF) (by omega)
  generalize t.f0.map convF = T at hw tT lT eT mT
  have sp := sRunTree_ev (n := n) hw (by omega) hh hl
  have im := irunT_ev (h := s.f0) (s := s.f1) (n := n) hw
  have ln := ansR_len (h := s.f0) (s := s.f1) (n := n) hw
  generalize ansR T s.f0 s.f1 n = A at sp im ln
  have eA := eqInt8S_ev A.1 (by omega)
  obtain ⟨y0, y1, mS⟩ := markStream_ev s.f0 s.f1 hh hl (1 + 5 * T.length) (by omega) (by omega)
  refine Ev.neg c (Ev.bind tT (Ev.bind tS (Ev.bind sp (Ev.bind tT (Ev.bind tS (Ev.bind im (Ev.bind eA (Ev.pos (by first | rfl | trivial) (Ev.pos (by first | rfl | trivial) (Ev.step (fun k => rfl) ?_))))))))))
  simp only [laws_FnExactRunTree.j0]
  refine Ev.neg (by simp) (Ev.bind tT (Ev.bind eT (Ev.pos (by first | rfl | trivial) (Ev.bind tS (Ev.bind (eqStream_ev _ _ hh hl) (Ev.pos (by first | rfl | trivial) (Ev.bind mT (Ev.bind mS (Ev.neg (by dsimp only; omega) (Ev.bind eA (Ev.pos (by first | rfl | trivial) (Ev.pos (by first | rfl | trivial) (Ev.step (fun k => rfl) ?_)))))))))))))
  simp only [laws_FnExactRunTree.j1]
  refine Ev.neg (by simp) (Ev.bind (markInt8S_ev A.1 1 (by omega) (by omega) (by omega)) (Ev.bind (heldInt8S_ev A.1.length (by omega)) (Ev.neg (by omega) (Ev.pos (by first | rfl | trivial) (Ev.bind tT (Ev.bind tS (Ev.bind im (Ev.bind eA (Ev.pos (by first | rfl | trivial) (Ev.pos (by first | rfl | trivial) (Ev.step (fun k => rfl) ?_)))))))))))
  simp only [laws_FnExactRunTree.j2]
  exact Ev.neg (by simp) (Ev.bind (heldInt8S_ev A.1.length (by omega)) (Ev.neg (by omega) (Ev.pos (by first | rfl | trivial) (Ev.now _))))
end Go.Proofs.Ytpfnohdnaocpdaa.Pure

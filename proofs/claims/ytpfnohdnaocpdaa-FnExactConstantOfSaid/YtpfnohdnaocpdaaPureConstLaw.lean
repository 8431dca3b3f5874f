/- The law about the stream that a tree tells by itself. Plain Lean over the printed functions. -/
import Derived.Test.YtpfnohdnaocpdaaPTx15
import Derived.Test.YtpfnohdnaocpdaaPTx14
import Derived.Test.YtpfnohdnaocpdaaPureConst2
import Derived.Test.YtpfnohdnaocpdaaPureHeld8
import Derived.Test.YtpfnohdnaocpdaaPureStreamEq
import Derived.Test.YtpfnohdnaocpdaaPureTreeMark
import Derived.Test.YtpfnohdnaocpdaaDataPT
import Derived.OpenShut
namespace Go.Proofs.Ytpfnohdnaocpdaa.Pure
open Go.RowKit Go.Proofs.Ytpfnohdnaocpdaa.PT Go.Proofs.YtpfnohdnaocpdaaW.PrintWords Go.Proofs.YtpfnohdnaocpdaaW.PrintLast Go.Proofs.YtpfnohdnaocpdaaW.PrintMore Go.Proofs.YtpfnohdnaocpdaaRP
set_option linter.unusedVariables false
set_option linter.unusedSimpArgs false
theorem Rg_conv {xs : List S158} (h : GL22 xs) : ∀ x ∈ xs.map convF, Rg x := by
  intro x hx
  obtain ⟨y, hy, rfl⟩ := List.mem_map.1 hx
  have g := (h.1 y hy).2.2
  exact ⟨Go.bounds_i16 g.1, Go.bounds_i16 g.2.1, Go.bounds_i16 g.2.2⟩
theorem markStream1_ev (h l : List Int) (hh : h.length ≤ 60) (hl : l.length ≤ 60) : Ev (fun k => laws_markStream.f k h l 1) (1 + h.length + l.length, mks8 h.length 1, mks8 l.length (1 + h.length)) := by
  unfold laws_markStream.f
  exact Ev.bind (markInt8S_ev h 1 (by omega) (by omega) (by omega)) (Ev.bind (markInt8S_ev l (1 + h.length) (by omega) (by omega) (by omega)) (Ev.now _))
theorem heldStream1_ev (n m : Nat) (hn : n ≤ 60) (hm : m ≤ 60) : Ev (fun k => laws_heldStream.f k (mks8 n 1) (mks8 m (1 + n)) 1) (1 + (n : Int) + (m : Int)) := by
  unfold laws_heldStream.f
  have a := heldInt8S_ev n (by omega)
  have b := heldInt8S_loop m [] (1 + (n : Int)) (by simp; omega) (by omega) (by omega)
  exact Ev.bind a (Ev.neg (by omega) (Ev.bind b (Ev.neg (by omega) (Ev.now _))))
/-- What the law about the stream of a tree needs. -/
theorem FnExactConstantOf (t : S24) (gt : G24 t) : ∃ k, laws_FnExactConstantOf.f k t.f0 = some true := by
  have ht : t.f0.length ≤ 17592186044000 := by have := gt.2; omega
  have hw := Rg_conv gt
  refine Ev.rounds (g := fun k => laws_FnExactConstantOf.f k t.f0) ?_
  unfold laws_FnExactConstantOf.f
  obtain ⟨r0, hr0⟩ := szTree_some t.f0 1048576
  simp only [hr0, Option.bind_some]
  by_cases c0 : r0 < 0
  · exact Ev.pos c0 (Ev.now _)
  have tT := toTree_ev t.f0 (by omega)
  have lT : (t.f0.map convF).length = t.f0.length := by simp
  have eT := eqTree_ev (t.f0.map convF) (by omega)
  obtain ⟨y, mT⟩ := markTree_ev (t.f0.map convF) (by omega)
  generalize t.f0.map convF = T at hw tT lT eT mT
  obtain ⟨A, a1, a2, sp, im⟩ := const_ev T hw (by omega)
  have eA := eqStream_ev A.1 A.2.1 (by omega) (by omega)
  have mA := markStream1_ev A.1 A.2.1 a1 a2
  have hA := heldStream1_ev A.1.length A.2.1.length a1 a2
  refine Ev.neg c0 (Ev.bind tT (Ev.bind sp (Ev.bind tT (Ev.bind im (Ev.bind eA (Ev.pos (by first | rfl | trivial) (Ev.step (fun k => rfl) ?_)))))))
  simp only [laws_FnExactConstantOf.j0]
  refine Ev.neg (by simp) (Ev.bind tT (Ev.bind eT (Ev.pos (by first | rfl | trivial) (Ev.bind mT (Ev.neg (by dsimp only; omega) (Ev.bind eA (Ev.pos (by first | rfl | trivial) (Ev.step (fun k => rfl) ?_))))))))
  simp only [laws_FnExactConstantOf.j1]
  refine Ev.neg (by simp) (Ev.bind mA (Ev.bind hA (Ev.neg (by omega) (Ev.pos (by first | rfl | trivial) (Ev.bind tT (Ev.bind im (Ev.bind eA (Ev.pos (by first | rfl | trivial) (Ev.step (fun k => rfl) ?_)))))))))
  simp only [laws_FnExactConstantOf.j2]
  exact Ev.neg (by simp) (Ev.bind hA (Ev.neg (by omega) (Ev.pos (by first | rfl | trivial) (Ev.now _))))
end Go.Proofs.Ytpfnohdnaocpdaa.Pure

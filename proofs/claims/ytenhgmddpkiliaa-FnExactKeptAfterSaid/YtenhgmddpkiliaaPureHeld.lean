/- What the laws find of the marks on lines. Plain Lean over the printed functions. -/
import Derived.Test.YtenhgmddpkiliaaPBx2
import Derived.Test.YtenhgmddpkiliaaPureMarks
namespace Go.Proofs.Ytenhgmddpkiliaa.Pure
open Go.RowKit Go.Proofs.Ytenhgmddpkiliaa.PB Go.Proofs.YtenhgmddpkiliaaW.PrintWords Go.Proofs.YtenhgmddpkiliaaW.PrintLast Go.Proofs.YtenhgmddpkiliaaW.PrintMore
set_option linter.unusedVariables false
set_option linter.unusedSimpArgs false

theorem heldLineS_loop (n : Nat) : ∀ (d : List S45) (a : Int), a < 9223372036854775808 → d.length + n ≤ 140737488355327 → Ev (fun k => laws_heldLineS.l0 k (d ++ mks45 n a) a (d.length : Int)) (mke n a) := by
  induction n with
  | zero =>
    intro d a ha h
    refine Ev.step (fun k => rfl) ?_
    simp only [laws_heldLineS.l0, mks45]
    refine Ev.neg (by simp) ?_
    exact Ev.now _
  | succ n ih =>
    intro d a ha h
    have hq := ih (d ++ [mk45 a]) (nx (nx (nx (nx (nx (nx a)))))) (nx_lt _) (by simp; omega)
    refine Ev.step (fun k => rfl) ?_
    simp only [laws_heldLineS.l0, mks45]
    refine Ev.pos (by simp; omega) ?_
    refine Ev.pos (by omega) ?_
    simp only [rd45_mid _ _ _ _ rfl]
    refine Ev.bind (markT_ev ha) ?_
    refine Ev.pos (by rfl) ?_
    refine Ev.pos (by rfl) ?_
    refine Ev.bind (markT_ev (wrap_lt _)) ?_
    refine Ev.pos (by rfl) ?_
    refine Ev.bind (markT_ev (wrap_lt _)) ?_
    refine Ev.pos (by rfl) ?_
    refine Ev.pos (by rfl) ?_
    refine Ev.pos (by rfl) ?_
    rw [wrap_up (i := (d.length : Int)) (by omega) (by omega)]
    simp only [List.length_append, List.length_cons, List.length_nil, List.append_assoc, List.cons_append, List.nil_append, Nat.zero_add] at hq
    exact hq

theorem heldLineS_ev (n : Nat) (h : n ≤ 140737488355327) : Ev (fun k => laws_heldLineS.f k (mks45 n 1) 1) (mke n 1) :=
  heldLineS_loop n [] 1 (by omega) (by simpa using h)

end Go.Proofs.Ytenhgmddpkiliaa.Pure

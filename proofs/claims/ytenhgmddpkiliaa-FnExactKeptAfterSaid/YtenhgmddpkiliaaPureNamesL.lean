/- The names of lines, and which are reached. Plain Lean. -/
import Derived.Test.YtenhgmddpkiliaaPureBookOk
import Derived.Test.YtenhgmddpkiliaaPBnames
namespace Go.Proofs.Ytenhgmddpkiliaa.Pure
open Go.RowKit Go.Proofs.Ytenhgmddpkiliaa.PB Go.Proofs.YtenhgmddpkiliaaW.PrintWords Go.Proofs.YtenhgmddpkiliaaW.PrintLast Go.Proofs.YtenhgmddpkiliaaW.PrintMore Go.Proofs.YtenhgmddpkiliaaRP
set_option linter.unusedVariables false
set_option linter.unusedSimpArgs false

theorem namesL_congr {p q : Nat → Bool} (l : List S45) : ∀ k : Nat, (∀ i, k ≤ i → i < k + l.length → p i = q i) → namesL p l k = namesL q l k := by
  induction l with
  | nil => intro k h; rfl
  | cons x l ih =>
    intro k h
    simp only [List.length_cons] at h
    simp only [namesL, h k (by omega) (by omega), ih (k + 1) (fun i h0 h1 => h i (by omega) (by omega))]
noncomputable def reachB (b : List S45) (s : Int) (i : Nat) : Bool := by
  classical exact decide (Rch b s (i : Int))
theorem reachB_of {b : List S45} {s : Int} {m : List Bool} (h : ∀ j, 0 ≤ j → (Mk m j ↔ Rch b s j)) (i : Nat) : m.getD i false = reachB b s i := by
  have e : rdOf false m (i : Int) = m.getD i false := by simp [rdOf]
  rw [← e]
  refine Bool.eq_iff_iff.2 ((h i (by omega)).trans ?_)
  unfold reachB
  classical exact decide_eq_true_iff.symm
theorem namesL_len (p : Nat → Bool) (l : List S45) : ∀ k, (namesL p l k).length ≤ l.length := by
  induction l with
  | nil => intro k; simp [namesL]
  | cons x l ih =>
    intro k
    have := ih (k + 1)
    simp only [namesL]
    split
    · simp only [List.length_cons]; omega
    · simp only [List.length_cons]; omega
end Go.Proofs.Ytenhgmddpkiliaa.Pure

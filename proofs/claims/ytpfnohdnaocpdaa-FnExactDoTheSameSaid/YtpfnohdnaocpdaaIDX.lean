/- Words of our own: the first index of what a predicate takes (slices.IndexFunc, slices.ContainsFunc). -/
import Derived.Test.YtpfnohdnaocpdaaRP
namespace Go.Proofs.YtpfnohdnaocpdaaRP
open Go.RowKit Go.Proofs.YtpfnohdnaocpdaaW.PrintWords Go.Proofs.YtpfnohdnaocpdaaW.PrintLast Go.Proofs.YtpfnohdnaocpdaaW.PrintMore
set_option linter.unusedVariables false
/-! the first index of what a predicate takes -/
def idxGo {α : Type} (p : α → Bool) : List α → Nat → Int
  | [], _ => -1
  | x :: xs, i => if p x = true then (i : Int) else idxGo p xs (i + 1)
def idxL {α : Type} (p : α → Bool) (l : List α) : Int := idxGo p l 0
theorem idxGo_any {α : Type} (p : α → Bool) : ∀ (l : List α) (i : Nat), decide (0 ≤ idxGo p l i) = l.any p
  | [], _ => by simp [idxGo]
  | x :: xs, i => by
    unfold idxGo
    cases h : p x with
    | true => simp [h]
    | false => simp [h, idxGo_any p xs (i + 1)]
theorem idxL_any {α : Type} (p : α → Bool) (l : List α) : decide (0 ≤ idxL p l) = l.any p := idxGo_any p l 0
theorem drop_int (l : List Int) (k : Nat) (h : k < l.length) : l.drop k = rd l (k : Int) :: l.drop (k + 1) := by
  rw [List.drop_eq_getElem_cons h]
  simp [rd, List.getD, h]
end Go.Proofs.YtpfnohdnaocpdaaRP

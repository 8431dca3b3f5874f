/- MoebiusTree: one state that is found, in both texts. Plain Lean. -/
import Derived.Test.YtpfnohdnaocpdaaPTx7
import Derived.Test.YtpfnohdnaocpdaaPureMoebA
namespace Go.Proofs.Ytpfnohdnaocpdaa.Pure
open Go.RowKit Go.Proofs.Ytpfnohdnaocpdaa.PT Go.Proofs.YtpfnohdnaocpdaaW.PrintWords Go.Proofs.YtpfnohdnaocpdaaW.PrintLast Go.Proofs.YtpfnohdnaocpdaaW.PrintMore Go.Proofs.YtpfnohdnaocpdaaRP
set_option linter.unusedVariables false
set_option linter.unusedSimpArgs false
def Good (p : S60) : Prop := (m4 p).bd 288230376151711744 ∧ (m4 p).up
theorem step_dich {B : M4} (hu : B.up) (xs : List S60) (hg : ∀ p ∈ xs, Good p) (hl : xs.length ≤ 60) :
    (stR xs (s4 B) = (fndL xs (s4 B), (ixP xs (s4 B) : Int)) ∧ fits 288230376151711744 B = true ∧ (fndL xs (s4 B)).length ≤ 60 ∧ ∀ p ∈ fndL xs (s4 B), Good p) ∨ ((stR xs (s4 B)).2 < 0 ∧ (fits 288230376151711744 B = false ∨ 60 < (fndL xs (s4 B)).length)) := by
  by_cases c : ixP xs (s4 B) < xs.length
  · left
    have hf : fndL xs (s4 B) = xs := if_pos c
    have hm : s4 B ∈ xs := by
      have h2 : xs.findIdx (fun x => eqP x (s4 B)) < xs.length := c
      have h3 := List.findIdx_getElem (w := h2)
      have h4 := eqP_iff.1 h3
      have h5 := List.getElem_mem h2
      rw [h4] at h5
      exact h5
    have hG := hg _ hm
    refine ⟨?_, fits_iff.2 hG.1, by rw [hf]; exact hl, by rw [hf]; exact hg⟩
    unfold stR
    rw [if_pos c, hf]
  · have hf : fndL xs (s4 B) = xs ++ [s4 B] := if_neg c
    have hix : ixP xs (s4 B) = xs.length := by have := ixP_le xs (s4 B); omega
    by_cases c2 : xs.length = 60 ∨ fits 288230376151711744 B = false
    · right
      refine ⟨?_, ?_⟩
      · have hR : stR xs (s4 B) = (xs, -1) := by unfold stR; rw [if_neg c]; exact if_pos c2
        rw [hR]
        show (-1 : Int) < 0
        decide
      · rcases c2 with h | h
        · exact .inr (by rw [hf, List.length_append, List.length_singleton, h]; decide)
        · exact .inl h
    · left
      have h60 : ¬ xs.length = 60 := fun h => c2 (.inl h)
      have hfit : fits 288230376151711744 B = true := by
        cases h : fits 288230376151711744 B with
        | true => rfl
        | false => exact absurd (Or.inr h) c2
      refine ⟨?_, hfit, by rw [hf, List.length_append, List.length_singleton]; omega, ?_⟩
      · unfold stR
        rw [if_neg c, hf, hix]
        exact if_neg c2
      · rw [hf]
        intro p hp
        rcases List.mem_append.1 hp with hp | hp
        · exact hg p hp
        · rw [List.mem_singleton.1 hp]
          exact ⟨fits_iff.1 hfit, hu⟩
end Go.Proofs.Ytpfnohdnaocpdaa.Pure

/- Streams: whether they are right, in both texts. Plain Lean over the printed functions. (Out of the machines' pure text.) -/
import Derived.Test.YtpfnohdnaocpdaaPTx1
import Derived.Test.YtpfnohdnaocpdaaPTx2
import Derived.Test.YtpfnohdnaocpdaaPureIn
namespace Go.Proofs.Ytpfnohdnaocpdaa.Pure
open Go.RowKit Go.Proofs.Ytpfnohdnaocpdaa.PT Go.Proofs.YtpfnohdnaocpdaaW.PrintWords Go.Proofs.YtpfnohdnaocpdaaW.PrintLast Go.Proofs.YtpfnohdnaocpdaaW.PrintMore Go.Proofs.YtpfnohdnaocpdaaRP
set_option linter.unusedVariables false
set_option linter.unusedSimpArgs false
def digB (d : Int) : Bool := decide (-1 ≤ d) && decide (d ≤ 1)
theorem sdigits_l0 (l : List Int) (hl : l.length ≤ 140737488355327) (d : Nat) : ∀ i : Nat, i + d = l.length → Ev (fun k => spec_l03Digits.l0 k l (i : Int)) ((l.drop i).all digB) := by
  induction d with
  | zero =>
    intro i hi
    refine Ev.step (fun k => rfl) ?_
    refine Ev.neg (by omega) ?_
    rw [show l.drop i = [] from List.drop_of_length_le (by omega)]
    exact Ev.now _
  | succ d ih =>
    intro i hi
    refine Ev.step (fun k => rfl) ?_
    refine Ev.pos (by omega) (Ev.pos (by omega) ?_)
    have hd : l.drop i = rd l (i : Int) :: l.drop (i + 1) := by
      rw [List.drop_eq_getElem_cons (by omega)]
      simp [rd, List.getD, show i < l.length by omega]
    rw [hd, List.all_cons]
    generalize rd l (i : Int) = x
    by_cases h1 : x < -1
    · refine Ev.pos h1 ?_
      rw [show digB x = false from by simp [digB]; omega]
      exact Ev.now _
    · refine Ev.neg h1 ?_
      by_cases h2 : x > 1
      · refine Ev.pos h2 ?_
        rw [show digB x = false from by simp [digB]; omega]
        exact Ev.now _
      · refine Ev.neg h2 ?_
        rw [show digB x = true from by simp [digB]; omega, Bool.true_and, wnext i (by omega)]
        exact ih (i + 1) (by omega)
theorem sdigits_ev (l : List Int) (hl : l.length ≤ 140737488355327) : Ev (fun k => spec_l03Digits.f k l) (l.all digB) := sdigits_l0 l hl l.length 0 (by omega)
def okS (h l : List Int) : Bool := decide (h.length ≤ 16) && (decide (1 ≤ l.length) && (decide (l.length ≤ 14) && (h.all digB && l.all digB)))
theorem okS_iff {h l : List Int} : okS h l = true ↔ h.length ≤ 16 ∧ 1 ≤ l.length ∧ l.length ≤ 14 ∧ h.all digB = true ∧ l.all digB = true := by
  simp [okS]
theorem sok_ev (h l : List Int) (hh : h.length ≤ 140737488355327) (hl : l.length ≤ 140737488355327) : Ev (fun k => spec_l03Ok.f k [(⟨h, l⟩ : S36)]) (okS h l) := by
  have r : rd_T36 [(⟨h, l⟩ : S36)] 0 = ⟨h, l⟩ := rfl
  unfold spec_l03Ok.f okS
  simp only [r, in_eq', Option.bind_some]
  refine Ev.pos (by simp) ?_
  by_cases c1 : h.length ≤ 16
  · refine Ev.pos (by omega) ?_
    rw [decide_eq_true c1, Bool.true_and]
    cases hi : inI (l.length : Int) 1 14 with
    | false =>
      refine Ev.neg (by decide) ?_
      have : ¬ (1 ≤ l.length ∧ l.length ≤ 14) := fun ⟨p, q⟩ => by rw [inI_iff.2 ⟨by omega, by omega⟩] at hi; cases hi
      rw [show (decide (1 ≤ l.length) && (decide (l.length ≤ 14) && (h.all digB && l.all digB))) = false from by
        rw [← Bool.and_assoc, ← Bool.decide_and, decide_eq_false this, Bool.false_and]]
      exact Ev.now _
    | true =>
      refine Ev.pos rfl ?_
      have hi := inI_iff.1 hi
      rw [decide_eq_true (show 1 ≤ l.length by omega), decide_eq_true (show l.length ≤ 14 by omega), Bool.true_and, Bool.true_and]
      refine Ev.bind (sdigits_ev h hh) ?_
      cases h.all digB with
      | false => exact Ev.neg (by decide) (Ev.now _)
      | true => exact Ev.pos rfl (Ev.bind (sdigits_ev l hl) (by rw [Bool.true_and]; exact Ev.now _))
  · refine Ev.neg (by omega) ?_
    rw [decide_eq_false c1, Bool.false_and]
    exact Ev.now _

end Go.Proofs.Ytpfnohdnaocpdaa.Pure

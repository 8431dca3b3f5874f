/- Where a machine's state stands among those that have been found; the reference's l06State. Plain Lean. -/
import Derived.Test.YtpfnohdnaocpdaaPTx6
import Derived.Test.YtpfnohdnaocpdaaPTfindM
import Derived.Test.YtpfnohdnaocpdaaPureMachT
namespace Go.Proofs.Ytpfnohdnaocpdaa.Pure
open Go.RowKit Go.Proofs.Ytpfnohdnaocpdaa.PT Go.Proofs.YtpfnohdnaocpdaaW.PrintWords Go.Proofs.YtpfnohdnaocpdaaW.PrintLast Go.Proofs.YtpfnohdnaocpdaaW.PrintMore Go.Proofs.YtpfnohdnaocpdaaRP
set_option linter.unusedVariables false
set_option linter.unusedSimpArgs false
theorem Ev.is {α : Type} {g : Nat → Option α} {r : α} (h : ∀ k, g k = some r) : Ev g r := ⟨0, fun k _ => h k⟩
theorem ixP_le (xs : List S60) (p : S60) : ixP xs p ≤ xs.length := List.findIdx_le_length
theorem fndL_len (xs : List S60) (p : S60) : xs.length ≤ (fndL xs p).length := by
  unfold fndL
  split
  · exact Nat.le_refl _
  · simp
theorem ixP_lt_fndL (xs : List S60) (p : S60) : ixP xs p < (fndL xs p).length := by
  unfold fndL
  by_cases c : ixP xs p < xs.length
  · rw [if_pos c]; exact c
  · rw [if_neg c, List.length_append, List.length_singleton]
    have := ixP_le xs p
    omega
theorem rd60_el {xs : List S60} {i : Nat} (h : i < xs.length) : rd_T60 xs (i : Int) = xs[i] := by simp [rd_T60, List.getD, h]
theorem rd60_mem {xs : List S60} {i : Nat} (h : i < xs.length) : rd_T60 xs (i : Int) ∈ xs := by
  rw [rd60_el h]
  exact List.getElem_mem h
theorem ixP_hit {xs : List S60} {p : S60} {i : Nat} (h : i < xs.length) (hi : i ≤ ixP xs p) (he : eqP (rd_T60 xs (i : Int)) p = true) : ixP xs p = i := by
  rcases Nat.lt_or_eq_of_le hi with hlt | e
  · have := List.not_of_lt_findIdx hlt
    rw [rd60_el h] at he
    simp [he] at this
  · exact e.symm
theorem ixP_miss {xs : List S60} {p : S60} {i : Nat} (h : i < xs.length) (hi : i ≤ ixP xs p) (he : ¬ eqP (rd_T60 xs (i : Int)) p = true) : i + 1 ≤ ixP xs p := by
  rcases Nat.lt_or_eq_of_le hi with hlt | e
  · exact hlt
  · exfalso
    have h2 : xs.findIdx (fun x => eqP x p) < xs.length := by
      show ixP xs p < xs.length
      omega
    have := List.findIdx_getElem (w := h2)
    apply he
    rw [rd60_el h]
    subst e
    exact this
theorem rd60_fndL {xs : List S60} {p : S60} {i : Nat} (h : i < xs.length) : rd_T60 (fndL xs p) (i : Int) = rd_T60 xs (i : Int) := by
  unfold fndL
  split
  · rfl
  · simp [rd_T60, List.getD, List.getElem?_append_left h]
def m4 (p : S60) : M4 := ⟨p.f0, p.f1, p.f2, p.f3⟩
def stR (xs : List S60) (p : S60) : List S60 × Int := if ixP xs p < xs.length then (xs, (ixP xs p : Int)) else if xs.length = 60 ∨ fits 288230376151711744 (m4 p) = false then (xs, -1) else (xs ++ [p], (xs.length : Int))
theorem state_l0 (xs : List S60) (p : S60) (hl : xs.length ≤ 4000) (d : Nat) : ∀ i : Nat, i + d = xs.length → i ≤ ixP xs p → Ev (fun k => spec_l06State.l0 k xs (i : Int) p.f0 p.f1 p.f2 p.f3) (stR xs p) := by
  have hfit := sfits_eq 288230376151711744 (by decide) (by decide) (m4 p)
  induction d with
  | zero =>
    intro i hi hx
    have hix : ¬ ixP xs p < xs.length := by have := ixP_le xs p; omega
    refine Ev.step (fun k => rfl) ?_
    simp only [spec_l06State.l0]
    refine Ev.neg (by omega) ?_
    by_cases c : xs.length = 60
    · have hR : stR xs p = (xs, -1) := by unfold stR; rw [if_neg hix, if_pos (Or.inl c)]
      rw [hR]
      exact Ev.pos (by omega) (Ev.now _)
    · refine Ev.neg (by omega) (Ev.bind (Ev.is (fun k => hfit)) ?_)
      by_cases cf : fits 288230376151711744 (m4 p) = true
      · have hR : stR xs p = (xs ++ [p], (xs.length : Int)) := by
          unfold stR
          rw [if_neg hix, if_neg (show ¬ (xs.length = 60 ∨ fits 288230376151711744 (m4 p) = false) from fun h => h.elim c (fun h => by simp [cf] at h))]
        rw [hR]
        refine Ev.pos cf (Ev.pos (by omega) (Ev.to (Ev.now _) ?_))
        rw [IntWalk.i16_in _ (by omega)]
      · have hR : stR xs p = (xs, -1) := by
          unfold stR
          rw [if_neg hix, if_pos (Or.inr (by simpa using cf))]
        rw [hR]
        exact Ev.neg cf (Ev.now _)
  | succ d ih =>
    intro i hi hx
    refine Ev.step (fun k => rfl) ?_
    simp only [spec_l06State.l0]
    refine Ev.pos (by omega) (Ev.pos (by omega) ?_)
    by_cases c : eqP (rd_T60 xs (i : Int)) p = true
    · have hix := ixP_hit (by omega) hx c
      have c' : ((rd_T60 xs (i : Int)).f0 == p.f0 && ((rd_T60 xs (i : Int)).f1 == p.f1 && ((rd_T60 xs (i : Int)).f2 == p.f2 && (rd_T60 xs (i : Int)).f3 == p.f3))) = true := by
        rw [eqP_iff.1 c]; simp
      have hR : stR xs p = (xs, (i : Int)) := by
        unfold stR
        rw [if_pos (show ixP xs p < xs.length by omega), hix]
      rw [hR]
      refine Ev.pos c' (Ev.to (Ev.now _) ?_)
      rw [IntWalk.i16_in _ (by omega)]
    · have c' : ¬ ((rd_T60 xs (i : Int)).f0 == p.f0 && ((rd_T60 xs (i : Int)).f1 == p.f1 && ((rd_T60 xs (i : Int)).f2 == p.f2 && (rd_T60 xs (i : Int)).f3 == p.f3))) = true := by
        intro h
        apply c
        simp only [Bool.and_eq_true] at h
        simp only [eqP, Bool.and_eq_true]
        exact ⟨⟨⟨h.1, h.2.1⟩, h.2.2.1⟩, h.2.2.2⟩
      refine Ev.neg c' ?_
      rw [wnext i (by omega)]
      exact ih (i + 1) (by omega) (ixP_miss (by omega) hx c)
theorem state_ev (xs : List S60) (p : S60) (hl : xs.length ≤ 4000) : Ev (fun k => spec_l06State.f k xs p.f0 p.f1 p.f2 p.f3) (stR xs p) := state_l0 xs p hl xs.length 0 (by omega) (by omega)
end Go.Proofs.Ytpfnohdnaocpdaa.Pure

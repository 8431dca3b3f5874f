/- Pairs that are found: how many there can be, and where each stands. Plain Lean. -/
import Derived.Test.YtpfnohdnaocpdaaPTx4
import Derived.Test.YtpfnohdnaocpdaaPTfind
import Derived.Test.YtpfnohdnaocpdaaPureEv
namespace Go.Proofs.Ytpfnohdnaocpdaa.Pure
open Go.RowKit Go.Proofs.Ytpfnohdnaocpdaa.PT Go.Proofs.YtpfnohdnaocpdaaW.PrintWords Go.Proofs.YtpfnohdnaocpdaaW.PrintLast Go.Proofs.YtpfnohdnaocpdaaW.PrintMore Go.Proofs.YtpfnohdnaocpdaaRP
set_option linter.unusedVariables false
set_option linter.unusedSimpArgs false
def InP (n m : Nat) (p : S98) : Prop := 0 ≤ p.f0 ∧ p.f0 < n ∧ 0 ≤ p.f1 ∧ p.f1 < m
def candP (n m : Nat) : List S98 := (List.range n).flatMap fun (i : Nat) => (List.range m).map fun (j : Nat) => (⟨(i : Int), (j : Int)⟩ : S98)
theorem candP_len (n m : Nat) : (candP n m).length = n * m := by
  induction n with
  | zero => simp [candP]
  | succ n ih =>
    unfold candP at ih ⊢
    rw [List.range_succ, List.flatMap_append, List.length_append, ih, Nat.succ_mul]
    simp
theorem candP_mem {n m : Nat} {p : S98} (h : InP n m p) : p ∈ candP n m := by
  obtain ⟨h0, h1, h2, h3⟩ := h
  unfold candP
  rw [List.mem_flatMap]
  refine ⟨p.f0.toNat, List.mem_range.2 (by omega), List.mem_map.2 ⟨p.f1.toNat, List.mem_range.2 (by omega), ?_⟩⟩
  cases p
  simp only at h0 h2 ⊢
  rw [Int.toNat_of_nonneg h0, Int.toNat_of_nonneg h2]
theorem countP_less {α : Type} (p q : α → Bool) : ∀ (L : List α), (∀ x ∈ L, q x = true → p x = true) → ∀ y ∈ L, p y = true → q y = false → L.countP q + 1 ≤ L.countP p := by
  intro L
  induction L with
  | nil => intro _ y hy; cases hy
  | cons x L ih =>
    intro h y hy py qy
    have hm : L.countP q ≤ L.countP p := List.countP_mono_left fun z hz => h z (List.mem_cons_of_mem _ hz)
    rw [List.countP_cons, List.countP_cons]
    rcases List.mem_cons.1 hy with rfl | hy
    · simp only [py, qy, if_true, Bool.false_eq_true, if_false]; omega
    · have h2 := ih (fun z hz => h z (List.mem_cons_of_mem _ hz)) y hy py qy
      have h3 := h x List.mem_cons_self
      cases hq : q x with
      | false => simp only [Bool.false_eq_true, if_false]; omega
      | true => rw [h3 hq]; simp only [if_true]; omega
def missP (n m : Nat) (xs : List S98) : Nat := (candP n m).countP fun q => decide (¬ ixP xs q < xs.length)
structure Cov (n m : Nat) (xs : List S98) : Prop where
  room : xs.length + missP n m xs ≤ n * m
  rng : ∀ x ∈ xs, InP n m x
theorem Cov.nil (n m : Nat) : Cov n m [] := by
  refine ⟨?_, fun x h => by cases h⟩
  have : missP n m [] ≤ (candP n m).length := List.countP_le_length
  rw [candP_len] at this
  simpa using this
theorem Cov.le {n m : Nat} {xs : List S98} (h : Cov n m xs) : xs.length ≤ n * m := by have := h.room; omega
theorem Cov.fnd {n m : Nat} {xs : List S98} (h : Cov n m xs) {p : S98} (hp : InP n m p) : Cov n m (fndL xs p) := by
  unfold fndL
  by_cases c : ixP xs p < xs.length
  · rw [if_pos c]; exact h
  · rw [if_neg c]
    refine ⟨?_, fun x hx => ?_⟩
    · have h1 := h.room
      have h2 : missP n m (xs ++ [p]) + 1 ≤ missP n m xs := by
        refine countP_less _ _ (candP n m) (fun q _ hq => ?_) p (candP_mem hp) (by simpa using c) ?_
        · rw [decide_eq_true_eq] at hq ⊢
          intro hh
          apply hq
          rw [ixP_app, if_pos hh, List.length_append]
          omega
        · rw [decide_eq_false_iff_not, Decidable.not_not, ixP_app, if_neg c, if_pos (eqP_iff.2 rfl), List.length_append]
          simp
      rw [List.length_append, List.length_singleton]
      omega
    · rcases List.mem_append.1 hx with hx | hx
      · exact h.rng x hx
      · rw [List.mem_singleton.1 hx]; exact hp
theorem ixP_le (xs : List S98) (p : S98) : ixP xs p ≤ xs.length := List.findIdx_le_length
theorem fndL_len (xs : List S98) (p : S98) : xs.length ≤ (fndL xs p).length := by
  unfold fndL
  split
  · exact Nat.le_refl _
  · simp
theorem ixP_lt_fndL (xs : List S98) (p : S98) : ixP xs p < (fndL xs p).length := by
  unfold fndL
  by_cases c : ixP xs p < xs.length
  · rw [if_pos c]; exact c
  · rw [if_neg c, List.length_append, List.length_singleton]
    have := ixP_le xs p
    omega
theorem rd98_el {xs : List S98} {i : Nat} (h : i < xs.length) : rd_T98 xs (i : Int) = xs[i] := by simp [rd_T98, List.getD, h]
theorem rd98_mem {xs : List S98} {i : Nat} (h : i < xs.length) : rd_T98 xs (i : Int) ∈ xs := by
  rw [rd98_el h]
  exact List.getElem_mem h
theorem ixP_hit {xs : List S98} {p : S98} {i : Nat} (h : i < xs.length) (hi : i ≤ ixP xs p) (he : eqP (rd_T98 xs (i : Int)) p = true) : ixP xs p = i := by
  rcases Nat.lt_or_eq_of_le hi with hlt | e
  · have := List.not_of_lt_findIdx hlt
    rw [rd98_el h] at he
    simp [he] at this
  · exact e.symm
theorem ixP_miss {xs : List S98} {p : S98} {i : Nat} (h : i < xs.length) (hi : i ≤ ixP xs p) (he : ¬ eqP (rd_T98 xs (i : Int)) p = true) : i + 1 ≤ ixP xs p := by
  rcases Nat.lt_or_eq_of_le hi with hlt | e
  · exact hlt
  · exfalso
    have h2 : xs.findIdx (fun x => eqP x p) < xs.length := by
      show ixP xs p < xs.length
      omega
    have := List.findIdx_getElem (w := h2)
    apply he
    rw [rd98_el h]
    subst e
    exact this
theorem rd98_fndL {xs : List S98} {p : S98} {i : Nat} (h : i < xs.length) : rd_T98 (fndL xs p) (i : Int) = rd_T98 xs (i : Int) := by
  unfold fndL
  split
  · rfl
  · simp [rd_T98, List.getD, List.getElem?_append_left h]
end Go.Proofs.Ytpfnohdnaocpdaa.Pure

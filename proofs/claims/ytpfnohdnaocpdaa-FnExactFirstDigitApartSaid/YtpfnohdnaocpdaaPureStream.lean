/- Streams: validity and digits in both texts. Plain Lean over the printed functions. (Out of the machines' pure text.) -/
import Derived.Test.YtpfnohdnaocpdaaPTx6
import Derived.Test.YtpfnohdnaocpdaaPTx2
import Derived.Test.YtpfnohdnaocpdaaPTx3
import Derived.Test.YtpfnohdnaocpdaaPTx4
namespace Go.Proofs.Ytpfnohdnaocpdaa.Pure
open Go.RowKit Go.Proofs.Ytpfnohdnaocpdaa.PT Go.Proofs.YtpfnohdnaocpdaaW.PrintWords Go.Proofs.YtpfnohdnaocpdaaW.PrintLast Go.Proofs.YtpfnohdnaocpdaaW.PrintMore Go.Proofs.YtpfnohdnaocpdaaRP
set_option linter.unusedVariables false
set_option linter.unusedSimpArgs false
theorem Ev.to {α : Type} {g : Nat → Option α} {r r' : α} (h : Ev g r) (e : r = r') : Ev g r' := e ▸ h

theorem Ev.pos {α : Type} {c : Prop} [Decidable c] {g h : Nat → Option α} {r : α} (hc : c) (k : Ev g r) : Ev (fun n => if c then g n else h n) r := by
  simp only [if_pos hc]; exact k
theorem Ev.neg {α : Type} {c : Prop} [Decidable c] {g h : Nat → Option α} {r : α} (hc : ¬ c) (k : Ev h r) : Ev (fun n => if c then g n else h n) r := by
  simp only [if_neg hc]; exact k
theorem wrap_id {i : Int} (h0 : -9223372036854775808 ≤ i) (h : i ≤ 9223372036854775807) : wrap64 i = i := by
  unfold wrap64
  omega

/-! ### the greatest common divisor -/
theorem tmod_nn {x y : Int} (h0 : 0 ≤ x) : Int.tmod x y = x % y := Int.tmod_eq_emod_of_nonneg h0
theorem within_eq (n a b : Int) : impl_within.f n a b = some (decide (a ≤ n) && decide (n ≤ b)) := by
  unfold impl_within.f
  by_cases h : n ≥ a
  · rw [if_pos h, decide_eq_true (show a ≤ n from h), Bool.true_and]
  · rw [if_neg h, decide_eq_false (show ¬ a ≤ n from h), Bool.false_and]
theorem in_eq (n a b : Int) : spec_l00In.f n a b = some (decide (a ≤ n) && decide (n ≤ b)) := by
  unfold spec_l00In.f
  by_cases h : n ≥ a
  · rw [if_pos h, decide_eq_true (show a ≤ n from h), Bool.true_and]
  · rw [if_neg h, decide_eq_false (show ¬ a ≤ n from h), Bool.false_and]
def inI (n a b : Int) : Bool := decide (a ≤ n) && decide (n ≤ b)
theorem within_eq' (n a b : Int) : impl_within.f n a b = some (inI n a b) := within_eq n a b
theorem in_eq' (n a b : Int) : spec_l00In.f n a b = some (inI n a b) := in_eq n a b
theorem inI_iff {n a b : Int} : inI n a b = true ↔ a ≤ n ∧ n ≤ b := by simp [inI]
theorem wnext (n : Nat) (h : n < 9223372036854775807) : wrap64 ((n : Int) + 1) = ((n + 1 : Nat) : Int) := by unfold wrap64; omega
theorem sdigits_l0 (l : List Int) (hl : l.length ≤ 140737488355327) (d : Nat) : ∀ i : Nat, i + d = l.length → Ev (fun k => spec_l03Digits.l0 k l (i : Int)) ((l.drop i).all digB) := by
  induction d with
  | zero =>
    intro i hi
    refine Ev.step (fun k => rfl) ?_
    refine Ev.neg (by omega) ?_
    rw [show l.drop i = [] from List.drop_of_length_le (by omega)]
    exact Ev.now _
  | succ d ih =>
    intro i hi
    refine Ev.step (fun k => rfl) ?_
    refine Ev.pos (by omega) (Ev.pos (by omega) ?_)
    have hd : l.drop i = rd l (i : Int) :: l.drop (i + 1) := by
      rw [List.drop_eq_getElem_cons (by omega)]
      simp [rd, List.getD, show i < l.length by omega]
    rw [hd, List.all_cons]
    generalize rd l (i : Int) = x
    by_cases h1 : x < -1
    · refine Ev.pos h1 ?_
      rw [show digB x = false from by simp [digB]; omega]
      exact Ev.now _
    · refine Ev.neg h1 ?_
      by_cases h2 : x > 1
      · refine Ev.pos h2 ?_
        rw [show digB x = false from by simp [digB]; omega]
        exact Ev.now _
      · refine Ev.neg h2 ?_
        rw [show digB x = true from by simp [digB]; omega, Bool.true_and, wnext i (by omega)]
        exact ih (i + 1) (by omega)
theorem sdigits_ev (l : List Int) (hl : l.length ≤ 140737488355327) : Ev (fun k => spec_l03Digits.f k l) (l.all digB) := sdigits_l0 l hl l.length 0 (by omega)
def okS (h l : List Int) : Bool := decide (h.length ≤ 16) && (decide (1 ≤ l.length) && (decide (l.length ≤ 14) && (h.all digB && l.all digB)))
theorem okS_iff {h l : List Int} : okS h l = true ↔ h.length ≤ 16 ∧ 1 ≤ l.length ∧ l.length ≤ 14 ∧ h.all digB = true ∧ l.all digB = true := by
  simp [okS]
theorem ivalidS_eq (h l : List Int) : impl_ValidStream.f h l = some (okS h l) := by
  unfold impl_ValidStream.f okS impl_digitsOk.f
  by_cases c1 : h.length ≤ 16
  · rw [if_pos (by omega), decide_eq_true c1]
    by_cases c2 : 1 ≤ l.length
    · rw [if_pos (by omega), decide_eq_true c2]
      by_cases c3 : l.length ≤ 14
      · rw [if_pos (by omega), decide_eq_true c3]
        simp only [Option.bind_some, Bool.true_and]
        cases h.all digB <;> rfl
      · rw [if_neg (by omega), decide_eq_false c3]; rfl
    · rw [if_neg (by omega), decide_eq_false c2]; rfl
  · rw [if_neg (by omega), decide_eq_false c1]; rfl
theorem sok_ev (h l : List Int) (hh : h.length ≤ 140737488355327) (hl : l.length ≤ 140737488355327) : Ev (fun k => spec_l03Ok.f k [(⟨h, l⟩ : S36)]) (okS h l) := by
  have r : rd_T36 [(⟨h, l⟩ : S36)] 0 = ⟨h, l⟩ := rfl
  unfold spec_l03Ok.f okS
  simp only [r, in_eq', Option.bind_some]
  refine Ev.pos (by simp) ?_
  by_cases c1 : h.length ≤ 16
  · refine Ev.pos (by omega) ?_
    rw [decide_eq_true c1, Bool.true_and]
    cases hi : inI (l.length : Int) 1 14 with
    | false =>
      refine Ev.neg (by decide) ?_
      have : ¬ (1 ≤ l.length ∧ l.length ≤ 14) := fun ⟨p, q⟩ => by rw [inI_iff.2 ⟨by omega, by omega⟩] at hi; cases hi
      rw [show (decide (1 ≤ l.length) && (decide (l.length ≤ 14) && (h.all digB && l.all digB))) = false from by
        rw [← Bool.and_assoc, ← Bool.decide_and, decide_eq_false this, Bool.false_and]]
      exact Ev.now _
    | true =>
      refine Ev.pos rfl ?_
      have hi := inI_iff.1 hi
      rw [decide_eq_true (show 1 ≤ l.length by omega), decide_eq_true (show l.length ≤ 14 by omega), Bool.true_and, Bool.true_and]
      refine Ev.bind (sdigits_ev h hh) ?_
      cases h.all digB with
      | false => exact Ev.neg (by decide) (Ev.now _)
      | true => exact Ev.pos rfl (Ev.bind (sdigits_ev l hl) (by rw [Bool.true_and]; exact Ev.now _))
  · refine Ev.neg (by omega) ?_
    rw [decide_eq_false c1, Bool.false_and]
    exact Ev.now _

/-! ### what a state tells -/
def digAt (h l : List Int) (n : Nat) : Int := if n < h.length then rd h (n : Int) else rd l (((n - h.length) % l.length : Nat) : Int)
theorem rd_all {l : List Int} (h : l.all digB = true) {n : Nat} (hn : n < l.length) : -1 ≤ rd l (n : Int) ∧ rd l (n : Int) ≤ 1 := by
  have := List.all_eq_true.1 h (rd l (n : Int)) (by simp [rd, List.getD, hn])
  simpa [digB] using this
theorem digAt_dig {h l : List Int} (hs : okS h l = true) (n : Nat) : -1 ≤ digAt h l n ∧ digAt h l n ≤ 1 := by
  obtain ⟨_, h1, _, hh, hl⟩ := okS_iff.1 hs
  unfold digAt
  split
  · exact rd_all hh (by assumption)
  · exact rd_all hl (Nat.mod_lt _ (by omega))
theorem iat_eq {h l : List Int} (hs : okS h l = true) (n : Nat) (hn : n ≤ 100000) : impl_Stream_at.f h l (n : Int) = some (digAt h l n) := by
  obtain ⟨hl, h1, h2, _, _⟩ := okS_iff.1 hs
  unfold impl_Stream_at.f digAt
  by_cases c : n < h.length
  · rw [if_pos (by omega), if_pos (by omega), if_pos c]
  · rw [if_neg (by omega), if_neg (by omega), if_neg c, wrap_id (by omega) (by omega), tmod_nn (by omega)]
    have e : ((n : Int) - (h.length : Int)) % (l.length : Int) = (((n - h.length) % l.length : Nat) : Int) := by
      rw [show (n : Int) - (h.length : Int) = ((n - h.length : Nat) : Int) from by omega, Int.natCast_emod]
    rw [e, if_pos (by omega), if_pos (by have := Nat.mod_lt (n - h.length) (show 0 < l.length by omega); omega)]
theorem sat_eq {h l : List Int} (hs : okS h l = true) (n : Nat) (hn : n ≤ 100000) : spec_l03At.f [(⟨h, l⟩ : S36)] (n : Int) = some (digAt h l n) := by
  have r : rd_T36 [(⟨h, l⟩ : S36)] 0 = ⟨h, l⟩ := rfl
  have e := iat_eq hs n hn
  unfold impl_Stream_at.f at e
  unfold spec_l03At.f
  simp only [r]
  rw [if_pos (by simp)]
  exact e
end Go.Proofs.Ytpfnohdnaocpdaa.Pure

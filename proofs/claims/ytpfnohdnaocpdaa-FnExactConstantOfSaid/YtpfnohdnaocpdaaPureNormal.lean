/- The least period and the shortest form of a stream, in both texts. Plain Lean over the printed functions. -/
import Derived.Test.YtpfnohdnaocpdaaPTx12
import Derived.Test.YtpfnohdnaocpdaaPTx6
import Derived.Test.YtpfnohdnaocpdaaPureEv
import Derived.Test.YtpfnohdnaocpdaaPTclone8
namespace Go.Proofs.Ytpfnohdnaocpdaa.Pure
open Go.RowKit Go.Proofs.Ytpfnohdnaocpdaa.PT Go.Proofs.YtpfnohdnaocpdaaW.PrintWords Go.Proofs.YtpfnohdnaocpdaaW.PrintLast Go.Proofs.YtpfnohdnaocpdaaW.PrintMore Go.Proofs.YtpfnohdnaocpdaaRP
set_option linter.unusedVariables false
set_option linter.unusedSimpArgs false
theorem rd_get (l : List Int) (i : Nat) (h : i < l.length) : rd l (i : Int) = l[i] := by simp [rd, List.getD, h]
theorem dropI (l : List Int) (i : Nat) (h : i < l.length) : l.drop i = rd l (i : Int) :: l.drop (i + 1) := by
  rw [rd_get l i h]
  exact List.drop_eq_getElem_cons h
theorem equal8_loop (a b : List Int) (e : a.length = b.length) (h : a.length ≤ 140737488355327) (d : Nat) : ∀ i : Nat, i + d = a.length → Ev (fun k => slices_Equal_int8_int8.l0 k a b (a.length : Int) (i : Int)) (decide (a.drop i = b.drop i)) := by
  induction d with
  | zero =>
    intro i hi
    refine Ev.step (fun k => rfl) (Ev.neg (by omega) (Ev.to (Ev.now _) ?_))
    rw [List.drop_of_length_le (by omega), List.drop_of_length_le (by omega)]
    rfl
  | succ d ih =>
    intro i hi
    refine Ev.step (fun k => rfl) (Ev.pos (by omega) (Ev.pos (by omega) (Ev.pos (by omega) (Ev.pos (by omega) ?_))))
    rw [dropI a i (by omega), dropI b i (by omega)]
    by_cases c : rd a (i : Int) = rd b (i : Int)
    · refine Ev.pos c ?_
      rw [wnext i (by omega)]
      refine Ev.to (ih (i + 1) (by omega)) ?_
      rw [c]
      simp
    · refine Ev.neg c (Ev.to (Ev.now _) ?_)
      simp [c]
theorem equal8_ev (a b : List Int) (h : a.length ≤ 140737488355327) : Ev (fun k => slices_Equal_int8_int8.f k a b) (decide (a = b)) := by
  unfold slices_Equal_int8_int8.f
  by_cases e : a.length = b.length
  · exact Ev.pos (by omega) (equal8_loop a b e h a.length 0 (by omega))
  · refine Ev.neg (by omega) (Ev.to (Ev.now _) ?_)
    symm
    rw [decide_eq_false_iff_not]
    intro q
    exact e (congrArg _ q)
theorem clone8 (l : List Int) (h : l.length ≤ 60) : slices_Clone8.f l = some l := by
  unfold slices_Clone8.f
  rw [if_pos (by omega)]
def perI (L : List Int) (p : Nat) : Prop := L.length % p = 0 ∧ L.drop p = L.take (L.length - p)
theorem per_iff {L : List Int} {p : Nat} (hp : p ≤ L.length) : L.drop p = L.take (L.length - p) ↔ ∀ j, p ≤ j → j < L.length → rd L (j : Int) = rd L ((j - p : Nat) : Int) := by
  constructor
  · intro h j h1 h2
    rw [rd_get L j h2, rd_get L (j - p) (by omega)]
    have e := List.getElem_of_eq h (i := j - p) (by simp; omega)
    rw [List.getElem_drop, List.getElem_take] at e
    rw [← e]
    congr 1
    omega
  · intro h
    apply List.ext_getElem (by simp)
    intro i h1 h2
    simp at h1 h2
    have := h (p + i) (by omega) (by omega)
    rw [rd_get _ _ (by omega), show p + i - p = i by omega, rd_get _ _ (by omega)] at this
    rw [List.getElem_drop, List.getElem_take]
    exact this
theorem pinner (L : List Int) (hL : L.length ≤ 60) (p : Nat) (hp : 1 ≤ p) (v : Int) (d : Nat) : ∀ (i : Nat) (b : Bool), i + d = L.length → p ≤ i →
    ((b = true ∧ ∀ j, i ≤ j → j < L.length → rd L (j : Int) = rd L ((j - p : Nat) : Int)) → v = p) →
    (¬ (b = true ∧ ∀ j, i ≤ j → j < L.length → rd L (j : Int) = rd L ((j - p : Nat) : Int)) → Ev (fun k => spec_l03Period.l0 k L ((p + 1 : Nat) : Int)) v) →
    Ev (fun k => spec_l03Period.l1 k L (p : Int) b (i : Int)) v := by
  induction d with
  | zero =>
    intro i b hi hpi h1 h2
    refine Ev.step (fun k => rfl) (Ev.neg (by omega) ?_)
    cases b with
    | true =>
      rw [h1 ⟨rfl, fun j a c => by omega⟩]
      exact ⟨0, fun _ _ => rfl⟩
    | false =>
      have := h2 (fun h => by cases h.1)
      rw [← wnext p (by omega)] at this
      exact Ev.congr (fun k => rfl) this
  | succ d ih =>
    intro i b hi hpi h1 h2
    refine Ev.step (fun k => rfl) (Ev.pos (by omega) ?_)
    cases b with
    | false =>
      have := h2 (fun h => by cases h.1)
      rw [← wnext p (by omega)] at this
      exact Ev.congr (fun k => rfl) this
    | true =>
      have e : wrap64 ((i : Int) - p) = ((i - p : Nat) : Int) := by unfold wrap64; omega
      have key : Ev (fun k => spec_l03Period.l1 k L (p : Int) (rd L (i : Int) == rd L ((i - p : Nat) : Int)) ((i + 1 : Nat) : Int)) v := by
        apply ih (i + 1) _ (by omega) (by omega)
        · rintro ⟨hb, hj⟩
          apply h1
          refine ⟨rfl, fun j a c => ?_⟩
          by_cases hji : j = i
          · subst hji; simpa using hb
          · exact hj j (by omega) c
        · intro hn
          apply h2
          rintro ⟨_, hj⟩
          apply hn
          exact ⟨by simpa using hj i (by omega) (by omega), fun j a c => hj j (by omega) c⟩
      refine Ev.congr (fun k => ?_) key
      rw [if_pos (show true = true from rfl), if_pos (show (0 : Int) ≤ (i : Int) by omega), e, if_pos (show (0 : Int) ≤ ((i - p : Nat) : Int) by omega), if_pos (show ((i - p : Nat) : Int) < (L.length : Int) by omega), wnext i (by omega)]
theorem pfind (L h : List Int) (hL : L.length ≤ 60) (hh : h.length ≤ 60) (d : Nat) : ∀ p : Nat, p + d = L.length → 1 ≤ p → ∃ q : Nat, 1 ≤ q ∧ q ≤ L.length ∧ Ev (fun k => spec_l03Period.l0 k L (p : Int)) (q : Int) ∧ ∀ v, Ev (fun k => impl_normal.l1 k h (L.take q) (q : Int)) v → Ev (fun k => impl_normal.l0 k h L (p : Int)) v := by
  induction d with
  | zero =>
    intro p hp h1
    refine ⟨p, h1, by omega, ?_, fun v hv => ?_⟩
    · exact Ev.step (fun k => rfl) (Ev.neg (by omega) (Ev.to (Ev.now _) (by omega)))
    · have e : wrap64 ((L.length : Int) - p) = ((L.length - p : Nat) : Int) := by unfold wrap64; omega
      refine Ev.step (fun k => rfl) (Ev.neg (by omega) (Ev.pos (by rw [← hp]; simp) ?_))
      rw [e]
      refine Ev.pos (by omega) (Ev.pos (by omega) (Ev.pos (by omega) (Ev.pos (by omega) (Ev.bind (equal8_ev (L.drop p) (L.take (L.length - p)) (by simp; omega)) (Ev.pos ?_ ?_)))))
      · rw [decide_eq_true_iff, List.drop_of_length_le (by omega), show L.length - p = 0 by omega, List.take_zero]
      · rw [clone8 h hh, show L.take (p : Int).toNat = L.take p from rfl, clone8 (L.take p) (by simp; omega)]
        exact hv
  | succ d ih =>
    intro p hp h1
    obtain ⟨q, q1, q2, qs, qi⟩ := ih (p + 1) (by omega) (by omega)
    have e : wrap64 ((L.length : Int) - p) = ((L.length - p : Nat) : Int) := by unfold wrap64; omega
    have em : ((L.length : Int) % (p : Int)) = ((L.length % p : Nat) : Int) := by omega
    have ps : ∀ v : Int, (perI L p → v = p) → (¬ perI L p → Ev (fun k => spec_l03Period.l0 k L ((p + 1 : Nat) : Int)) v) → Ev (fun k => spec_l03Period.l0 k L (p : Int)) v := by
      intro v a b
      refine Ev.step (fun k => rfl) (Ev.pos (by omega) (Ev.neg (by omega) ?_))
      have q : (((L.length : Int) % (p : Int)) == 0) = true ∧ (∀ j, p ≤ j → j < L.length → rd L (j : Int) = rd L ((j - p : Nat) : Int)) ↔ perI L p := by
        unfold perI
        rw [per_iff (by omega), beq_iff_eq, em]
        constructor
        · rintro ⟨x, y⟩; exact ⟨by omega, y⟩
        · rintro ⟨x, y⟩; exact ⟨by omega, y⟩
      exact pinner L hL p h1 v (L.length - p) p _ (by omega) (Nat.le_refl p) (fun z => a (q.1 z)) (fun z => b (fun y => z (q.2 y)))
    by_cases c : perI L p
    · refine ⟨p, h1, by omega, ps p (fun _ => rfl) (fun z => absurd c z), fun v hv => ?_⟩
      refine Ev.step (fun k => rfl) (Ev.neg (by omega) (Ev.pos (by rw [em, c.1]; rfl) ?_))
      rw [e]
      refine Ev.pos (by omega) (Ev.pos (by omega) (Ev.pos (by omega) (Ev.pos (by omega) (Ev.bind (equal8_ev (L.drop p) (L.take (L.length - p)) (by simp; omega)) (Ev.pos (decide_eq_true c.2) ?_)))))
      rw [clone8 h hh, show L.take (p : Int).toNat = L.take p from rfl, clone8 (L.take p) (by simp; omega)]
      exact hv
    · refine ⟨q, q1, q2, ps q (fun z => absurd z c) (fun _ => qs), fun v hv => ?_⟩
      have nx := qi v hv
      rw [← wnext p (by omega)] at nx
      refine Ev.step (fun k => rfl) (Ev.neg (by omega) ?_)
      by_cases m : L.length % p = 0
      · refine Ev.pos (by rw [em, m]; rfl) ?_
        rw [e]
        exact Ev.pos (by omega) (Ev.pos (by omega) (Ev.pos (by omega) (Ev.pos (by omega) (Ev.bind (equal8_ev (L.drop p) (L.take (L.length - p)) (by simp; omega)) (Ev.neg (by rw [decide_eq_true_iff]; exact fun z => c ⟨m, z⟩) nx)))))
      · exact Ev.neg (by rw [em]; omega) nx
theorem rot_len (b : List Int) (h1 : 1 ≤ b.length) (h2 : b.length ≤ 60) (x : Int) : ([x] ++ b.take (wrap64 ((b.length : Int) - 1)).toNat).length = b.length := by
  rw [show wrap64 ((b.length : Int) - 1) = ((b.length - 1 : Nat) : Int) by unfold wrap64; omega]
  simp
  omega
theorem rot_same : ∀ (k : Nat) (a b : List Int), 1 ≤ b.length → b.length ≤ 60 → spec_l03Normal.l0 k a b = impl_normal.l1 k a b (b.length : Int)
  | 0, _, _, _, _ => rfl
  | k + 1, a, b, h1, h2 => by
    have ln := rot_len b h1 h2 (rd b (wrap64 ((b.length : Int) - 1)))
    have ih := rot_same k (a.take (wrap64 ((a.length : Int) - 1)).toNat) ([rd b (wrap64 ((b.length : Int) - 1))] ++ b.take (wrap64 ((b.length : Int) - 1)).toNat) (by omega) (by omega)
    rw [ln] at ih
    unfold spec_l03Normal.l0 impl_normal.l1
    simp only [Option.bind_some, ih]
theorem rot_ev (n : Nat) : ∀ a b : List Int, a.length = n → n ≤ 60 → 1 ≤ b.length → b.length ≤ 60 → ∃ q : List Int × List Int, q.1.length ≤ 60 ∧ q.2.length ≤ 60 ∧ Ev (fun k => spec_l03Normal.l0 k a b) q := by
  induction n with
  | zero =>
    intro a b ha hn h1 h2
    exact ⟨(a, b), by dsimp only; omega, h2, Ev.step (fun k => rfl) (Ev.neg (by omega) (Ev.now _))⟩
  | succ n ih =>
    intro a b ha hn h1 h2
    have ea : wrap64 ((a.length : Int) - 1) = ((a.length - 1 : Nat) : Int) := by unfold wrap64; omega
    have eb : wrap64 ((b.length : Int) - 1) = ((b.length - 1 : Nat) : Int) := by unfold wrap64; omega
    have ln := rot_len b h1 h2 (rd b (wrap64 ((b.length : Int) - 1)))
    by_cases c : rd a (wrap64 ((a.length : Int) - 1)) = rd b (wrap64 ((b.length : Int) - 1))
    · obtain ⟨q, q1, q2, qe⟩ := ih (a.take (wrap64 ((a.length : Int) - 1)).toNat) ([rd b (wrap64 ((b.length : Int) - 1))] ++ b.take (wrap64 ((b.length : Int) - 1)).toNat) (by rw [ea]; simp; omega) (by omega) (by omega) (by omega)
      refine ⟨q, q1, q2, Ev.step (fun k => rfl) (Ev.pos (by omega) (Ev.pos (by omega) (Ev.pos (by omega) (Ev.pos (by omega) (Ev.pos (by omega) (Ev.pos c (Ev.pos (by omega) ?_)))))))⟩
      simp only [Option.bind_some]
      refine Ev.pos (by omega) (Ev.pos ?_ qe)
      rw [← List.length_append, ln]
      omega
    · exact ⟨(a, b), by dsimp only; omega, h2, Ev.step (fun k => rfl) (Ev.pos (by omega) (Ev.pos (by omega) (Ev.pos (by omega) (Ev.pos (by omega) (Ev.pos (by omega) (Ev.neg c (Ev.now _)))))))⟩
/-- The shortest form of a stream: the same in both texts. -/
theorem normal_ev (h L : List Int) (hL : 1 ≤ L.length) (hL' : L.length ≤ 60) (hh : h.length ≤ 60) : ∃ q : List Int × List Int, q.1.length ≤ 60 ∧ q.2.length ≤ 60 ∧ Ev (fun k => spec_l03Normal.f k h L) q ∧ Ev (fun k => impl_normal.f k h L) q := by
  obtain ⟨p, p1, p2, ps, pi⟩ := pfind L h hL' hh (L.length - 1) 1 (by omega) (by omega)
  have lt : (L.take p).length = p := by simp; omega
  obtain ⟨q, q1, q2, qe⟩ := rot_ev h.length h (L.take p) rfl hh (by omega) (by omega)
  refine ⟨q, q1, q2, ?_, ?_⟩
  · unfold spec_l03Normal.f
    simp only [Option.bind_some, List.nil_append, List.length_nil]
    refine Ev.pos (by omega) (Ev.bind ps (Ev.pos (by omega) (Ev.pos (by omega) (Ev.pos ?_ qe))))
    rw [show L.take (p : Int).toNat = L.take p from rfl]
    omega
  · unfold impl_normal.f
    refine pi q ?_
    have := Ev.congr (fun k => (rot_same k h (L.take p) (by omega) (by omega)).symm) qe
    rw [lt] at this
    exact this
end Go.Proofs.Ytpfnohdnaocpdaa.Pure

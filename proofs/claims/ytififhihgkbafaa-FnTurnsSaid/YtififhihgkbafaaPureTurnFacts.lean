/- What is known of the turns of a machine. Plain Lean. -/
import Derived.Test.YtififhihgkbafaaPMx9
import Derived.Test.YtififhihgkbafaaPureMach
namespace Go.Proofs.Ytififhihgkbafaa.Pure
open Go.RowKit Go.Proofs.Ytififhihgkbafaa.PM Go.Proofs.YtififhihgkbafaaW.PrintWords Go.Proofs.YtififhihgkbafaaW.PrintLast Go.Proofs.YtififhihgkbafaaW.PrintMore Go.Proofs.YtififhihgkbafaaRP
set_option linter.unusedVariables false
set_option linter.unusedSimpArgs false
/-- What is told, and what is taken. -/
def tdL (l : List S51) : List Int := (l.filter fun x => x.f0).map fun x => x.f1
def tkN (l : List S51) : Nat := (l.filter fun x => !x.f0).length
theorem tdL_told (d : List S51) {x : S51} (hx : x.f0 = true) : tdL (d ++ [x]) = tdL d ++ [x.f1] ∧ tkN (d ++ [x]) = tkN d := by
  constructor <;> simp [tdL, tkN, hx]
theorem tdL_took (d : List S51) {x : S51} (hx : x.f0 = false) : tdL (d ++ [x]) = tdL d ∧ tkN (d ++ [x]) = tkN d + 1 := by
  constructor <;> simp [tdL, tkN, hx]
theorem td_tk (l : List S51) : (tdL l).length + tkN l = l.length := by
  induction l with
  | nil => rfl
  | cons x l ih =>
    unfold tdL tkN at ih ⊢
    cases hx : x.f0 <;> simp [hx] at ih ⊢ <;> omega
/-- Each digit that is taken is the stream's next one. -/
def okTurns (h l : List Int) (T : List S51) : Prop := ∀ d x r, T = d ++ x :: r → x.f0 = false → x.f1 = digAt h l (tkN d)
theorem okTurns_nil (h l : List Int) : okTurns h l [] := fun d x r e => absurd e (by simp)
theorem okTurns_push {h l : List Int} {T : List S51} (hT : okTurns h l T) {x : S51} (hx : x.f0 = false → x.f1 = digAt h l (tkN T)) : okTurns h l (T ++ [x]) := by
  intro d y r e hy
  rcases List.eq_nil_or_concat r with rfl | ⟨r', z, rfl⟩
  · have e' : T ++ [x] = d ++ [y] := e
    obtain ⟨e1, e2⟩ := List.append_inj' e' rfl
    subst e1
    obtain rfl : x = y := by simpa using e2
    exact hx hy
  · have e' : T ++ [x] = (d ++ y :: r') ++ [z] := by rw [e]; simp
    obtain ⟨e1, _⟩ := List.append_inj' e' rfl
    exact hT d y r' e1 hy
def lastTold (T : List S51) : Prop := T = [] ∨ ∃ d x, T = d ++ [x] ∧ x.f0 = true
def goodRun (h l : List Int) (n : Nat) (T : List S51 × Int) : Prop := T.1.length ≤ 461 ∧ ((T.1 = [] ∧ (T.2 = 3 ∨ T.2 = 7)) ∨ (T.2 = 0 ∧ okTurns h l T.1 ∧ (tdL T.1).length = n ∧ lastTold T.1))
theorem runT_good {h l : List Int} (n : Nat) (hn : n ≤ 60) (f : Nat) : ∀ (m : M4) (out : List S51) (taken told : Nat), okTurns h l out → tkN out = taken → (tdL out).length = told → told ≤ n → taken ≤ 400 → (told < n ∨ lastTold out) → f = (n - told) + (400 - taken) + 1 → goodRun h l n (runT h l n f m out taken told) := by
  induction f with
  | zero => intro m out taken told _ _ _ _ _ _ hf; omega
  | succ f ih =>
    intro m out taken told ho htk htd hle h4 hlast hf
    have hlen := td_tk out
    rw [runT]
    by_cases c : told < n
    · rw [if_pos c]
      cases ht : tell m with
      | some e =>
        have etu : (turn h l m taken).f0 = true := by unfold turn; rw [ht]
        dsimp only
        split
        · obtain ⟨q1, q2⟩ := tdL_told out etu
          exact ih _ _ _ _ (okTurns_push ho (fun hx => by rw [etu] at hx; cases hx)) (by rw [q2, htk]) (by rw [q1]; simp [htd]) (by omega) h4 (.inr (.inr ⟨out, _, rfl, etu⟩)) (by omega)
        · exact ⟨by simp, .inl ⟨rfl, .inl rfl⟩⟩
      | none =>
        have etu : (turn h l m taken).f0 = false := by unfold turn; rw [ht]
        have et1 : (turn h l m taken).f1 = digAt h l taken := by unfold turn; rw [ht]
        dsimp only
        split
        · exact ⟨by simp, .inl ⟨rfl, .inr rfl⟩⟩
        split
        · obtain ⟨q1, q2⟩ := tdL_took out etu
          exact ih _ _ _ _ (okTurns_push ho (fun hx => by rw [et1, htk])) (by rw [q2, htk]) (by rw [q1, htd]) hle (by omega) (.inl c) (by omega)
        · exact ⟨by simp, .inl ⟨rfl, .inl rfl⟩⟩
    · rw [if_neg c]
      refine ⟨by show out.length ≤ 461; omega, .inr ⟨rfl, ho, by show (tdL out).length = n; omega, ?_⟩⟩
      rcases hlast with h1 | h1
      · exact absurd h1 c
      · exact h1
theorem turnsOf_good {m : M4} {h l : List Int} {n : Int} (hm : okM m = true) (hs : okS h l = true) (hn : inI n 0 60 = true) (hi : inOne m = true) : goodRun h l n.toNat (turnsOf m h l n) := by
  unfold turnsOf
  rw [if_pos ⟨hm, hs⟩, if_pos hn, if_pos hi]
  have := inI_iff.1 hn
  exact runT_good n.toNat (by omega) _ _ _ _ _ (okTurns_nil h l) rfl rfl (by omega) (by omega) (.inr (.inl rfl)) rfl
end Go.Proofs.Ytififhihgkbafaa.Pure

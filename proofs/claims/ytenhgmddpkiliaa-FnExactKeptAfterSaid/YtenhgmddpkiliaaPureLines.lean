/- What the laws about books do beside the functions they ask: sizes, copies, equalities of lines. Plain Lean over the printed functions. -/
import Derived.Test.YtenhgmddpkiliaaPBx1
namespace Go.Proofs.Ytenhgmddpkiliaa.Pure
open Go.RowKit Go.Proofs.Ytenhgmddpkiliaa.PB Go.Proofs.YtenhgmddpkiliaaW.PrintWords Go.Proofs.YtenhgmddpkiliaaW.PrintLast Go.Proofs.YtenhgmddpkiliaaW.PrintMore
set_option linter.unusedVariables false
set_option linter.unusedSimpArgs false

theorem wrap_up {i : Int} (h0 : 0 ≤ i) (h : i < 140737488355328) : wrap64 (i + 1) = i + 1 := by
  unfold wrap64
  omega
theorem Ev.pos {α : Type} {c : Prop} [Decidable c] {g h : Nat → Option α} {r : α} (hc : c) (k : Ev g r) : Ev (fun n => if c then g n else h n) r := by
  simp only [if_pos hc]; exact k
theorem Ev.neg {α : Type} {c : Prop} [Decidable c] {g h : Nat → Option α} {r : α} (hc : ¬ c) (k : Ev h r) : Ev (fun n => if c then g n else h n) r := by
  simp only [if_neg hc]; exact k
theorem rd45_mid (d : List S45) (x : S45) (r : List S45) (n : Nat) (h : n = d.length) : rd_T45 (d ++ x :: r) (n : Int) = x := by
  subst h; simp [rd_T45, List.getD]
theorem rdB_mid {α : Type} {z : α} {d : List α} {x : α} {r : List α} (n : Nat) (h : n = d.length) : rdOf z (d ++ x :: r) (n : Int) = x := by
  subst h; simp [rdOf, List.getD]
theorem Ev.to {α : Type} {g : Nat → Option α} {r r' : α} (h : Ev g r) (e : r = r') : Ev g r' := e ▸ h
theorem szLine_some (x : S42) (a : Int) : ∃ r, laws_szLine.f x.f0 x.f1 x.f2 x.f3 x.f4 x.f5 a = some r := by
  unfold laws_szLine.f
  repeat' split
  all_goals exact ⟨_, rfl⟩
theorem szLineS_loop (l : List S42) (hn : l.length ≤ 140737488355327) (d : Nat) : ∀ (k : Nat) (i a : Int), 0 ≤ i → i ≤ l.length → (l.length : Int) - i = d → d < k → ∃ r, laws_szLineS.l0 k l a i = some r := by
  induction d with
  | zero =>
    intro k i a h0 h1 hd hk
    obtain ⟨k, rfl⟩ : ∃ m, k = m + 1 := ⟨k - 1, by omega⟩
    exact ⟨a, by simp only [laws_szLineS.l0]; rw [if_neg (by omega)]⟩
  | succ d ih =>
    intro k i a h0 h1 hd hk
    obtain ⟨k, rfl⟩ : ∃ m, k = m + 1 := ⟨k - 1, by omega⟩
    obtain ⟨t, ht⟩ := szLine_some (rd_T42 l i) a
    by_cases hneg : t < 0
    · exact ⟨-1, by simp only [laws_szLineS.l0]; rw [if_pos (by omega), if_pos h0, ht]; simp only [Option.bind_some]; rw [if_pos hneg]⟩
    · obtain ⟨r, hr⟩ := ih k (i + 1) t (by omega) (by omega) (by omega) (by omega)
      refine ⟨r, ?_⟩
      simp only [laws_szLineS.l0]; rw [if_pos (by omega), if_pos h0, ht]; simp only [Option.bind_some]; rw [if_neg hneg, wrap_up h0 (by omega)]
      exact hr
theorem szLineS_ev (l : List S42) (hn : l.length ≤ 140737488355327) (a : Int) : ∃ r, Ev (fun k => laws_szLineS.f k l a) r := by
  by_cases h : wrap64 (a - (l.length : Int)) < 0
  · exact ⟨-1, 0, fun k _ => by simp only [laws_szLineS.f]; rw [if_pos h]⟩
  · obtain ⟨r, hr⟩ := szLineS_loop l hn l.length (l.length + 1) 0 (wrap64 (a - (l.length : Int))) (by omega) (by omega) (by omega) (by omega)
    refine ⟨r, Ev.of (fun k => laws_szLineS.mono l a k) (k := l.length + 1) ?_⟩
    simp only [laws_szLineS.f]; rw [if_neg h]; exact hr
def conv (x : S42) : S45 := ⟨x.f0, x.f1, x.f2, x.f3, x.f4, x.f5⟩
theorem toLineS_loop (l : List S42) (hn : l.length ≤ 140737488355327) (d : Nat) : ∀ (k i : Nat) (y : List S45), i + d = l.length → y.length = l.length → y.take i = (l.map conv).take i → d < k →
    laws_toLineS.l0 k l y (i : Int) = some (l.map conv) := by
  induction d with
  | zero =>
    intro k i y hi hy ht hk
    obtain ⟨k, rfl⟩ : ∃ m, k = m + 1 := ⟨k - 1, by omega⟩
    simp only [laws_toLineS.l0]; rw [if_neg (by omega)]
    have : i = l.length := by omega
    subst this
    rw [List.take_of_length_le (by omega), List.take_of_length_le (by simp)] at ht
    rw [ht]
  | succ d ih =>
    intro k i y hi hy ht hk
    obtain ⟨k, rfl⟩ : ∃ m, k = m + 1 := ⟨k - 1, by omega⟩
    simp only [laws_toLineS.l0, laws_toLine.f]; rw [if_pos (by omega), if_pos (by omega)]; simp only [Option.bind_some]; rw [if_pos (by omega), wrap_up (by omega) (by omega)]
    have hlt : i < l.length := by omega
    rw [show ((i : Int) + 1) = ((i + 1 : Nat) : Int) from by omega, show ((i : Int)).toNat = i from by omega]
    refine ih k (i + 1) _ (by omega) (by simpa using hy) ?_ (by omega)
    rw [List.take_succ_eq_append_getElem (by simpa using by omega), List.take_succ_eq_append_getElem (by simpa using hlt), List.getElem_set_self, List.take_set_of_le (Nat.le_refl _), ht]
    congr 2
    simp [conv, rd_T42, List.getD, hlt]
theorem toLineS_ev (l : List S42) (hn : l.length ≤ 3909374676536) : Ev (fun k => laws_toLineS.f k l) (l.map conv) := by
  refine Ev.of (fun k => laws_toLineS.mono l k) (k := l.length + 1) ?_
  simp only [laws_toLineS.f]; rw [if_pos (by omega), if_pos (by omega)]
  exact toLineS_loop l (by omega) l.length (l.length + 1) 0 _ (by omega) (by simp) (by simp) (by omega)
theorem eqLineS_loop (a : List S45) (hn : a.length ≤ 140737488355327) (d : Nat) : ∀ (k : Nat) (i : Int), 0 ≤ i → i ≤ a.length → (a.length : Int) - i = d → d < k → laws_eqLineS.l0 k a a i = some true := by
  induction d with
  | zero =>
    intro k i h0 h1 hd hk
    obtain ⟨k, rfl⟩ : ∃ m, k = m + 1 := ⟨k - 1, by omega⟩
    simp only [laws_eqLineS.l0]; rw [if_neg (by omega)]
  | succ d ih =>
    intro k i h0 h1 hd hk
    obtain ⟨k, rfl⟩ : ∃ m, k = m + 1 := ⟨k - 1, by omega⟩
    have := ih k (i + 1) (by omega) (by omega) (by omega) (by omega)
    simp only [laws_eqLineS.l0, laws_eqLine.f]; rw [if_pos (by omega), if_pos h0]
    simp only [if_pos, Option.bind_some]
    rw [if_pos (by omega), wrap_up h0 (by omega)]; exact this
theorem eqLineS_ev (a : List S45) (hn : a.length ≤ 140737488355327) : Ev (fun k => laws_eqLineS.f k a a) true := by
  refine Ev.of (fun k => laws_eqLineS.mono a a k) (k := a.length + 1) ?_
  unfold laws_eqLineS.f; rw [if_pos rfl]
  exact eqLineS_loop a hn a.length (a.length + 1) 0 (by omega) (by omega) (by omega) (by omega)
end Go.Proofs.Ytenhgmddpkiliaa.Pure

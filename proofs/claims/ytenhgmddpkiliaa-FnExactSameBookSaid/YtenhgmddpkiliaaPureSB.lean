/- SameBook: the program's answer is the reference's; plain Lean over the printed functions.
   For every two books that the row can read. -/
import Derived.Test.YtenhgmddpkiliaaPFnExactSameBookx
import Derived.Test.YtenhgmddpkiliaaDataSB
namespace Go.Proofs.Ytenhgmddpkiliaa.Pure
open Go.RowKit Go.Proofs.Ytenhgmddpkiliaa.PFnExactSameBook Go.Proofs.YtenhgmddpkiliaaW.PrintWords Go.Proofs.YtenhgmddpkiliaaW.PrintLast Go.Proofs.YtenhgmddpkiliaaW.PrintMore

theorem wrap_up {i : Int} (h0 : 0 ≤ i) (h : i < 140737488355328) : wrap64 (i + 1) = i + 1 := by
  unfold wrap64
  omega

theorem szLine_some (x : S42) (a : Int) : ∃ r, laws_szLine.f x.f0 x.f1 x.f2 x.f3 x.f4 x.f5 a = some r := by
  unfold laws_szLine.f
  repeat' split
  all_goals exact ⟨_, rfl⟩

theorem szLineS_loop (l : List S42) (hn : l.length ≤ 140737488355327) (d : Nat) : ∀ (k : Nat) (i a : Int), 0 ≤ i → i ≤ l.length → (l.length : Int) - i = d → d < k → ∃ r, laws_szLineS.l0 k l a i = some r := by
  induction d with
  | zero =>
    intro k i a h0 h1 hd hk
    obtain ⟨k, rfl⟩ : ∃ m, k = m + 1 := ⟨k - 1, by omega⟩
    exact ⟨a, by simp only [laws_szLineS.l0]; rw [if_neg (by omega)]⟩
  | succ d ih =>
    intro k i a h0 h1 hd hk
    obtain ⟨k, rfl⟩ : ∃ m, k = m + 1 := ⟨k - 1, by omega⟩
    obtain ⟨t, ht⟩ := szLine_some (rd_T42 l i) a
    by_cases hneg : t < 0
    · exact ⟨-1, by simp only [laws_szLineS.l0]; rw [if_pos (by omega), if_pos h0, ht]; simp only [Option.bind_some]; rw [if_pos hneg]⟩
    · obtain ⟨r, hr⟩ := ih k (i + 1) t (by omega) (by omega) (by omega) (by omega)
      refine ⟨r, ?_⟩
      simp only [laws_szLineS.l0]; rw [if_pos (by omega), if_pos h0, ht]; simp only [Option.bind_some]; rw [if_neg hneg, wrap_up h0 (by omega)]
      exact hr

theorem szLineS_ev (l : List S42) (hn : l.length ≤ 140737488355327) (a : Int) : ∃ r, Ev (fun k => laws_szLineS.f k l a) r := by
  by_cases h : wrap64 (a - (l.length : Int)) < 0
  · exact ⟨-1, 0, fun k _ => by simp only [laws_szLineS.f]; rw [if_pos h]⟩
  · obtain ⟨r, hr⟩ := szLineS_loop l hn l.length (l.length + 1) 0 (wrap64 (a - (l.length : Int))) (by omega) (by omega) (by omega) (by omega)
    refine ⟨r, Ev.of (fun k => laws_szLineS.mono l a k) (k := l.length + 1) ?_⟩
    simp only [laws_szLineS.f]; rw [if_neg h]; exact hr

def conv (x : S42) : S45 := ⟨x.f0, x.f1, x.f2, x.f3, x.f4, x.f5⟩

theorem toLineS_loop (l : List S42) (hn : l.length ≤ 140737488355327) (d : Nat) : ∀ (k i : Nat) (y : List S45), i + d = l.length → y.length = l.length → y.take i = (l.map conv).take i → d < k →
    laws_toLineS.l0 k l y (i : Int) = some (l.map conv) := by
  induction d with
  | zero =>
    intro k i y hi hy ht hk
    obtain ⟨k, rfl⟩ : ∃ m, k = m + 1 := ⟨k - 1, by omega⟩
    simp only [laws_toLineS.l0]; rw [if_neg (by omega)]
    have : i = l.length := by omega
    subst this
    rw [List.take_of_length_le (by omega), List.take_of_length_le (by simp)] at ht
    rw [ht]
  | succ d ih =>
    intro k i y hi hy ht hk
    obtain ⟨k, rfl⟩ : ∃ m, k = m + 1 := ⟨k - 1, by omega⟩
    simp only [laws_toLineS.l0, laws_toLine.f]; rw [if_pos (by omega), if_pos (by omega)]; simp only [Option.bind_some]; rw [if_pos (by omega), wrap_up (by omega) (by omega)]
    have hlt : i < l.length := by omega
    rw [show ((i : Int) + 1) = ((i + 1 : Nat) : Int) from by omega, show ((i : Int)).toNat = i from by omega]
    refine ih k (i + 1) _ (by omega) (by simpa using hy) ?_ (by omega)
    rw [List.take_succ_eq_append_getElem (by simpa using by omega), List.take_succ_eq_append_getElem (by simpa using hlt), List.getElem_set_self, List.take_set_of_le (Nat.le_refl _), ht]
    congr 2
    simp [conv, rd_T42, List.getD, hlt]

theorem toLineS_ev (l : List S42) (hn : l.length ≤ 3909374676536) : Ev (fun k => laws_toLineS.f k l) (l.map conv) := by
  refine Ev.of (fun k => laws_toLineS.mono l k) (k := l.length + 1) ?_
  simp only [laws_toLineS.f]; rw [if_pos (by omega), if_pos (by omega)]
  exact toLineS_loop l (by omega) l.length (l.length + 1) 0 _ (by omega) (by simp) (by simp) (by omega)

theorem impl_spec (a b : List S45) : ∀ (k : Nat) (i : Int), impl_Line.l0 k a b (a.length : Int) i = spec_SameBook.l0 k a b i
  | 0, _ => rfl
  | k + 1, i => by
    simp only [impl_Line.l0, spec_SameBook.l0]
    by_cases h1 : i < (a.length : Int)
    · simp only [if_pos h1, impl_spec a b k]
    · simp only [if_neg h1]

theorem impl_same (k : Nat) (a b : List S45) : impl_SameBook.f k a b = spec_SameBook.f k a b := by
  simp only [impl_SameBook.f, impl_Line.f, spec_SameBook.f, impl_spec]
  split
  · cases spec_SameBook.l0 k a b 0 <;> rfl
  · rfl

theorem spec_loop (a b : List S45) (hab : a.length = b.length) (hn : a.length ≤ 140737488355327) (d : Nat) : ∀ (k : Nat) (i : Int), 0 ≤ i → i ≤ a.length → (a.length : Int) - i = d → d < k → ∃ r, spec_SameBook.l0 k a b i = some r := by
  induction d with
  | zero =>
    intro k i h0 h1 hd hk
    obtain ⟨k, rfl⟩ : ∃ m, k = m + 1 := ⟨k - 1, by omega⟩
    exact ⟨true, by simp only [spec_SameBook.l0]; rw [if_neg (by omega)]⟩
  | succ d ih =>
    intro k i h0 h1 hd hk
    obtain ⟨k, rfl⟩ : ∃ m, k = m + 1 := ⟨k - 1, by omega⟩
    obtain ⟨r, hr⟩ := ih k (i + 1) (by omega) (by omega) (by omega) (by omega)
    simp only [spec_SameBook.l0]; rw [if_pos (by omega), if_pos h0, if_pos (by omega)]
    split
    · exact ⟨_, rfl⟩
    · rw [wrap_up h0 (by omega)]; exact ⟨r, hr⟩

theorem spec_ev (a b : List S45) (hn : a.length ≤ 140737488355327) : ∃ r, Ev (fun k => spec_SameBook.f k a b) r := by
  by_cases h : (a.length : Int) = (b.length : Int)
  · obtain ⟨r, hr⟩ := spec_loop a b (by omega) hn a.length (a.length + 1) 0 (by omega) (by omega) (by omega) (by omega)
    refine ⟨r, Ev.of (fun k => spec_SameBook.mono a b k) (k := a.length + 1) ?_⟩
    simp only [spec_SameBook.f]; rw [if_pos h]; exact hr
  · exact ⟨false, 0, fun k _ => by simp only [spec_SameBook.f]; rw [if_neg h]⟩

theorem eqLineS_loop (a : List S45) (hn : a.length ≤ 140737488355327) (d : Nat) : ∀ (k : Nat) (i : Int), 0 ≤ i → i ≤ a.length → (a.length : Int) - i = d → d < k → laws_eqLineS.l0 k a a i = some true := by
  induction d with
  | zero =>
    intro k i h0 h1 hd hk
    obtain ⟨k, rfl⟩ : ∃ m, k = m + 1 := ⟨k - 1, by omega⟩
    simp only [laws_eqLineS.l0]; rw [if_neg (by omega)]
  | succ d ih =>
    intro k i h0 h1 hd hk
    obtain ⟨k, rfl⟩ : ∃ m, k = m + 1 := ⟨k - 1, by omega⟩
    have := ih k (i + 1) (by omega) (by omega) (by omega) (by omega)
    simp only [laws_eqLineS.l0, laws_eqLine.f]; rw [if_pos (by omega), if_pos h0]
    simp only [if_pos, Option.bind_some]
    rw [if_pos (by omega), wrap_up h0 (by omega)]; exact this

theorem eqLineS_ev (a : List S45) (hn : a.length ≤ 140737488355327) : Ev (fun k => laws_eqLineS.f k a a) true := by
  refine Ev.of (fun k => laws_eqLineS.mono a a k) (k := a.length + 1) ?_
  unfold laws_eqLineS.f; rw [if_pos rfl]
  exact eqLineS_loop a hn a.length (a.length + 1) 0 (by omega) (by omega) (by omega) (by omega)

/-- What the law needs: for every two books. -/
theorem FnExactSameBook (l0 l1 : List S42) (g0 : (∀ x ∈ l0, G42 x) ∧ l0.length * 72 ≤ 140737488351232) (g1 : (∀ x ∈ l1, G42 x) ∧ l1.length * 72 ≤ 140737488351232) : ∃ k, laws_FnExactSameBook.f k l0 l1 = some true := by
  have h0 := g0.2
  have h1 := g1.2
  refine Ev.rounds (g := fun k => laws_FnExactSameBook.f k l0 l1) ?_
  unfold laws_FnExactSameBook.f
  obtain ⟨r0, e0⟩ := szLineS_ev l0 (by omega) 1048576
  refine Ev.bind e0 ?_
  by_cases c0 : r0 < 0
  · simp only [if_pos c0]; exact Ev.now true
  simp only [if_neg c0]
  obtain ⟨r1, e1⟩ := szLineS_ev l1 (by omega) r0
  refine Ev.bind e1 ?_
  by_cases c1 : r1 < 0
  · simp only [if_pos c1]; exact Ev.now true
  simp only [if_neg c1]
  have t0 := toLineS_ev l0 (by omega)
  have t1 := toLineS_ev l1 (by omega)
  refine Ev.bind t0 (Ev.bind t1 ?_)
  obtain ⟨b, eb⟩ := spec_ev (l0.map conv) (l1.map conv) (by simp; omega)
  refine Ev.bind eb (Ev.bind t0 (Ev.bind t1 ?_))
  simp only [impl_same]
  refine Ev.bind eb ?_
  have hb : ¬ ((b != b) = true) := by simp
  simp only [if_neg hb]
  refine Ev.bind t0 (Ev.bind (eqLineS_ev _ (by simp; omega)) ?_)
  simp only [if_true]
  refine Ev.bind t1 (Ev.bind (eqLineS_ev _ (by simp; omega)) ?_)
  simp only [if_true]
  exact Ev.now true
end Go.Proofs.Ytenhgmddpkiliaa.Pure

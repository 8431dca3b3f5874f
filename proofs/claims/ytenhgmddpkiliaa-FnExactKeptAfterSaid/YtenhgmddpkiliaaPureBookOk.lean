/- Books: what the program and the reference answer of a book's validity, as one plain function. Plain Lean over the printed functions. -/
import Derived.Test.YtenhgmddpkiliaaPBx8
import Derived.Test.YtenhgmddpkiliaaPBx10
import Derived.Test.YtenhgmddpkiliaaPureLines
namespace Go.Proofs.Ytenhgmddpkiliaa.Pure
open Go.RowKit Go.Proofs.Ytenhgmddpkiliaa.PB Go.Proofs.YtenhgmddpkiliaaW.PrintWords Go.Proofs.YtenhgmddpkiliaaW.PrintLast Go.Proofs.YtenhgmddpkiliaaW.PrintMore Go.Proofs.YtenhgmddpkiliaaRP
set_option linter.unusedVariables false
set_option linter.unusedSimpArgs false

/-! ### all of a range -/
def allN (c : Int → Bool) : Nat → Int → Bool
  | 0, _ => true
  | d + 1, i => c i && allN c d (i + 1)
theorem allN_at {c : Int → Bool} : ∀ {d : Nat} {i : Int}, allN c d i = true → ∀ j, i ≤ j → j < i + d → c j = true
  | 0, i, _, j, h0, h1 => by omega
  | d + 1, i, h, j, h0, h1 => by
    simp only [allN, Bool.and_eq_true] at h
    by_cases e : j = i
    · subst e; exact h.1
    · exact allN_at h.2 j (by omega) (by omega)
theorem allN_of {c : Int → Bool} : ∀ {d : Nat} {i : Int}, (∀ j, i ≤ j → j < i + d → c j = true) → allN c d i = true
  | 0, i, _ => rfl
  | d + 1, i, h => by
    simp only [allN, Bool.and_eq_true]
    exact ⟨h i (by omega) (by omega), allN_of fun j h0 h1 => h j (by omega) (by omega)⟩

/-! ### names -/
theorem toList_nil (s : ByteArray) : s.toList = ([] : List UInt8) ↔ s.size = 0 := by
  rw [ByteArray.toList_eq]
  cases s with
  | mk a => simp [ByteArray.size]
def lowC (s : ByteArray) (i : Int) : Bool := !(decide (bt s i < 97)) && !(decide (bt s i > 122))
def nmB (s : ByteArray) : Bool := allN (lowC s) s.size 0 && (decide (0 < s.size) && decide (s.size ≤ 8))
theorem sname_l0 (s : ByteArray) (h : s.size ≤ 140737488351232) (d : Nat) : ∀ i : Int, 0 ≤ i → i + d = s.size → Ev (fun k => spec_l07Name.l0 k s i) (allN (lowC s) d i && (decide (0 < s.size) && decide (s.size ≤ 8))) := by
  induction d with
  | zero =>
    intro i h0 h1
    refine Ev.step (fun k => rfl) ?_
    refine Ev.neg (by omega) ?_
    by_cases e : s.toList = ([] : List UInt8)
    · refine Ev.pos e (Ev.to (Ev.now _) ?_)
      simp [allN, (toList_nil s).1 e]
    · refine Ev.neg e (Ev.to (Ev.now _) ?_)
      have := mt (toList_nil s).2 e
      have h2 : 0 < s.size := by omega
      have h3 : ((s.size : Int) ≤ 8) ↔ s.size ≤ 8 := by omega
      simp [allN, h2, h3]
  | succ d ih =>
    intro i h0 h1
    refine Ev.step (fun k => rfl) ?_
    refine Ev.pos (by omega) (Ev.pos h0 ?_)
    by_cases c1 : bt s i < 97
    · refine Ev.pos c1 (Ev.to (Ev.now _) ?_)
      simp [allN, lowC, c1]
    · refine Ev.neg c1 ?_
      by_cases c2 : bt s i > 122
      · refine Ev.pos c2 (Ev.to (Ev.now _) ?_)
        have c3 : 122 < bt s i := c2
        simp [allN, lowC, c3]
      · refine Ev.neg c2 ?_
        rw [wrap_up h0 (by omega)]
        refine Ev.to (ih (i + 1) (by omega) (by omega)) ?_
        have c3 : ¬ 122 < bt s i := c2
        have c4 : lowC s i = true := by simp only [lowC, c1, c2, decide_false]; rfl
        simp only [allN, c4, Bool.true_and]
theorem sname_ev (s : ByteArray) (h : s.size ≤ 140737488351232) : Ev (fun k => spec_l07Name.f k s) (nmB s) :=
  sname_l0 s h s.size 0 (by omega) (by omega)
theorem iname_l0 (s : ByteArray) (h : s.size ≤ 140737488351232) (d : Nat) : ∀ i : Int, 0 ≤ i → i + d = s.size → Ev (fun k => impl_lineName.l0 k s i) (allN (lowC s) d i) := by
  induction d with
  | zero =>
    intro i h0 h1
    refine Ev.step (fun k => rfl) ?_
    exact Ev.neg (by omega) (Ev.now _)
  | succ d ih =>
    intro i h0 h1
    refine Ev.step (fun k => rfl) ?_
    refine Ev.pos (by omega) (Ev.pos h0 ?_)
    by_cases c1 : bt s i < 97
    · refine Ev.pos c1 (Ev.to (Ev.now _) ?_)
      simp [allN, lowC, c1]
    · refine Ev.neg c1 ?_
      by_cases c2 : bt s i > 122
      · refine Ev.pos c2 (Ev.to (Ev.now _) ?_)
        have c3 : 122 < bt s i := c2
        simp [allN, lowC, c3]
      · refine Ev.neg c2 ?_
        rw [wrap_up h0 (by omega)]
        refine Ev.to (ih (i + 1) (by omega) (by omega)) ?_
        have c4 : lowC s i = true := by simp only [lowC, c1, c2, decide_false]; rfl
        simp only [allN, c4, Bool.true_and]
theorem iname_j0 (s : ByteArray) (h : s.size ≤ 140737488351232) (c : Bool) : Ev (fun k => impl_lineName.j0 k s c) (!c && allN (lowC s) s.size 0) := by
  refine Ev.step (fun k => rfl) ?_
  by_cases hc : c = true
  · exact Ev.pos hc (Ev.to (Ev.now _) (by rw [hc]; rfl))
  · refine Ev.neg hc (Ev.to (iname_l0 s h s.size 0 (by omega) (by omega)) ?_)
    simp [hc]
theorem iname_ev (s : ByteArray) (h : s.size ≤ 140737488351232) : Ev (fun k => impl_lineName.f k s) (nmB s) := by
  unfold impl_lineName.f
  by_cases c : (s.size : Int) < 1
  · refine Ev.pos c (Ev.to (iname_j0 s h true) ?_)
    have : ¬ 0 < s.size := by omega
    simp [nmB, this]
  · refine Ev.neg c (Ev.to (iname_j0 s h _) ?_)
    have h2 : 0 < s.size := by omega
    by_cases c2 : (s.size : Int) > 8
    · have h3 : ¬ s.size ≤ 8 := by omega
      simp only [nmB, decide_eq_true c2, decide_eq_false h3]
      simp
    · have h3 : s.size ≤ 8 := by omega
      simp only [nmB, decide_eq_false c2, decide_eq_true h3, decide_eq_true h2]
      simp

/-! ### what a line uses -/
theorem iuses_j0 (a : Int) (b : Bool) : Ev (fun k => impl_uses.j0 k a b) (b || (a == 6 || a == 7 || a == 10), b, false) := by
  refine Ev.step (fun k => rfl) ?_
  by_cases hb : b = true
  · exact Ev.pos hb (Ev.to (Ev.now _) (by simp [hb]))
  · refine Ev.neg hb ?_
    obtain rfl : b = false := by simpa using hb
    by_cases h : a = 6
    · exact Ev.pos h (Ev.to (Ev.now _) (by simp [h]))
    refine Ev.neg h ?_
    by_cases h1 : a = 7
    · exact Ev.pos h1 (Ev.to (Ev.now _) (by simp [h1]))
    refine Ev.neg h1 ?_
    by_cases h2 : a = 10
    · exact Ev.pos h2 (Ev.to (Ev.now _) (by simp [h2]))
    exact Ev.neg h2 (Ev.to (Ev.now _) (by simp [h, h1, h2]))
theorem iuses_ev (a : Int) : Ev (fun k => impl_uses.f k a) (oneB a || twoB a, twoB a, decide (a = 1)) := by
  unfold impl_uses.f
  by_cases h1 : a = 1
  · exact Ev.pos h1 (Ev.to (Ev.now _) (by subst h1; decide))
  refine Ev.neg h1 ?_
  by_cases h2 : a = 2
  · exact Ev.pos h2 (Ev.to (iuses_j0 _ _) (by subst h2; decide))
  refine Ev.neg h2 ?_
  by_cases h3 : a = 3
  · exact Ev.pos h3 (Ev.to (iuses_j0 _ _) (by subst h3; decide))
  refine Ev.neg h3 ?_
  by_cases h4 : a = 4
  · exact Ev.pos h4 (Ev.to (iuses_j0 _ _) (by subst h4; decide))
  refine Ev.neg h4 ?_
  by_cases h5 : a = 5
  · exact Ev.pos h5 (Ev.to (iuses_j0 _ _) (by subst h5; decide))
  refine Ev.neg h5 ?_
  by_cases h8 : a = 8
  · exact Ev.pos h8 (Ev.to (iuses_j0 _ _) (by subst h8; decide))
  refine Ev.neg h8 (Ev.to (iuses_j0 _ _) ?_)
  have e : twoB a = (a == 9) := by
    unfold twoB
    have : ¬ (2 ≤ a ∧ a ≤ 5) := by omega
    have e2 : (decide (2 ≤ a) && decide (a ≤ 5)) = false := by
      rw [← Bool.decide_and]; exact decide_eq_false this
    have e3 : (a == 8) = false := by simpa using h8
    rw [e2, e3]; rfl
  rw [e]
  have : decide (a = 1) = false := decide_eq_false h1
  rw [this]
  unfold oneB
  cases (a == 9) <;> simp
theorem ratio_eq (x : S45) : impl_ratioOk.f x.f1 x.f4 x.f5 = some (tailB x) := by
  have hw : ∀ n a b, impl_within.f n a b = some (inB n a b) := by
    intro n a b
    unfold impl_within.f inB
    by_cases h : a ≤ n
    · simp [h]
    · simp [h]
  unfold impl_ratioOk.f tailB
  simp only [hw, Option.bind_some]
  by_cases h : x.f1 = 1
  · simp only [if_pos h]; split <;> rfl
  · simp only [if_neg h]; split <;> rfl

/-! ### the place of a name -/
theorem sfind_l0 (s : ByteArray) (r : List S45) : ∀ d : List S45, d.length + r.length ≤ 140737488355327 → Ev (fun k => spec_l07Find.l0 k (d ++ r) s (d.length : Int)) (idxGo (nameB s) r d.length) := by
  induction r with
  | nil =>
    intro d h
    refine Ev.step (fun k => rfl) ?_
    exact Ev.neg (by simp) (Ev.now _)
  | cons x r ih =>
    intro d h
    simp only [List.length_cons] at h
    refine Ev.step (fun k => rfl) ?_
    refine Ev.pos (by simp; omega) (Ev.pos (by omega) ?_)
    rw [rd45_mid _ _ _ _ rfl]
    by_cases e : x.f0.toList = s.toList
    · refine Ev.pos e (Ev.to (Ev.now _) ?_)
      have : nameB s x = true := by simpa [nameB] using e
      simp only [idxGo, this, if_true]
    · refine Ev.neg e ?_
      have h2 := ih (d ++ [x]) (by simp; omega)
      have : nameB s x = false := by simpa [nameB] using e
      rw [wrap_up (by omega) (by omega)]
      simp only [List.length_append, List.length_cons, List.length_nil, List.append_assoc, List.cons_append, List.nil_append, Nat.zero_add] at h2
      refine Ev.to h2 ?_
      simp only [idxGo, this]
      simp
theorem sfind_ev (b : List S45) (s : ByteArray) (h : b.length ≤ 140737488355327) : Ev (fun k => spec_l07Find.f k b s) (findL b s) :=
  sfind_l0 s b [] (by simpa using h)
theorem idxGo_in {α : Type} (p : α → Bool) (z : α) : ∀ (l : List α) (i : Nat), idxGo p l i = -1 ∨ ((i : Int) ≤ idxGo p l i ∧ idxGo p l i < i + l.length ∧ p (l.getD (idxGo p l i - i).toNat z) = true)
  | [], i => .inl rfl
  | x :: xs, i => by
    unfold idxGo
    by_cases h : p x = true
    · rw [if_pos h]; right
      refine ⟨Int.le_refl _, by simp only [List.length_cons]; omega, ?_⟩
      simpa using h
    · rw [if_neg h]
      rcases idxGo_in p z xs (i + 1) with h2 | ⟨h2, h3, h4⟩
      · exact .inl h2
      · right
        refine ⟨by omega, by simp only [List.length_cons]; omega, ?_⟩
        rw [show (idxGo p xs (i + 1) - (i : Int)).toNat = (idxGo p xs (i + 1) - ((i + 1 : Nat) : Int)).toNat + 1 from by omega]
        simpa using h4
theorem find_lt (b : List S45) (s : ByteArray) : findL b s < b.length := by
  rcases idxGo_in (nameB s) z45 b 0 with h | ⟨_, h, _⟩
  · show idxGo (nameB s) b 0 < _; omega
  · show idxGo (nameB s) b 0 < _; omega
theorem find_name {b : List S45} {s : ByteArray} (h0 : 0 ≤ findL b s) : (rd_T45 b (findL b s)).f0.toList = s.toList := by
  rcases idxGo_in (nameB s) z45 b 0 with h | ⟨_, _, h⟩
  · have : findL b s = -1 := h
    omega
  · have h2 : nameB s (rd_T45 b (findL b s)) = true := by unfold rd_T45 findL idxL; simpa using h
    simpa [nameB] using h2

def usedN (x : S45) : List ByteArray := (if oneB x.f1 || twoB x.f1 then [x.f2] else []) ++ (if twoB x.f1 then [x.f3] else [])
def usesL (b : List S45) (x : S45) : List Int := (usedN x).map (findL b)
theorem iused_ev (x : S45) : Ev (fun k => impl_Line_used.f k [x]) (usedN x) := by
  unfold impl_Line_used.f
  refine Ev.pos (by simp) (Ev.bind (iuses_ev _) ?_)
  have e : rd_T45 [x] 0 = x := rfl
  simp only [e, Option.bind_some, usedN]
  by_cases h : (oneB x.f1 || twoB x.f1) = true
  · refine Ev.pos h (Ev.pos (by simp) ?_)
    simp only [h, if_true]
    by_cases h2 : twoB x.f1 = true
    · refine Ev.pos h2 (Ev.pos (by simp) ?_)
      simp only [h2, if_true]; exact Ev.now _
    · exact Ev.neg h2 (Ev.to (Ev.now _) (by rw [if_neg h2]; rfl))
  · refine Ev.neg h ?_
    have h2 : ¬ twoB x.f1 = true := fun h2 => h (by simp [h2])
    exact Ev.neg h2 (Ev.to (Ev.now _) (by rw [if_neg h, if_neg h2]; rfl))
theorem suses_j1 (b : List S45) (hb : b.length ≤ 140737488355327) (x : S45) (y : List Int) (hy : y.length ≤ 1) : Ev (fun k => spec_l07Uses.j1 k b [x] y) (y ++ (if twoB x.f1 then [findL b x.f3] else [])) := by
  refine Ev.step (fun k => rfl) ?_
  have e : rd_T45 [x] 0 = x := rfl
  simp only [spec_l07Uses.j1]
  refine Ev.pos (by simp) ?_
  simp only [e, l02Two_eq, Option.bind_some]
  by_cases h2 : twoB x.f1 = true
  · refine Ev.pos h2 (Ev.bind (sfind_ev b _ hb) (Ev.pos (by omega) ?_))
    rw [if_pos h2]; exact Ev.now _
  · exact Ev.neg h2 (Ev.to (Ev.now _) (by rw [if_neg h2]; simp))
theorem suses_j0 (b : List S45) (hb : b.length ≤ 140737488355327) (x : S45) (c : Bool) : Ev (fun k => spec_l07Uses.j0 k b [x] [] c) ((if c then [findL b x.f2] else []) ++ (if twoB x.f1 then [findL b x.f3] else [])) := by
  refine Ev.step (fun k => rfl) ?_
  have e : rd_T45 [x] 0 = x := rfl
  by_cases hc : c = true
  · refine Ev.pos hc (Ev.pos (by simp) ?_)
    simp only [e]
    refine Ev.bind (sfind_ev b _ hb) (Ev.pos (by simp) ?_)
    rw [if_pos hc]
    exact suses_j1 b hb x _ (by simp)
  · refine Ev.neg hc ?_
    rw [if_neg hc]
    exact suses_j1 b hb x _ (by simp)
theorem suses_ev (b : List S45) (hb : b.length ≤ 140737488355327) (i : Int) (h0 : 0 ≤ i) (h1 : i < b.length) : Ev (fun k => spec_l07Uses.f k b i) (usesL b (rd_T45 b i)) := by
  unfold spec_l07Uses.f
  refine Ev.pos h0 (Ev.pos h1 ?_)
  generalize rd_T45 b i = x
  have e : rd_T45 [x] 0 = x := rfl
  simp only [Option.bind_some, e, l02One_eq, l02Two_eq]
  refine Ev.pos (by simp) ?_
  have hu : usesL b x = (if (oneB x.f1 || twoB x.f1) then [findL b x.f2] else []) ++ (if twoB x.f1 then [findL b x.f3] else []) := by
    unfold usesL usedN
    cases oneB x.f1 <;> cases twoB x.f1 <;> rfl
  rw [hu]
  by_cases h : oneB x.f1 = true
  · refine Ev.pos h (Ev.to (suses_j0 b hb x true) ?_)
    simp [h]
  · refine Ev.neg h (Ev.to (suses_j0 b hb x (twoB x.f1)) ?_)
    simp [h]
theorem sline_ev (x : S45) (h : x.f0.size ≤ 140737488351232) : Ev (fun k => spec_l07Line.f k [x]) (lineB (nmB x.f0) x) := by
  unfold spec_l07Line.f
  refine Ev.pos (by simp) ?_
  have e : rd_T45 [x] 0 = x := rfl
  simp only [e]
  exact Ev.bind (sname_ev _ h) (Ev.now _)

/-! ### each line by itself -/
def nonneg (l : List Int) : Bool := l.all (fun j => decide (0 ≤ j))
def condS (b : List S45) (i : Int) : Bool := lineB (nmB (rd_T45 b i).f0) (rd_T45 b i) && (findL b (rd_T45 b i).f0 == i) && nonneg (usesL b (rd_T45 b i))
def condI (b : List S45) (i : Int) : Bool := nmB (rd_T45 b i).f0 && (findL b (rd_T45 b i).f0 == i) && !(decide ((rd_T45 b i).f1 < 1)) && !(decide ((rd_T45 b i).f1 > 12)) && tailB (rd_T45 b i) && ((oneB (rd_T45 b i).f1 || twoB (rd_T45 b i).f1) || emptyB (rd_T45 b i).f2) && (twoB (rd_T45 b i).f1 || emptyB (rd_T45 b i).f3) && nonneg (usesL b (rd_T45 b i))
def Sz (b : List S45) : Prop := ∀ i : Int, 0 ≤ i → i < b.length → (rd_T45 b i).f0.size ≤ 140737488351232

theorem rd_mid {d : List Int} {x : Int} {r : List Int} (n : Nat) (h : n = d.length) : rd (d ++ x :: r) (n : Int) = x := by
  subst h; simp [rd, List.getD]
theorem sok_l1 (b : List S45) (i : Int) (v : Bool) (r : List Int) : ∀ d : List Int, d.length + r.length ≤ 1000 → (nonneg r = true → Ev (fun k => spec_l07Ok.l0 k b (wrap64 (i + 1))) v) → Ev (fun k => spec_l07Ok.l1 k b i (d ++ r) (d.length : Int)) (nonneg r && v) := by
  induction r with
  | nil =>
    intro d h hk
    refine Ev.step (fun k => rfl) ?_
    refine Ev.neg (by simp) (Ev.to (hk rfl) ?_)
    simp [nonneg]
  | cons x r ih =>
    intro d h hk
    simp only [List.length_cons] at h
    refine Ev.step (fun k => rfl) ?_
    refine Ev.pos (by simp; omega) (Ev.pos (by omega) ?_)
    rw [rd_mid _ rfl]
    by_cases hx : x < 0
    · refine Ev.pos hx (Ev.to (Ev.now _) ?_)
      have : ¬ 0 ≤ x := by omega
      simp [nonneg, this]
    · refine Ev.neg hx ?_
      have hx2 : 0 ≤ x := by omega
      have e : nonneg (x :: r) = nonneg r := by simp [nonneg, hx2]
      rw [e] at hk ⊢
      have h2 := ih (d ++ [x]) (by simp; omega) hk
      rw [wrap_up (by omega) (by omega)]
      simp only [List.length_append, List.length_cons, List.length_nil, List.append_assoc, List.cons_append, List.nil_append, Nat.zero_add] at h2
      exact h2
theorem usedN_len (x : S45) : (usedN x).length ≤ 2 := by
  unfold usedN
  cases oneB x.f1 <;> cases twoB x.f1 <;> simp
theorem usesL_len (b : List S45) (x : S45) : (usesL b x).length ≤ 2 := by
  unfold usesL; rw [List.length_map]; exact usedN_len x
theorem sok_bad (b : List S45) (i : Int) (c : Bool) (hc : c = true) : Ev (fun k => spec_l07Ok.j1 k b i c) false :=
  Ev.step (fun k => rfl) (Ev.pos hc (Ev.now _))
theorem sok_l0 (b : List S45) (hb : b.length ≤ 1000) (hz : Sz b) (v : Bool) (d : Nat) : ∀ i : Int, 0 ≤ i → i + d = b.length → (allN (condS b) d i = true → Ev (fun k => spec_l07Ok.l2 k b 0) v) → Ev (fun k => spec_l07Ok.l0 k b i) (allN (condS b) d i && v) := by
  induction d with
  | zero =>
    intro i h0 h1 hv
    refine Ev.step (fun k => rfl) ?_
    refine Ev.neg (by omega) (Ev.to (hv rfl) ?_)
    simp [allN]
  | succ d ih =>
    intro i h0 h1 hv
    refine Ev.step (fun k => rfl) ?_
    refine Ev.pos (by omega) (Ev.pos h0 (Ev.bind (sline_ev _ (hz i h0 (by omega))) ?_))
    simp only [allN, condS] at hv ⊢
    by_cases c1 : lineB (nmB (rd_T45 b i).f0) (rd_T45 b i) = true
    · refine Ev.pos c1 (Ev.bind (sfind_ev b _ (by omega)) (Ev.step (fun k => rfl) ?_))
      rw [c1] at hv ⊢
      by_cases c2 : findL b (rd_T45 b i).f0 = i
      · refine Ev.neg (by simp [c2]) (Ev.bind (suses_ev b (by omega) i h0 (by omega)) ?_)
        have c3 : (findL b (rd_T45 b i).f0 == i) = true := by simpa using c2
        rw [c3] at hv ⊢
        have h2 := sok_l1 b i (allN (condS b) d (i + 1) && v) (usesL b (rd_T45 b i)) [] (by have := usesL_len b (rd_T45 b i); simp; omega) (fun hn => by
          rw [wrap_up h0 (by omega)]
          exact ih (i + 1) (by omega) (by omega) (fun ha => hv (by rw [hn, ha]; rfl)))
        refine Ev.to h2 ?_
        simp [Bool.and_assoc]
      · refine Ev.pos (by simpa using c2) (Ev.to (Ev.now _) ?_)
        have c3 : (findL b (rd_T45 b i).f0 == i) = false := by simpa using c2
        rw [c3]; simp
    · refine Ev.neg c1 (Ev.to (sok_bad b i true rfl) ?_)
      simp [c1]

theorem iok_l1 (b : List S45) (i : Int) (v : Bool) (n : Int) (hk : Ev (fun k => impl_linesOk.l0 k b b n (wrap64 (i + 1))) v) (r : List ByteArray) : ∀ d : List ByteArray, d.length + r.length ≤ 1000 → Ev (fun k => impl_linesOk.l1 k b b n i (d ++ r) ((d ++ r).length : Int) (d.length : Int)) (nonneg (r.map (findL b)) && v) := by
  induction r with
  | nil =>
    intro d h
    refine Ev.step (fun k => rfl) ?_
    refine Ev.neg (by simp) (Ev.to hk ?_)
    simp [nonneg]
  | cons x r ih =>
    intro d h
    simp only [List.length_cons] at h
    refine Ev.step (fun k => rfl) ?_
    refine Ev.pos (by simp; omega) (Ev.pos (by omega) (Ev.pos (by simp; omega) ?_))
    rw [rdB_mid _ rfl]
    simp only [impl_lineOf.f, Option.bind_some]
    by_cases hx : findL b x < 0
    · refine Ev.pos hx (Ev.to (Ev.now _) ?_)
      have : ¬ 0 ≤ findL b x := by omega
      simp [nonneg, this]
    · refine Ev.neg hx ?_
      have hx2 : 0 ≤ findL b x := by omega
      have e : nonneg ((x :: r).map (findL b)) = nonneg (r.map (findL b)) := by simp [nonneg, hx2]
      rw [e]
      have h2 := ih (d ++ [x]) (by simp; omega)
      rw [wrap_up (by omega) (by omega)]
      simp only [List.length_append, List.length_cons, List.length_nil, List.append_assoc, List.cons_append, List.nil_append, Nat.zero_add] at h2 ⊢
      exact h2
theorem iok_j2 (b : List S45) (i : Int) (v : Bool) (n : Int) (hk : Ev (fun k => impl_linesOk.l0 k b b n (wrap64 (i + 1))) v) (x : S45) (c : Bool) : Ev (fun k => impl_linesOk.j2 k b b n i c x.f0 x.f1 x.f2 x.f3 x.f4 x.f5) (!c && (nonneg (usesL b x) && v)) := by
  refine Ev.step (fun k => rfl) ?_
  by_cases hc : c = true
  · exact Ev.pos hc (Ev.to (Ev.now _) (by rw [hc]; rfl))
  · refine Ev.neg hc (Ev.bind (iused_ev x) ?_)
    rw [Bool.eq_false_iff.mpr hc]
    refine Ev.to (iok_l1 b i v n hk (usedN x) [] (by have := usedN_len x; simp; omega)) ?_
    simp [usesL]
theorem iok_j1 (b : List S45) (i : Int) (v : Bool) (n : Int) (hk : Ev (fun k => impl_linesOk.l0 k b b n (wrap64 (i + 1))) v) (x : S45) (A B c : Bool) : Ev (fun k => impl_linesOk.j1 k b A B b n i c x.f0 x.f1 x.f2 x.f3 x.f4 x.f5) (!c && ((A || emptyB x.f2) && ((B || emptyB x.f3) && (nonneg (usesL b x) && v)))) := by
  refine Ev.step (fun k => rfl) ?_
  have he : ∀ s : ByteArray, (s.toList != ([] : List UInt8)) = !emptyB s := by
    intro s; unfold emptyB
    by_cases h : s.toList = ([] : List UInt8)
    · simp [h]
    · simp [h]
  by_cases hc : c = true
  · exact Ev.pos hc (Ev.to (Ev.now _) (by rw [hc]; rfl))
  refine Ev.neg hc ?_
  obtain rfl : c = false := by simpa using hc
  simp only [he]
  by_cases hA : A = true
  · refine Ev.pos hA ?_
    by_cases hB : B = true
    · exact Ev.pos hB (Ev.to (iok_j2 b i v n hk x false) (by simp [hA, hB]))
    · exact Ev.neg hB (Ev.to (iok_j2 b i v n hk x _) (by simp [hA, hB]))
  refine Ev.neg hA ?_
  by_cases h2 : x.f2.toList = ([] : List UInt8)
  · refine Ev.pos h2 ?_
    have h3 : emptyB x.f2 = true := decide_eq_true h2
    by_cases hB : B = true
    · exact Ev.pos hB (Ev.to (iok_j2 b i v n hk x false) (by simp [h3, hB]))
    · exact Ev.neg hB (Ev.to (iok_j2 b i v n hk x _) (by simp [h3, hB]))
  · have h3 : emptyB x.f2 = false := decide_eq_false h2
    exact Ev.neg h2 (Ev.to (iok_j2 b i v n hk x true) (by simp [h3, hA]))
theorem iok_l0 (b : List S45) (hb : b.length ≤ 1000) (hz : Sz b) (d : Nat) : ∀ i : Int, 0 ≤ i → i + d = b.length → Ev (fun k => impl_linesOk.l0 k b b (b.length : Int) i) (allN (condI b) d i) := by
  induction d with
  | zero =>
    intro i h0 h1
    refine Ev.step (fun k => rfl) ?_
    exact Ev.neg (by omega) (Ev.now _)
  | succ d ih =>
    intro i h0 h1
    have hk := ih (i + 1) (by omega) (by omega)
    rw [← wrap_up h0 (by omega)] at hk
    refine Ev.step (fun k => rfl) ?_
    refine Ev.pos (by omega) (Ev.pos h0 (Ev.pos (by omega) (Ev.bind (iuses_ev _) (Ev.bind (iname_ev _ (hz i h0 (by omega))) ?_))))
    simp only [allN, condI]
    rw [← wrap_up h0 (by omega)]
    by_cases c1 : nmB (rd_T45 b i).f0 = true
    · refine Ev.pos c1 ?_
      simp only [impl_lineOf.f, Option.bind_some]
      by_cases c2 : findL b (rd_T45 b i).f0 = i
      · refine Ev.pos c2 ?_
        have c3 : (findL b (rd_T45 b i).f0 == i) = true := by simpa using c2
        by_cases c4 : (rd_T45 b i).f1 < 1
        · exact Ev.pos c4 (Ev.to (iok_j1 b i _ _ hk _ _ _ true) (by simp [c4]))
        · refine Ev.neg c4 ?_
          by_cases c5 : (rd_T45 b i).f1 > 12
          · refine Ev.pos c5 (Ev.to (iok_j1 b i _ _ hk _ _ _ true) ?_)
            have c6 : decide ((rd_T45 b i).f1 > 12) = true := decide_eq_true c5
            rw [c6]; simp
          · refine Ev.neg c5 ?_
            rw [ratio_eq]
            simp only [Option.bind_some]
            refine Ev.to (iok_j1 b i _ _ hk _ _ _ _) ?_
            have c6 : decide ((rd_T45 b i).f1 > 12) = false := decide_eq_false c5
            have c7 : decide ((rd_T45 b i).f1 < 1) = false := decide_eq_false c4
            rw [c1, c3, c6, c7]
            simp [Bool.and_assoc]
      · refine Ev.neg c2 (Ev.to (iok_j1 b i _ _ hk _ _ _ true) ?_)
        have c3 : (findL b (rd_T45 b i).f0 == i) = false := by simpa using c2
        rw [c3]; simp
    · refine Ev.neg c1 (Ev.to (iok_j1 b i _ _ hk _ _ _ true) ?_)
      simp [c1]
theorem uses_two {b : List S45} {x : S45} (h : twoB x.f1 = true) : findL b x.f3 ∈ usesL b x := by
  unfold usesL usedN; simp [h]
theorem uses_one {b : List S45} {x : S45} (h : (oneB x.f1 || twoB x.f1) = true) : findL b x.f2 ∈ usesL b x := by
  unfold usesL usedN; simp [h]
theorem nonneg_mem {l : List Int} (h : nonneg l = true) {j : Int} (hj : j ∈ l) : 0 ≤ j := by
  simpa using List.all_eq_true.1 h j hj
theorem conds_eq (b : List S45) (hb : b.length ≤ 1000) : allN (condS b) b.length 0 = allN (condI b) b.length 0 := by
  apply Bool.eq_iff_iff.2
  constructor
  · intro h
    refine allN_of fun j h0 h1 => ?_
    have hj := allN_at h j h0 h1
    simp only [condS, Bool.and_eq_true] at hj
    obtain ⟨⟨h2, h3⟩, h4⟩ := hj
    unfold condI
    generalize rd_T45 b j = x at *
    unfold lineB at h2
    rw [h3, h4]
    split at h2
    · rename_i hn
      split at h2
      · simp at h2
      · rename_i g1
        split at h2
        · simp at h2
        · rename_i g2
          split at h2
          · simp at h2
          · rename_i g3
            split at h2
            · simp at h2
            · rename_i g4
              have g5 : ¬ x.f1 > 12 := g2
              rw [h2, hn, decide_eq_false g1, decide_eq_false g5]
              revert g3 g4
              cases (oneB x.f1 || twoB x.f1) <;> cases twoB x.f1 <;> cases emptyB x.f2 <;> cases emptyB x.f3 <;> simp
    · simp at h2
  · intro h
    have hnm : ∀ s : ByteArray, 0 ≤ findL b s → emptyB s = false := by
      intro s hs
      have h1 := find_name hs
      have h2 := allN_at h (findL b s) hs (by have := find_lt b s; omega)
      simp only [condI, Bool.and_eq_true] at h2
      have h3 := h2.1.1.1.1.1.1.1
      refine decide_eq_false fun e => ?_
      rw [e] at h1
      have h4 := (toList_nil _).1 h1
      simp only [nmB, Bool.and_eq_true, decide_eq_true_eq] at h3
      omega
    refine allN_of fun j h0 h1 => ?_
    have hj := allN_at h j h0 h1
    simp only [condI, Bool.and_eq_true] at hj
    obtain ⟨⟨⟨⟨⟨⟨⟨h2, h3⟩, h4⟩, h5⟩, h6⟩, h7⟩, h8⟩, h9⟩ := hj
    unfold condS
    generalize rd_T45 b j = x at *
    rw [h3, h9]
    have h5' : ¬ (12 < x.f1) := by simpa using h5
    have h4' : ¬ (x.f1 < 1) := by simpa using h4
    unfold lineB
    rw [if_pos h2, if_neg h4', if_neg h5', h6]
    have e2 : (oneB x.f1 || twoB x.f1) = true → emptyB x.f2 = false := fun g => hnm _ (nonneg_mem h9 (uses_one g))
    have e3 : twoB x.f1 = true → emptyB x.f3 = false := fun g => hnm _ (nonneg_mem h9 (uses_two g))
    revert e2 e3 h7 h8
    cases (oneB x.f1 || twoB x.f1) <;> cases twoB x.f1 <;> cases emptyB x.f2 <;> cases emptyB x.f3 <;> simp

/-! ### what is reached from a line by one use or more -/
inductive Rch (b : List S45) (s : Int) : Int → Prop
  | base {j : Int} : j ∈ usesL b (rd_T45 b s) → Rch b s j
  | step {i j : Int} : Rch b s i → j ∈ usesL b (rd_T45 b i) → Rch b s j
def In (b : List S45) (i : Int) : Prop := 0 ≤ i ∧ i < b.length
def Good (b : List S45) : Prop := ∀ i, In b i → ∀ j, j ∈ usesL b (rd_T45 b i) → In b j
theorem Rch.in_ {b : List S45} {s j : Int} (hg : Good b) (hs : In b s) (h : Rch b s j) : In b j := by
  induction h with
  | base h => exact hg s hs _ h
  | step _ h2 ih => exact hg _ ih _ h2
def Mk (m : List Bool) (i : Int) : Prop := rdOf false m i = true
def fls : List Bool → Nat
  | [] => 0
  | x :: r => (if x then 0 else 1) + fls r
theorem fls_set : ∀ (m : List Bool) (n : Nat), n < m.length → m.getD n false = false → fls (m.set n true) + 1 = fls m
  | [], n, h, _ => absurd h (by simp)
  | x :: r, 0, h, e => by
    obtain rfl : x = false := by simpa using e
    simp [fls]; omega
  | x :: r, n + 1, h, e => by
    have := fls_set r n (by simpa using h) (by simpa using e)
    simp only [List.set_cons_succ, fls]; omega
theorem fls_rep : ∀ n : Nat, fls (List.replicate n false) = n
  | 0 => rfl
  | n + 1 => by simp only [List.replicate_succ, fls, fls_rep n]; simp; omega
theorem Mk_set {m : List Bool} {i j : Int} (h0 : 0 ≤ i) (h1 : i < m.length) (hj : 0 ≤ j) : Mk (m.set i.toNat true) j ↔ j = i ∨ Mk m j := by
  unfold Mk rdOf
  rw [List.getD_eq_getElem?_getD, List.getD_eq_getElem?_getD, List.getElem?_set]
  by_cases e : i.toNat = j.toNat
  · have e2 : j = i := by omega
    subst e2
    rw [if_pos rfl, if_pos (by omega)]
    simp
  · rw [if_neg e]
    have e2 : ¬ j = i := fun h => e (by rw [h])
    simp [e2]
theorem Mk_rep (n : Nat) (j : Int) : ¬ Mk (List.replicate n false) j := by
  unfold Mk rdOf
  rw [List.getD_eq_getElem?_getD, List.getElem?_replicate]
  split <;> simp

theorem reach_of {b : List S45} {s : Int} (hg : Good b) (hs : In b s) {m : List Bool} (h1 : ∀ j, j ∈ usesL b (rd_T45 b s) → Mk m j) (h2 : ∀ i, In b i → Mk m i → ∀ j, j ∈ usesL b (rd_T45 b i) → Mk m j) {j : Int} (h : Rch b s j) : Mk m j := by
  induction h with
  | base h => exact h1 _ h
  | step h3 h4 ih => exact h2 _ (h3.in_ hg hs) ih _ h4

theorem sneeds_l0 (b : List S45) (hb : b.length ≤ 1000) (hg : Good b) (s : Int) (hs : In b s) (n : Nat) (hn : n ≤ 5000) : ∀ (m : List Bool) (todo : List Int), todo.length + 3 * fls m ≤ n → m.length = b.length →
    (∀ j, 0 ≤ j → Mk m j → Rch b s j) → (∀ t, t ∈ todo → Rch b s t) → (∀ j, j ∈ usesL b (rd_T45 b s) → Mk m j ∨ j ∈ todo) → (∀ i, In b i → Mk m i → ∀ j, j ∈ usesL b (rd_T45 b i) → Mk m j ∨ j ∈ todo) →
    ∃ m', Ev (fun k => spec_l07Needs.l0 k b s m todo) (m', !(rdOf false m' s)) ∧ m'.length = b.length ∧ (∀ j, 0 ≤ j → (Mk m' j ↔ Rch b s j)) := by
  induction n using Nat.strongRecOn with
  | _ n ih =>
    intro m todo hM hl h1 h2 h3 h4
    cases todo with
    | nil =>
      refine ⟨m, Ev.step (fun k => rfl) ?_, hl, fun j0 hj0 => ⟨fun h => h1 j0 hj0 h, fun h => reach_of hg hs (fun j hj => (h3 j hj).resolve_right (by simp)) (fun i hi hm j hj => (h4 i hi hm j hj).resolve_right (by simp)) h⟩⟩
      simp only [spec_l07Needs.l0]
      refine Ev.neg (by simp) (Ev.pos hs.1 (Ev.pos (by rw [hl]; exact hs.2) (Ev.now _)))
    | cons t r =>
      have ht := (h2 t (by simp)).in_ hg hs
      have hr : rd (t :: r) 0 = t := rfl
      have hd : (t :: r).drop (1 : Int).toNat = r := rfl
      simp only [List.length_cons] at hM
      by_cases hm : rdOf false m t = true
      · obtain ⟨m', e, hf⟩ := ih (n - 1) (by omega) (by omega) m r (by omega) hl h1 (fun x hx => h2 x (by simp [hx]))
          (fun j hj => (h3 j hj).elim .inl fun h => by
            rcases List.mem_cons.1 h with h | h
            · subst h; exact .inl hm
            · exact .inr h)
          (fun i hi hmi j hj => (h4 i hi hmi j hj).elim .inl fun h => by
            rcases List.mem_cons.1 h with h | h
            · subst h; exact .inl hm
            · exact .inr h)
        refine ⟨m', Ev.step (fun k => rfl) ?_, hf⟩
        simp only [spec_l07Needs.l0, hr, hd, Option.bind_some]
        exact Ev.pos (by simp) (Ev.pos (by simp only [List.length_cons]; omega) (Ev.pos (by simp; omega) (Ev.neg (by have := ht.1; omega) (Ev.pos ht.1 (Ev.pos (by rw [hl]; exact ht.2) (Ev.pos hm e))))))
      · have ht0 := ht.1
        have ht1 := ht.2
        have hs1 : ∀ j, 0 ≤ j → (Mk (m.set t.toNat true) j ↔ j = t ∨ Mk m j) := fun j hj => Mk_set ht0 (by rw [hl]; exact ht1) hj
        have hf := fls_set m t.toNat (by omega) (Bool.eq_false_iff.mpr hm)
        have hu := usesL_len b (rd_T45 b t)
        obtain ⟨m', e, hq⟩ := ih (n - 1) (by omega) (by omega) (m.set t.toNat true) (r ++ usesL b (rd_T45 b t)) (by rw [List.length_append]; omega) (by rw [List.length_set]; exact hl)
          (fun j hj h => ((hs1 j hj).1 h).elim (fun e => e ▸ h2 t (by simp)) (h1 j hj))
          (fun x hx => (List.mem_append.1 hx).elim (fun h => h2 x (by simp [h])) (fun h => .step (h2 t (by simp)) h))
          (fun j hj => by
            have hj0 := (hg s hs j hj).1
            rcases h3 j hj with h | h
            · exact .inl ((hs1 j hj0).2 (.inr h))
            · rcases List.mem_cons.1 h with h | h
              · exact .inl ((hs1 j hj0).2 (.inl h))
              · exact .inr (List.mem_append.2 (.inl h)))
          (fun i hi hmi j hj => by
            have hj0 := (hg i hi j hj).1
            rcases (hs1 i hi.1).1 hmi with h | h
            · subst h; exact .inr (List.mem_append.2 (.inr hj))
            · rcases h4 i hi h j hj with h | h
              · exact .inl ((hs1 j hj0).2 (.inr h))
              · rcases List.mem_cons.1 h with h | h
                · exact .inl ((hs1 j hj0).2 (.inl h))
                · exact .inr (List.mem_append.2 (.inl h)))
        refine ⟨m', Ev.step (fun k => rfl) ?_, hq⟩
        simp only [spec_l07Needs.l0, hr, hd, Option.bind_some]
        exact Ev.pos (by simp) (Ev.pos (by simp only [List.length_cons]; omega) (Ev.pos (by simp; omega) (Ev.neg (by omega) (Ev.pos ht0 (Ev.pos (by rw [hl]; exact ht1) (Ev.neg hm (Ev.bind (suses_ev b (by omega) t ht0 ht1) (Ev.pos (by omega) e))))))))
theorem sneeds_ev (b : List S45) (hb : b.length ≤ 24) (hg : Good b) (s : Int) (hs : In b s) : ∃ m', Ev (fun k => spec_l07Needs.f k b s) (m', !(rdOf false m' s)) ∧ m'.length = b.length ∧ (∀ j, 0 ≤ j → (Mk m' j ↔ Rch b s j)) := by
  have hu := usesL_len b (rd_T45 b s)
  obtain ⟨m', e, h⟩ := sneeds_l0 b (by omega) hg s hs 5000 (by omega) (List.replicate ((b.length : Int)).toNat false) (usesL b (rd_T45 b s)) (by rw [fls_rep]; omega) (by simp) (fun j _ h => absurd h (Mk_rep _ _)) (fun t ht => .base ht) (fun j hj => .inr hj) (fun i _ h => absurd h (Mk_rep _ _))
  refine ⟨m', ?_, h⟩
  unfold spec_l07Needs.f
  exact Ev.pos (by omega) (Ev.pos (by omega) (Ev.bind (suses_ev b (by omega) s hs.1 hs.2) e))

theorem ineeds_l1 (b : List S45) (hb : b.length ≤ 1000) (r : List ByteArray) : ∀ (d : List ByteArray) (m : List Bool) (todo : List Int), d.length + r.length ≤ 1000 → todo.length + fls m ≤ 5000 → m.length = b.length → (∀ x, x ∈ r → In b (findL b x)) →
    ∃ m' todo', (∀ v, Ev (fun k => impl_needs.l0 k b m' todo') v → Ev (fun k => impl_needs.l1 k b m todo (d ++ r) ((d ++ r).length : Int) (d.length : Int)) v) ∧ m'.length = m.length ∧ todo'.length + fls m' = todo.length + fls m ∧
      (∀ j, 0 ≤ j → Mk m j → Mk m' j) ∧ (∀ x, x ∈ r → Mk m' (findL b x)) ∧ (∀ j, 0 ≤ j → Mk m' j → Mk m j ∨ j ∈ r.map (findL b)) ∧ (∀ j, j ∈ todo → j ∈ todo') ∧ (∀ j, j ∈ todo' → j ∈ todo ∨ j ∈ r.map (findL b)) ∧ (∀ j, 0 ≤ j → Mk m' j → Mk m j ∨ j ∈ todo') := by
  induction r with
  | nil =>
    intro d m todo h ht hl hin
    refine ⟨m, todo, fun v hv => ?_, rfl, rfl, fun _ _ h => h, fun x hx => absurd hx (by simp), fun _ _ h => .inl h, fun _ h => h, fun _ h => .inl h, fun _ _ h => .inl h⟩
    refine Ev.step (fun k => rfl) ?_
    exact Ev.neg (by simp) hv
  | cons x r ih =>
    intro d m todo h ht hl hin
    simp only [List.length_cons] at h
    have hx := hin x (by simp)
    have hx0 := hx.1
    have hx1 := hx.2
    by_cases hm : rdOf false m (findL b x) = true
    · obtain ⟨m', todo', e, g1, g2, g3, g4, g5, g6, g7, g8⟩ := ih (d ++ [x]) m todo (by simp; omega) ht hl (fun y hy => hin y (by simp [hy]))
      refine ⟨m', todo', fun v hv => ?_, g1, g2, g3, ?_, fun j hj hk => (g5 j hj hk).imp_right (fun h => by simp [List.map_cons]; simp at h; exact .inr h), g6, fun j hj => (g7 j hj).imp_right (fun h => by simp [List.map_cons]; simp at h; exact .inr h), g8⟩
      · have h2 := e v hv
        refine Ev.step (fun k => rfl) ?_
        simp only [impl_needs.l1, impl_lineOf.f, Option.bind_some]
        rw [rdB_mid _ rfl, wrap_up (by omega) (by omega)]
        simp only [List.length_append, List.length_cons, List.length_nil, List.append_assoc, List.cons_append, List.nil_append, Nat.zero_add] at h2 ⊢
        exact Ev.pos (by omega) (Ev.pos (by omega) (Ev.pos (by omega) (Ev.pos hx0 (Ev.pos (by rw [hl]; exact hx1) (Ev.pos hm h2)))))
      · intro y hy
        rcases List.mem_cons.1 hy with hy | hy
        · subst hy; exact g3 _ hx0 hm
        · exact g4 y hy
    · have hf := fls_set m (findL b x).toNat (by omega) (Bool.eq_false_iff.mpr hm)
      have hs1 : ∀ j, 0 ≤ j → (Mk (m.set (findL b x).toNat true) j ↔ j = findL b x ∨ Mk m j) := fun j hj => Mk_set hx0 (by rw [hl]; exact hx1) hj
      obtain ⟨m', todo', e, g1, g2, g3, g4, g5, g6, g7, g8⟩ := ih (d ++ [x]) (m.set (findL b x).toNat true) (todo ++ [findL b x]) (by simp; omega) (by simp; omega) (by rw [List.length_set]; exact hl) (fun y hy => hin y (by simp [hy]))
      refine ⟨m', todo', fun v hv => ?_, by rw [g1, List.length_set], by rw [g2]; simp; omega, fun j hj hk => g3 j hj ((hs1 j hj).2 (.inr hk)), ?_, ?_, fun j hj => g6 j (by simp [hj]), ?_, ?_⟩
      · have h2 := e v hv
        refine Ev.step (fun k => rfl) ?_
        simp only [impl_needs.l1, impl_lineOf.f, Option.bind_some]
        rw [rdB_mid _ rfl, wrap_up (by omega) (by omega)]
        simp only [List.length_append, List.length_cons, List.length_nil, List.append_assoc, List.cons_append, List.nil_append, Nat.zero_add] at h2 ⊢
        exact Ev.pos (by omega) (Ev.pos (by omega) (Ev.pos (by omega) (Ev.pos hx0 (Ev.pos (by rw [hl]; exact hx1) (Ev.neg hm (Ev.pos (by omega) h2))))))
      · intro y hy
        rcases List.mem_cons.1 hy with hy | hy
        · subst hy; exact g3 _ hx0 ((hs1 _ hx0).2 (.inl rfl))
        · exact g4 y hy
      · intro j hj hk
        rcases g5 j hj hk with h | h
        · rcases (hs1 j hj).1 h with h | h
          · right; rw [h]; simp
          · exact .inl h
        · right; rw [List.map_cons]; exact List.mem_cons_of_mem _ h
      · intro j hj
        rcases g7 j hj with h | h
        · rcases List.mem_append.1 h with h | h
          · exact .inl h
          · right; rw [List.mem_singleton.1 h]; simp
        · right; rw [List.map_cons]; exact List.mem_cons_of_mem _ h
      · intro j hj hk
        rcases g8 j hj hk with h | h
        · rcases (hs1 j hj).1 h with h | h
          · right; rw [h]; exact g6 _ (by simp)
          · exact .inl h
        · exact .inr h
theorem ineeds_l0 (b : List S45) (hb : b.length ≤ 1000) (hg : Good b) (s : Int) (hs : In b s) (n : Nat) (hn : n ≤ 5000) : ∀ (m : List Bool) (todo : List Int), todo.length + fls m ≤ n → m.length = b.length →
    (∀ j, 0 ≤ j → Mk m j → Rch b s j) → (∀ t, t ∈ todo → t = s ∨ Rch b s t) → (∀ i, In b i → i = s ∨ Mk m i → i ∈ todo ∨ ∀ j, j ∈ usesL b (rd_T45 b i) → Mk m j) →
    ∃ m', Ev (fun k => impl_needs.l0 k b m todo) m' ∧ m'.length = b.length ∧ (∀ j, 0 ≤ j → (Mk m' j ↔ Rch b s j)) := by
  induction n using Nat.strongRecOn with
  | _ n ih =>
    intro m todo hM hl h1 h2 h3
    cases todo with
    | nil =>
      refine ⟨m, Ev.step (fun k => rfl) ?_, hl, fun j0 hj0 => ⟨fun h => h1 j0 hj0 h, fun h => reach_of hg hs ((h3 s hs (.inl rfl)).resolve_left (by simp)) (fun i hi hm => (h3 i hi (.inr hm)).resolve_left (by simp)) h⟩⟩
      simp only [impl_needs.l0]
      exact Ev.neg (by simp) (Ev.now _)
    | cons t r =>
      have hts := h2 t (by simp)
      have ht : In b t := hts.elim (fun e => e ▸ hs) (fun h => h.in_ hg hs)
      have hrs : ∀ j, j ∈ usesL b (rd_T45 b t) → Rch b s j := fun j hj => hts.elim (fun e => .base (e ▸ hj)) (fun h => .step h hj)
      have hr : rd (t :: r) 0 = t := rfl
      have hd : (t :: r).drop (1 : Int).toNat = r := rfl
      simp only [List.length_cons] at hM
      have hu := usedN_len (rd_T45 b t)
      obtain ⟨m', todo', e, g1, g2, g3, g4, g5, g6, g7, g8⟩ := ineeds_l1 b hb (usedN (rd_T45 b t)) [] m r (by simp; omega) (by omega) hl (fun x hx => hg t ht _ (List.mem_map.2 ⟨x, hx, rfl⟩))
      have g4' : ∀ j, j ∈ usesL b (rd_T45 b t) → Mk m' j := by
        intro j hj
        obtain ⟨x, hx, rfl⟩ := List.mem_map.1 hj
        exact g4 x hx
      obtain ⟨m2, e2, hl2, hq⟩ := ih (n - 1) (by omega) (by omega) m' todo' (by omega) (by rw [g1]; exact hl)
        (fun j hj h => (g5 j hj h).elim (h1 j hj) (hrs j))
        (fun x hx => (g7 x hx).elim (fun h => h2 x (by simp [h])) (fun h => .inr (hrs x h)))
        (fun i hi hi2 => by
          have key : (i = s ∨ Mk m i) → i ∈ todo' ∨ ∀ j, j ∈ usesL b (rd_T45 b i) → Mk m' j := by
            intro hk
            rcases h3 i hi hk with h | h
            · rcases List.mem_cons.1 h with h | h
              · subst h; exact .inr g4'
              · exact .inl (g6 i h)
            · exact .inr fun j hj => g3 j (hg i hi j hj).1 (h j hj)
          rcases hi2 with h | h
          · exact key (.inl h)
          · rcases g8 i hi.1 h with h | h
            · exact key (.inr h)
            · exact .inl h)
      refine ⟨m2, Ev.step (fun k => rfl) ?_, hl2, hq⟩
      simp only [impl_needs.l0, hr, hd]
      exact Ev.pos (by simp) (Ev.pos (by simp only [List.length_cons]; omega) (Ev.pos ht.1 (Ev.pos ht.2 (Ev.pos (by simp; omega) (Ev.bind (iused_ev _) (e m2 e2))))))
theorem ineeds_ev (b : List S45) (hb : b.length ≤ 24) (hg : Good b) (s : Int) (hs : In b s) : ∃ m', Ev (fun k => impl_needs.f k b s) m' ∧ m'.length = b.length ∧ (∀ j, 0 ≤ j → (Mk m' j ↔ Rch b s j)) := by
  obtain ⟨m', e, h⟩ := ineeds_l0 b (by omega) hg s hs 5000 (by omega) (List.replicate ((b.length : Int)).toNat false) [s] (by rw [fls_rep]; simp; omega) (by simp) (fun j _ h => absurd h (Mk_rep _ _)) (fun t ht => .inl (List.mem_singleton.1 ht)) (fun i _ h => h.elim (fun e => .inl (by simp [e])) (fun h => absurd h (Mk_rep _ _)))
  refine ⟨m', ?_, h⟩
  unfold impl_needs.f
  exact Ev.pos (by omega) (Ev.pos (by omega) e)

/-! ### no line needs itself -/
noncomputable def selfB (b : List S45) (i : Int) : Bool := by
  classical exact decide (Rch b i i)
theorem selfB_iff (b : List S45) (i : Int) : selfB b i = true ↔ Rch b i i := by
  unfold selfB; classical exact decide_eq_true_iff
theorem sok_l2 (b : List S45) (hb : b.length ≤ 24) (hg : Good b) (d : Nat) : ∀ i : Int, 0 ≤ i → i + d = b.length → Ev (fun k => spec_l07Ok.l2 k b i) (allN (fun i => !selfB b i) d i) := by
  induction d with
  | zero =>
    intro i h0 h1
    refine Ev.step (fun k => rfl) ?_
    exact Ev.neg (by omega) (Ev.now _)
  | succ d ih =>
    intro i h0 h1
    obtain ⟨m, e, _, hm0⟩ := sneeds_ev b hb hg i ⟨h0, by omega⟩
    have hm := hm0 i h0
    have hs : rdOf false m i = selfB b i := Bool.eq_iff_iff.2 (hm.trans (selfB_iff b i).symm)
    rw [hs] at e
    refine Ev.step (fun k => rfl) ?_
    refine Ev.pos (by omega) (Ev.bind e ?_)
    simp only [allN]
    by_cases c : selfB b i = true
    · exact Ev.neg (by simp [c]) (Ev.to (Ev.now _) (by simp [c]))
    · refine Ev.pos (by simp [c]) (Ev.to (r := allN (fun i => !selfB b i) d (i + 1)) ?_ (by simp [c]))
      rw [wrap_up h0 (by omega)]
      exact ih (i + 1) (by omega) (by omega)
theorem ivb_l0 (b : List S45) (hb : b.length ≤ 24) (hg : Good b) (d : Nat) : ∀ i : Int, 0 ≤ i → i + d = b.length → Ev (fun k => impl_ValidBook.l0 k b (b.length : Int) i) (allN (fun i => !selfB b i) d i) := by
  induction d with
  | zero =>
    intro i h0 h1
    refine Ev.step (fun k => rfl) ?_
    exact Ev.neg (by omega) (Ev.now _)
  | succ d ih =>
    intro i h0 h1
    obtain ⟨m, e, hl, hm0⟩ := ineeds_ev b hb hg i ⟨h0, by omega⟩
    have hm := hm0 i h0
    have hs : rdOf false m i = selfB b i := Bool.eq_iff_iff.2 (hm.trans (selfB_iff b i).symm)
    refine Ev.step (fun k => rfl) ?_
    refine Ev.pos (by omega) (Ev.bind e (Ev.pos h0 (Ev.pos (by omega) ?_)))
    rw [hs]
    simp only [allN]
    by_cases c : selfB b i = true
    · exact Ev.pos c (Ev.to (Ev.now _) (by simp [c]))
    · refine Ev.neg c (Ev.to (r := allN (fun i => !selfB b i) d (i + 1)) ?_ (by simp [c]))
      rw [wrap_up h0 (by omega)]
      exact ih (i + 1) (by omega) (by omega)
theorem good_of {b : List S45} (h : allN (condS b) b.length 0 = true) : Good b := by
  intro i hi j hj
  have h2 := allN_at h i hi.1 (by have := hi.2; omega)
  simp only [condS, Bool.and_eq_true] at h2
  refine ⟨nonneg_mem h2.2 hj, ?_⟩
  obtain ⟨x, _, rfl⟩ := List.mem_map.1 hj
  exact find_lt b x

noncomputable def validB (b : List S45) : Bool := if b.length ≤ 24 then allN (condS b) b.length 0 && allN (fun i => !selfB b i) b.length 0 else false
theorem sok_ev (b : List S45) (hz : Sz b) : Ev (fun k => spec_l07Ok.f k b) (validB b) := by
  unfold spec_l07Ok.f validB
  by_cases c : (b.length : Int) > 24
  · exact Ev.pos c (Ev.to (Ev.now _) (by rw [if_neg (by omega)]))
  · refine Ev.neg c ?_
    rw [if_pos (by omega)]
    exact sok_l0 b (by omega) hz _ b.length 0 (by omega) (by omega) (fun h => sok_l2 b (by omega) (good_of h) b.length 0 (by omega) (by omega))
theorem ivalid_bad (b : List S45) (c : Bool) (hc : c = true) : Ev (fun k => impl_ValidBook.j0 k b c) false :=
  Ev.step (fun k => rfl) (Ev.pos hc (Ev.now _))
theorem ivalid_ev (b : List S45) (hz : Sz b) : Ev (fun k => impl_ValidBook.f k b) (validB b) := by
  unfold impl_ValidBook.f validB
  by_cases c : (b.length : Int) > 24
  · exact Ev.pos c (Ev.to (ivalid_bad b true rfl) (by rw [if_neg (by omega)]))
  · refine Ev.neg c ?_
    rw [if_pos (by omega)]
    have hl : Ev (fun k => impl_linesOk.f k b) (allN (condS b) b.length 0) := by
      rw [conds_eq b (by omega)]
      exact iok_l0 b (by omega) hz b.length 0 (by omega) (by omega)
    refine Ev.bind hl ?_
    by_cases h : allN (condS b) b.length 0 = true
    · have hg := good_of h
      refine Ev.step (fun k => rfl) (Ev.neg (by simp [h]) ?_)
      rw [h]
      exact ivb_l0 b (by omega) hg b.length 0 (by omega) (by omega)
    · exact Ev.to (ivalid_bad b _ (by simp [h])) (by simp [h])
theorem valid_parts {b : List S45} (h : validB b = true) : b.length ≤ 24 ∧ Good b := by
  unfold validB at h
  by_cases c : b.length ≤ 24
  · rw [if_pos c] at h
    simp only [Bool.and_eq_true] at h
    exact ⟨c, good_of h.1⟩
  · rw [if_neg c] at h; simp at h
end Go.Proofs.Ytenhgmddpkiliaa.Pure

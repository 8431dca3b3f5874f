/- What is kept after a line is written: both answers. Plain Lean over the printed functions. -/
import Derived.Test.YtenhgmddpkiliaaPBx9
import Derived.Test.YtenhgmddpkiliaaPBx11
import Derived.Test.YtenhgmddpkiliaaPBx8
import Derived.Test.YtenhgmddpkiliaaPBx10
import Derived.Test.YtenhgmddpkiliaaPBx3
import Derived.Test.YtenhgmddpkiliaaPureWriteL
import Derived.Test.YtenhgmddpkiliaaPureUsersK
import Derived.Test.YtenhgmddpkiliaaPBform
namespace Go.Proofs.Ytenhgmddpkiliaa.Pure
open Go.RowKit Go.Proofs.Ytenhgmddpkiliaa.PB Go.Proofs.YtenhgmddpkiliaaW.PrintWords Go.Proofs.YtenhgmddpkiliaaW.PrintLast Go.Proofs.YtenhgmddpkiliaaW.PrintMore Go.Proofs.YtenhgmddpkiliaaRP
set_option linter.unusedVariables false
set_option linter.unusedSimpArgs false

theorem rdK_mid (d : List S124) (x : S124) (r : List S124) (n : Nat) (h : n = d.length) : rd_T124 (d ++ x :: r) (n : Int) = x := by
  subst h; simp [rd_T124, List.getD]
theorem rdK_get (l : List S124) (j : Nat) (h : j < l.length) : rd_T124 l (j : Int) = l[j] := by simp [rd_T124, List.getD, h]
theorem rdL_get (l : List S45) (j : Nat) (h : j < l.length) : rd_T45 l (j : Int) = l[j] := by simp [rd_T45, List.getD, h]
theorem allG_iff (p : Nat → Bool) : ∀ n i : Nat, allG p n i = true ↔ ∀ j, i ≤ j → j < i + n → p j = true
  | 0, i => by simp only [allG]; exact ⟨fun _ j h0 h1 => by omega, fun _ => trivial⟩
  | n + 1, i => by
    simp only [allG, Bool.and_eq_true]
    rw [allG_iff p n (i + 1)]
    constructor
    · rintro ⟨h0, h1⟩ j hj hj2
      by_cases e : j = i
      · rw [e]; exact h0
      · exact h1 j (by omega) (by omega)
    · intro h
      exact ⟨h i (by omega) (by omega), fun j h0 h1 => h j (by omega) (by omega)⟩
/-! ### names -/
theorem find_of {b : List S45} {s t : ByteArray} (h : s.toList = t.toList) : findL b s = findL b t := by
  have : nameB s = nameB t := by funext x; simp [nameB, h]
  unfold findL; rw [this]
theorem find_mem {b : List S45} {s : ByteArray} : 0 ≤ findL b s ↔ ∃ y ∈ b, y.f0.toList = s.toList := by
  have h := idxL_any (nameB s) b
  have h2 : (0 ≤ findL b s) ↔ b.any (nameB s) = true := by
    rw [← h]; simp [findL]
  rw [h2, List.any_eq_true]
  constructor
  · rintro ⟨y, hy, e⟩; exact ⟨y, hy, by simpa [nameB] using e⟩
  · rintro ⟨y, hy, e⟩; exact ⟨y, hy, by simpa [nameB] using e⟩
theorem uniq {c : List S45} (h : validB c = true) (i : Nat) (hi : i < c.length) : findL c (c[i]).f0 = (i : Int) := by
  unfold validB at h
  by_cases hl : c.length ≤ 24
  · rw [if_pos hl] at h
    simp only [Bool.and_eq_true] at h
    have h2 := allN_at h.1 (i : Int) (by omega) (by omega)
    simp only [condS, Bool.and_eq_true, beq_iff_eq] at h2
    have h3 := h2.1.2
    rw [rdL_get c i hi] at h3
    exact h3
  · rw [if_neg hl] at h; simp at h
theorem names_any (p : Nat → Bool) (q : ByteArray → Bool) : ∀ (l : List S45) (k : Nat), (namesL p l k).any q = true ↔ ∃ i, ∃ h : i < l.length, p (k + i) = true ∧ q (l[i]).f0 = true
  | [], k => by
    simp only [namesL, List.any_nil]
    constructor
    · intro h; cases h
    · rintro ⟨i, h, _⟩; exact absurd h (by simp)
  | x :: l, k => by
    have ih := names_any p q l (k + 1)
    have up1 : (∃ i, ∃ h : i < (x :: l).length, p (k + i) = true ∧ q ((x :: l)[i]).f0 = true) ↔ (p k = true ∧ q x.f0 = true) ∨ (∃ i, ∃ h : i < l.length, p (k + 1 + i) = true ∧ q (l[i]).f0 = true) := by
      constructor
      · rintro ⟨i, h, h1, h2⟩
        cases i with
        | zero => exact Or.inl ⟨h1, h2⟩
        | succ i => exact Or.inr ⟨i, by simpa using h, by rw [show k + 1 + i = k + (i + 1) from by omega]; exact h1, by simpa using h2⟩
      · rintro (⟨h1, h2⟩ | ⟨i, h, h1, h2⟩)
        · exact ⟨0, by simp, h1, h2⟩
        · exact ⟨i + 1, by simpa using h, by rw [show k + (i + 1) = k + 1 + i from by omega]; exact h1, by simpa using h2⟩
    rw [up1]
    simp only [namesL]
    by_cases c : p k = true
    · rw [if_pos c, List.any_cons, Bool.or_eq_true, ih]
      simp [c]
    · rw [if_neg c, ih]
      simp [c]
/-! ### contains -/
def hasB (ns : List ByteArray) (a : ByteArray) : Bool := ns.any fun n => decide (a.toList = n.toList)
theorem index_ev (a : ByteArray) (r : List ByteArray) : ∀ d : List ByteArray, d.length + r.length ≤ 140737488355327 → ∃ t : Int, Ev (fun k => slices_Index_string_string.l0 k (d ++ r) a ((d ++ r).length : Int) (d.length : Int)) t ∧ decide (t ≥ 0) = hasB r a := by
  induction r with
  | nil =>
    intro d h
    refine ⟨-1, Ev.step (fun k => rfl) ?_, rfl⟩
    simp only [slices_Index_string_string.l0]
    exact Ev.neg (by simp) (Ev.now _)
  | cons x r ih =>
    intro d h
    simp only [List.length_cons] at h
    obtain ⟨t, ht, e⟩ := ih (d ++ [x]) (by simp; omega)
    by_cases c : a.toList = x.toList
    · refine ⟨(d.length : Int), Ev.step (fun k => rfl) ?_, by simp [hasB, c]⟩
      simp only [slices_Index_string_string.l0]
      refine Ev.pos (by simp; omega) (Ev.pos (by omega) (Ev.pos (by simp; omega) ?_))
      rw [rdB_mid _ rfl]
      exact Ev.pos c (Ev.now _)
    · refine ⟨t, Ev.step (fun k => rfl) ?_, by rw [e]; simp [hasB, c]⟩
      simp only [slices_Index_string_string.l0]
      refine Ev.pos (by simp; omega) (Ev.pos (by omega) (Ev.pos (by simp; omega) ?_))
      rw [rdB_mid _ rfl]
      refine Ev.neg c ?_
      rw [wrap_up (by omega) (by omega)]
      simp only [List.length_append, List.length_cons, List.length_nil, List.append_assoc, List.cons_append, List.nil_append, Nat.zero_add] at ht ⊢
      exact ht
theorem contains_ev (ns : List ByteArray) (a : ByteArray) (h : ns.length ≤ 140737488355327) : Ev (fun k => slices_Contains_string_string.f k ns a) (hasB ns a) := by
  unfold slices_Contains_string_string.f slices_Index_string_string.f
  obtain ⟨t, ht, e⟩ := index_ev a ns [] (by simpa using h)
  refine Ev.bind ht (Ev.to (Ev.now _) e)
/-! ### what stays -/
noncomputable def keepB (c : List S45) (s : Int) (y : S124) : Bool := !(findL c y.f0 == s) && !(userB c s (findL c y.f0).toNat)
theorem keep_eq {c : List S45} (hv : validB c = true) {x : ByteArray} (hx : 0 ≤ findL c x) {y : S124} (hy : 0 ≤ findL c y.f0) : (!hasB (usersN c (findL c x) ++ [x]) y.f0) = keepB c (findL c x) y := by
  have key : hasB (usersN c (findL c x) ++ [x]) y.f0 = ((findL c y.f0 == findL c x) || (userB c (findL c x) (findL c y.f0).toNat)) := by
    rw [Bool.eq_iff_iff, Bool.or_eq_true]
    unfold hasB usersN
    rw [List.any_append, Bool.or_eq_true, names_any]
    constructor
    · rintro (⟨i, hi, h1, h2⟩ | h)
      · right
        have e : findL c y.f0 = (i : Int) := by rw [find_of (of_decide_eq_true h2)]; exact uniq hv i hi
        rw [e]; simpa using h1
      · left
        simp only [List.any_cons, List.any_nil, Bool.or_false, decide_eq_true_eq] at h
        rw [find_of h]; simp
    · rintro (h | h)
      · right
        have e : findL c y.f0 = findL c x := by simpa using h
        have h1 := find_name hy
        have h2 := find_name hx
        rw [e, h2] at h1
        simp [h1]
      · left
        have hlt := find_lt c y.f0
        refine ⟨(findL c y.f0).toNat, by omega, by simpa using h, ?_⟩
        have h1 := find_name hy
        rw [show findL c y.f0 = (((findL c y.f0).toNat : Nat) : Int) from by omega, rdL_get c _ (by omega)] at h1
        simp only [decide_eq_true_eq]
        exact h1.symm
  rw [key]; unfold keepB; simp
/-! ### the loops -/
theorem sloop (c : List S45) (s : Int) (hs : In c s) (r : List S124) : ∀ (d acc : List S124), d.length + r.length ≤ 1000 → acc.length ≤ d.length → (∀ y ∈ r, 0 ≤ findL c y.f0) → c.length ≤ 24 →
    Ev (fun k => spec_KeptAfter.l0 k (d ++ r) c s ((List.range c.length).map (userB c s)) acc (d.length : Int)) (c, acc ++ r.filter (keepB c s), 0) := by
  induction r with
  | nil =>
    intro d acc h ha hf hc
    refine Ev.step (fun k => rfl) ?_
    simp only [spec_KeptAfter.l0]
    exact Ev.neg (by simp) (Ev.to (Ev.now _) (by simp))
  | cons y r ih =>
    intro d acc h ha hf hc
    simp only [List.length_cons] at h
    have hy := hf y (by simp)
    have hlt := find_lt c y.f0
    have nxt : ∀ acc' : List S124, acc'.length ≤ d.length + 1 → Ev (fun k => spec_KeptAfter.l0 k (d ++ y :: r) c s ((List.range c.length).map (userB c s)) acc' (wrap64 ((d.length : Int) + 1))) (c, acc' ++ r.filter (keepB c s), 0) := by
      intro acc' h'
      have hq := ih (d ++ [y]) acc' (by simp; omega) (by simp; omega) (fun z hz => hf z (by simp [hz])) hc
      rw [wrap_up (by omega) (by omega)]
      simp only [List.length_append, List.length_cons, List.length_nil, List.append_assoc, List.cons_append, List.nil_append, Nat.zero_add] at hq
      exact hq
    have hu : rdOf false ((List.range c.length).map (userB c s)) (findL c y.f0) = userB c s (findL c y.f0).toNat := by
      have : (findL c y.f0).toNat < c.length := by omega
      simp [rdOf, List.getD, this]
    refine Ev.step (fun k => rfl) ?_
    simp only [spec_KeptAfter.l0]
    refine Ev.pos (by simp; omega) (Ev.pos (by omega) ?_)
    rw [rdK_mid _ _ _ _ rfl]
    refine Ev.bind (sfind_ev c _ (by omega)) ?_
    by_cases c1 : findL c y.f0 = s
    · refine Ev.pos c1 (Ev.to (nxt acc (by omega)) ?_)
      rw [List.filter_cons_of_neg (by simp [keepB, c1])]
    · refine Ev.neg c1 (Ev.pos hy (Ev.pos (by simp; omega) ?_))
      rw [hu]
      by_cases c2 : userB c s (findL c y.f0).toNat = true
      · refine Ev.pos c2 (Ev.to (nxt acc (by omega)) ?_)
        rw [List.filter_cons_of_neg (by simp [keepB, c2])]
      · refine Ev.neg c2 (Ev.pos (by omega) (Ev.to (nxt _ (by simp; omega)) ?_))
        rw [List.filter_cons_of_pos (by simp [keepB, c1, c2])]
        simp
theorem iloop (c : List S45) (ns : List ByteArray) (hn : ns.length ≤ 1000) (r : List S124) : ∀ (d acc : List S124), d.length + r.length ≤ 1000 → acc.length ≤ d.length →
    Ev (fun k => impl_KeptAfter.l0 k c ns acc (d ++ r) ((d ++ r).length : Int) (d.length : Int)) (c, acc ++ r.filter (fun y => !hasB ns y.f0), 0) := by
  induction r with
  | nil =>
    intro d acc h ha
    refine Ev.step (fun k => rfl) ?_
    simp only [impl_KeptAfter.l0]
    exact Ev.neg (by simp) (Ev.to (Ev.now _) (by simp))
  | cons y r ih =>
    intro d acc h ha
    simp only [List.length_cons] at h
    have nxt : ∀ acc' : List S124, acc'.length ≤ d.length + 1 → Ev (fun k => impl_KeptAfter.l0 k c ns acc' (d ++ y :: r) ((d ++ y :: r).length : Int) (wrap64 ((d.length : Int) + 1))) (c, acc' ++ r.filter (fun y => !hasB ns y.f0), 0) := by
      intro acc' h'
      have hq := ih (d ++ [y]) acc' (by simp; omega) (by simp; omega)
      rw [wrap_up (by omega) (by omega)]
      simp only [List.length_append, List.length_cons, List.length_nil, List.append_assoc, List.cons_append, List.nil_append, Nat.zero_add] at hq ⊢
      exact hq
    refine Ev.step (fun k => rfl) ?_
    simp only [impl_KeptAfter.l0]
    refine Ev.pos (by simp; omega) (Ev.pos (by omega) (Ev.pos (by simp; omega) ?_))
    rw [rdK_mid _ _ _ _ rfl]
    refine Ev.bind (contains_ev ns _ (by omega)) ?_
    by_cases c1 : hasB ns y.f0 = true
    · refine Ev.pos c1 (Ev.to (nxt acc (by omega)) ?_)
      rw [List.filter_cons_of_neg (by simp [c1])]
    · refine Ev.neg c1 ?_
      simp only [Option.bind_some]
      refine Ev.pos (by simp; omega) (Ev.to (nxt _ (by simp; omega)) ?_)
      rw [List.filter_cons_of_pos (by simp [c1])]
      simp
/-! ### what has been written -/
theorem write_ok {b : List S45} {x : S45} (hv : validB b = true) (h0 : (writeA b x).2 = 0) : validB (writeA b x).1 = true ∧ 0 ≤ findL (writeA b x).1 x.f0 ∧ ∀ s, 0 ≤ findL b s → 0 ≤ findL (writeA b x).1 s := by
  have hk : ∀ o : List S45, (okA o).2 = 0 → okA o = (o, 0) ∧ validB o = true := by
    intro o h
    unfold okA at h ⊢
    by_cases c : validB o = true
    · rw [if_pos c]; exact ⟨rfl, c⟩
    · rw [if_neg c] at h; exact absurd h (by decide)
  have main : ∃ o, writeA b x = okA o ∧ x ∈ o ∧ ∀ y ∈ b, ∃ z ∈ o, z.f0.toList = y.f0.toList := by
    unfold writeA at h0 ⊢
    rw [if_pos hv] at h0 ⊢
    by_cases c : findL b x.f0 < 0
    · rw [if_pos c] at h0 ⊢
      by_cases c2 : (b.length : Int) ≥ 24
      · rw [if_pos c2] at h0; exact absurd h0 (by decide)
      · rw [if_neg c2]
        exact ⟨b ++ [x], rfl, by simp, fun y hy => ⟨y, by simp [hy], rfl⟩⟩
    · rw [if_neg c]
      have hlt := find_lt b x.f0
      have hn := find_name (b := b) (s := x.f0) (by omega)
      refine ⟨_, rfl, ?_, ?_⟩
      · exact List.mem_set (by omega) x
      · intro y hy
        obtain ⟨i, hi, rfl⟩ := List.getElem_of_mem hy
        by_cases e : i = (findL b x.f0).toNat
        · refine ⟨x, List.mem_set (by omega) x, ?_⟩
          rw [show findL b x.f0 = ((i : Nat) : Int) from by omega, rdL_get b i hi] at hn
          exact hn.symm
        · refine ⟨b[i], ?_, rfl⟩
          rw [List.mem_iff_getElem]
          exact ⟨i, by simpa using hi, by rw [List.getElem_set_ne (by omega)]⟩
  obtain ⟨o, e, h1, h2⟩ := main
  rw [e] at h0
  obtain ⟨e2, hvo⟩ := hk o h0
  rw [e, e2]
  refine ⟨hvo, find_mem.2 ⟨x, h1, rfl⟩, ?_⟩
  intro s hs
  obtain ⟨y, hy, ey⟩ := find_mem.1 hs
  obtain ⟨z, hz, ez⟩ := h2 y hy
  exact find_mem.2 ⟨z, hz, ez.trans ey⟩
/-! ### both answers -/
def formB (b : List S45) (l : List S124) : Bool := allG (formAt b l) l.length 0 && decide (l.length ≤ 200)
theorem form_of {b : List S45} {l : List S124} (h : formB b l = true) : l.length ≤ 200 ∧ ∀ y ∈ l, 0 ≤ findL b y.f0 := by
  unfold formB at h
  simp only [Bool.and_eq_true, decide_eq_true_eq] at h
  refine ⟨h.2, fun y hy => ?_⟩
  obtain ⟨i, hi, rfl⟩ := List.getElem_of_mem hy
  have h2 := (allG_iff _ _ _).1 h.1 i (by omega) (by omega)
  simp only [formAt, Bool.and_eq_true] at h2
  have h3 := h2.1
  rw [rdK_get l i hi] at h3
  simp only [Bool.not_eq_true', decide_eq_false_iff_not] at h3
  omega
theorem form_eq (b : List S45) (l : List S124) : ((decide (l.length ≤ 200) && allG (keptAt b l) l.length 0) && !(l.any fun x => !wideB x.f2)) = formB b l := by
  rw [Bool.eq_iff_iff]
  unfold formB
  simp only [Bool.and_eq_true, decide_eq_true_eq, allG_iff]
  constructor
  · rintro ⟨⟨h0, h1⟩, h2⟩
    refine ⟨fun j hj hj2 => ?_, h0⟩
    have h3 := h1 j hj hj2
    simp only [keptAt, Bool.and_eq_true] at h3
    simp only [formAt, Bool.and_eq_true]
    refine ⟨h3.1, h3.2.1, ?_, h3.2.2⟩
    have h4 : (l.any fun x => !wideB x.f2) = false := by simpa using h2
    rw [List.any_eq_false] at h4
    have h5 := h4 (rd_T124 l (j : Int)) (by rw [rdK_get l j (by omega)]; exact List.getElem_mem _)
    simpa using h5
  · rintro ⟨h1, h0⟩
    refine ⟨⟨h0, fun j hj hj2 => ?_⟩, ?_⟩
    · have h3 := h1 j hj hj2
      simp only [formAt, Bool.and_eq_true] at h3
      simp only [keptAt, Bool.and_eq_true]
      exact ⟨h3.1, h3.2.1, h3.2.2.2⟩
    · rw [Bool.not_eq_true', List.any_eq_false]
      intro y hy
      obtain ⟨i, hi, rfl⟩ := List.getElem_of_mem hy
      have h3 := h1 i (by omega) (by omega)
      simp only [formAt, Bool.and_eq_true] at h3
      rw [rdK_get l i hi] at h3
      simp [h3.2.2.1]
theorem sform_ev (b : List S45) (l : List S124) (hb : b.length ≤ 140737488355327) : Ev (fun k => spec_l07Form.f k b l) (formB b l) := by
  have h : ∃ K, ∀ k, K ≤ k → findsB k b l = true := by
    unfold findsB
    induction l with
    | nil => exact ⟨0, fun _ _ => rfl⟩
    | cons y l ih =>
      obtain ⟨K, hK⟩ := ih
      obtain ⟨K2, hK2⟩ := sfind_ev b y.f0 hb
      refine ⟨max K K2, fun k hk => ?_⟩
      rw [List.all_cons, hK k (by omega)]
      have := hK2 k (by omega)
      simp only at this
      simp [this]
  obtain ⟨K, hK⟩ := h
  refine ⟨K, fun k hk => ?_⟩
  unfold spec_l07Form.f
  exact if_pos (hK k hk)
noncomputable def ansK (b : List S45) (l : List S124) (x : S45) : List S45 × List S124 × Int :=
  if validB b = true then (if formB b l = true then
    (if (writeA b x).2 = 0 then ((writeA b x).1, l.filter (keepB (writeA b x).1 (findL (writeA b x).1 x.f0)), 0) else ([], [], (writeA b x).2))
  else ([], [], 1)) else ([], [], 1)
theorem skept_ev (b : List S45) (l : List S124) (x : S45) (hb : SzM b) (hx : x.f0.size ≤ 140737488351232) : Ev (fun k => spec_KeptAfter.f k b l x.f0 x.f1 x.f2 x.f3 x.f4 x.f5) (ansK b l x) := by
  unfold spec_KeptAfter.f ansK
  refine Ev.bind (sok_ev b hb.sz) ?_
  by_cases c : validB b = true
  · have hl := valid_len c
    rw [if_pos c]
    refine Ev.pos c (Ev.bind (sform_ev b l (by omega)) ?_)
    refine Ev.step (fun k => rfl) ?_
    simp only [spec_KeptAfter.j0]
    by_cases c2 : formB b l = true
    · rw [if_pos c2]
      refine Ev.neg (by simp [c2]) (Ev.bind (s07write_ev b x hb hx c) ?_)
      by_cases c3 : (writeA b x).2 = 0
      · rw [if_pos c3]
        obtain ⟨hv, hx2, hf⟩ := write_ok c c3
        obtain ⟨hl2, hg⟩ := valid_parts hv
        obtain ⟨hl3, hf3⟩ := form_of c2
        have hin : In (writeA b x).1 (findL (writeA b x).1 x.f0) := ⟨hx2, find_lt _ _⟩
        refine Ev.pos c3 (Ev.bind (sfind_ev _ _ (by omega)) (Ev.bind (susers_ev _ hl2 hg _ hin) ?_))
        exact sloop _ _ hin l [] [] (by simp; omega) (by simp) (fun y hy => hf _ (hf3 y hy)) hl2
      · rw [if_neg c3]
        exact Ev.neg c3 (Ev.now _)
    · rw [if_neg c2]
      exact Ev.pos (by simp [c2]) (Ev.now _)
  · rw [if_neg c]
    refine Ev.neg c (Ev.step (fun k => rfl) ?_)
    simp only [spec_KeptAfter.j0]
    exact Ev.pos trivial (Ev.now _)
theorem ikept_j0 (b : List S45) (l : List S124) (x : S45) (hb : SzM b) (hx : x.f0.size ≤ 140737488351232) (c : validB b = true) (t : Bool) (ht : t = !formB b l) : Ev (fun k => impl_KeptAfter.j0 k b l t x.f0 x.f1 x.f2 x.f3 x.f4 x.f5) (ansK b l x) := by
  unfold ansK
  rw [if_pos c]
  refine Ev.step (fun k => rfl) ?_
  simp only [impl_KeptAfter.j0]
  by_cases c2 : formB b l = true
  · rw [if_pos c2]
    refine Ev.neg (by simp [ht, c2]) (Ev.bind (iwrite_ev b x hb hx) ?_)
    by_cases c3 : (writeA b x).2 = 0
    · rw [if_pos c3]
      obtain ⟨hv, hx2, hf⟩ := write_ok c c3
      obtain ⟨hl2, hg⟩ := valid_parts hv
      obtain ⟨hl3, hf3⟩ := form_of c2
      have hin : In (writeA b x).1 (findL (writeA b x).1 x.f0) := ⟨hx2, find_lt _ _⟩
      have hlen := usersN_len (writeA b x).1 (findL (writeA b x).1 x.f0)
      refine Ev.pos c3 (Ev.bind (iusers_ev _ hl2 hg _ hin) ?_)
      simp only [Option.bind_some]
      have hlen2 : (namesL (userB (writeA b x).1 (findL (writeA b x).1 x.f0)) (writeA b x).1 0).length ≤ (writeA b x).1.length := hlen
      refine Ev.pos (by simp only [List.length_cons, List.length_nil]; omega) ?_
      refine Ev.to (iloop (writeA b x).1 (usersN (writeA b x).1 (findL (writeA b x).1 x.f0) ++ [x.f0]) (by simp; omega) l [] [] (by simp; omega) (by simp)) ?_
      rw [List.nil_append]
      congr 2
      refine List.filter_congr (fun y hy => ?_)
      exact keep_eq hv hx2 (hf _ (hf3 y hy))
    · rw [if_neg c3]
      exact Ev.neg c3 (Ev.now _)
  · rw [if_neg c2]
    exact Ev.pos (by simp [ht, c2]) (Ev.now _)
theorem ikept_ev (b : List S45) (l : List S124) (x : S45) (hb : SzM b) (hx : x.f0.size ≤ 140737488351232) : Ev (fun k => impl_KeptAfter.f k b l x.f0 x.f1 x.f2 x.f3 x.f4 x.f5) (ansK b l x) := by
  unfold impl_KeptAfter.f
  refine Ev.bind (ivalid_ev b hb.sz) ?_
  by_cases c : validB b = true
  · refine Ev.pos c ?_
    have hfe := form_eq b l
    simp only [impl_keptOk.f, impl_valuesOk.f, Option.bind_some]
    by_cases c2 : (decide (l.length ≤ 200) && allG (keptAt b l) l.length 0) = true
    · refine Ev.pos c2 (ikept_j0 b l x hb hx c _ ?_)
      rw [c2, Bool.true_and] at hfe
      rw [hfe]
    · refine Ev.neg c2 (ikept_j0 b l x hb hx c _ ?_)
      rw [Bool.eq_false_iff.2 c2, Bool.false_and] at hfe
      rw [← hfe]; rfl
  · refine Ev.neg c (Ev.step (fun k => rfl) ?_)
    simp only [impl_KeptAfter.j0]
    refine Ev.pos trivial (Ev.to (Ev.now _) ?_)
    unfold ansK; rw [if_neg c]
theorem ansK_len (b : List S45) (l : List S124) (x : S45) : (ansK b l x).1.length ≤ 1000 ∧ (ansK b l x).2.1.length ≤ 1000 := by
  unfold ansK
  split
  · rename_i c
    split
    · rename_i c2
      split
      · exact ⟨writeA_len b x, Nat.le_trans (List.length_filter_le _ _) (by have := (form_of c2).1; omega)⟩
      · exact ⟨by simp, by simp⟩
    · exact ⟨by simp, by simp⟩
  · exact ⟨by simp, by simp⟩
end Go.Proofs.Ytenhgmddpkiliaa.Pure

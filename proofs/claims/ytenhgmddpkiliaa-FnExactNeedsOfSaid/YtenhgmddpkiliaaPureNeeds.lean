/- NeedsOf: the program's answer is the reference's. Plain Lean over the printed functions. -/
import Derived.Test.YtenhgmddpkiliaaPBx10
import Derived.Test.YtenhgmddpkiliaaPBx1
import Derived.Test.YtenhgmddpkiliaaPBx9
import Derived.Test.YtenhgmddpkiliaaPBx8
import Derived.Test.YtenhgmddpkiliaaPBx4
import Derived.Test.YtenhgmddpkiliaaPureBookOk
import Derived.Test.YtenhgmddpkiliaaPureMarks
import Derived.Test.YtenhgmddpkiliaaPBneedsOf
import Derived.Test.YtenhgmddpkiliaaDataPB
namespace Go.Proofs.Ytenhgmddpkiliaa.Pure
open Go.RowKit Go.Proofs.Ytenhgmddpkiliaa.PB Go.Proofs.YtenhgmddpkiliaaW.PrintWords Go.Proofs.YtenhgmddpkiliaaW.PrintLast Go.Proofs.YtenhgmddpkiliaaW.PrintMore Go.Proofs.YtenhgmddpkiliaaRP
set_option linter.unusedVariables false
set_option linter.unusedSimpArgs false

/-! ### marks on strings -/
noncomputable def msS : Nat → Int → List ByteArray
  | 0, _ => []
  | n + 1, a => markT a :: msS n (nx a)
def meS : Nat → Int → Int
  | 0, a => a
  | n + 1, a => meS n (nx a)
theorem meS_small (n : Nat) : ∀ a : Int, 0 ≤ a → a + n < 9223372036854775807 → meS n a = a + n := by
  induction n with
  | zero => intro a h k; simp [meS]
  | succ n ih =>
    intro a h k
    have e : nx a = a + 1 := by unfold nx wrap64; omega
    simp only [meS, e]
    rw [ih _ (by omega) (by omega)]
    omega
theorem markStringS_loop (r : List ByteArray) : ∀ (d : List ByteArray) (a : Int), a < 9223372036854775808 → d.length + r.length ≤ 140737488355327 → Ev (fun k => laws_markStringS.l0 k (d ++ r) a (d.length : Int)) (meS r.length a, d ++ msS r.length a) := by
  induction r with
  | nil =>
    intro d a ha h
    refine Ev.step (fun k => rfl) ?_
    simp only [laws_markStringS.l0]
    exact Ev.neg (by simp) (Ev.now _)
  | cons x r ih =>
    intro d a ha h
    simp only [List.length_cons] at h
    have hq := ih (d ++ [markT a]) (nx a) (nx_lt _) (by simp; omega)
    refine Ev.step (fun k => rfl) ?_
    simp only [laws_markStringS.l0]
    refine Ev.pos (by simp; omega) ?_
    refine Ev.bind (markT_ev ha) ?_
    refine Ev.pos (by omega) ?_
    simp only [set_mid]
    rw [wrap_up (i := (d.length : Int)) (by omega) (by omega)]
    simp only [List.length_append, List.length_cons, List.length_nil, List.append_assoc, List.cons_append, List.nil_append, Nat.zero_add] at hq
    exact hq
theorem markStringS_ev (l : List ByteArray) (h : l.length ≤ 140737488355327) : Ev (fun k => laws_markStringS.f k l 1) (meS l.length 1, msS l.length 1) :=
  markStringS_loop l [] 1 (by omega) (by simpa using h)
theorem heldStringS_loop (n : Nat) : ∀ (d : List ByteArray) (a : Int), a < 9223372036854775808 → d.length + n ≤ 140737488355327 → Ev (fun k => laws_heldStringS.l0 k (d ++ msS n a) a (d.length : Int)) (meS n a) := by
  induction n with
  | zero =>
    intro d a ha h
    refine Ev.step (fun k => rfl) ?_
    simp only [laws_heldStringS.l0, msS]
    exact Ev.neg (by simp) (Ev.now _)
  | succ n ih =>
    intro d a ha h
    have hq := ih (d ++ [markT a]) (nx a) (nx_lt _) (by simp; omega)
    refine Ev.step (fun k => rfl) ?_
    simp only [laws_heldStringS.l0, msS]
    refine Ev.pos (by simp; omega) ?_
    refine Ev.pos (by omega) ?_
    refine Ev.bind (markT_ev ha) ?_
    refine Ev.pos (congrArg ByteArray.toList (rdB_mid (z := ByteArray.empty) (d := d) (x := markT a) (r := msS n (nx a)) d.length rfl)) ?_
    rw [wrap_up (i := (d.length : Int)) (by omega) (by omega)]
    simp only [List.length_append, List.length_cons, List.length_nil, List.append_assoc, List.cons_append, List.nil_append, Nat.zero_add] at hq
    exact hq
theorem heldStringS_ev (n : Nat) (h : n ≤ 140737488355327) : Ev (fun k => laws_heldStringS.f k (msS n 1) 1) (meS n 1) :=
  heldStringS_loop n [] 1 (by omega) (by simpa using h)
theorem eqStringS_loop (a : List ByteArray) (hn : a.length ≤ 140737488355327) (d : Nat) : ∀ i : Int, 0 ≤ i → i + d = a.length → Ev (fun k => laws_eqStringS.l0 k a a i) true := by
  induction d with
  | zero =>
    intro i h0 h1
    refine Ev.step (fun k => rfl) ?_
    exact Ev.neg (by omega) (Ev.now _)
  | succ d ih =>
    intro i h0 h1
    refine Ev.step (fun k => rfl) ?_
    refine Ev.pos (by omega) (Ev.pos h0 (Ev.pos (by omega) (Ev.pos rfl ?_)))
    rw [wrap_up h0 (by omega)]
    exact ih (i + 1) (by omega) (by omega)
theorem eqStringS_ev (a : List ByteArray) (hn : a.length ≤ 140737488355327) : Ev (fun k => laws_eqStringS.f k a a) true := by
  unfold laws_eqStringS.f
  exact Ev.pos rfl (eqStringS_loop a hn a.length 0 (by omega) (by omega))

/-! ### names -/
theorem snames_l0 (m : List Bool) (r : List S45) : ∀ (d : List S45) (ys : List ByteArray), d.length + r.length ≤ 1000 → d.length + r.length = m.length → ys.length ≤ d.length → Ev (fun k => spec_l07Names.l0 k (d ++ r) m ys (d.length : Int)) (ys ++ namesL (fun i => m.getD i false) r d.length) := by
  induction r with
  | nil =>
    intro d ys h hm hy
    refine Ev.step (fun k => rfl) ?_
    simp only [spec_l07Names.l0]
    exact Ev.neg (by simp) (Ev.to (Ev.now _) (by simp [namesL]))
  | cons x r ih =>
    intro d ys h hm hy
    simp only [List.length_cons] at h hm
    refine Ev.step (fun k => rfl) ?_
    simp only [spec_l07Names.l0]
    refine Ev.pos (by simp; omega) (Ev.pos (by omega) (Ev.pos (by omega) ?_))
    rw [rd45_mid _ _ _ _ rfl, wrap_up (by omega) (by omega)]
    have e : rdOf false m (d.length : Int) = m.getD d.length false := by simp [rdOf]
    rw [e]
    by_cases c : m.getD d.length false = true
    · refine Ev.pos c (Ev.pos (by omega) ?_)
      have hq := ih (d ++ [x]) (ys ++ [x.f0]) (by simp; omega) (by simp; omega) (by simp; omega)
      simp only [List.length_append, List.length_cons, List.length_nil, List.append_assoc, List.cons_append, List.nil_append, Nat.zero_add] at hq
      refine Ev.to hq ?_
      simp only [namesL, c, if_true]
    · refine Ev.neg c ?_
      have hq := ih (d ++ [x]) ys (by simp; omega) (by simp; omega) (by simp; omega)
      simp only [List.length_append, List.length_cons, List.length_nil, List.append_assoc, List.cons_append, List.nil_append, Nat.zero_add] at hq
      refine Ev.to hq ?_
      simp only [namesL, if_neg c]
theorem snames_ev (b : List S45) (hb : b.length ≤ 1000) (m : List Bool) (hm : m.length = b.length) : Ev (fun k => spec_l07Names.f k b m) (namesL (fun i => m.getD i false) b 0) :=
  snames_l0 m b [] [] (by simpa using hb) (by simpa using hm.symm) (by simp)
theorem namesL_congr {p q : Nat → Bool} (l : List S45) : ∀ k : Nat, (∀ i, k ≤ i → i < k + l.length → p i = q i) → namesL p l k = namesL q l k := by
  induction l with
  | nil => intro k h; rfl
  | cons x l ih =>
    intro k h
    simp only [List.length_cons] at h
    simp only [namesL, h k (by omega) (by omega), ih (k + 1) (fun i h0 h1 => h i (by omega) (by omega))]
noncomputable def reachB (b : List S45) (s : Int) (i : Nat) : Bool := by
  classical exact decide (Rch b s (i : Int))
theorem reachB_of {b : List S45} {s : Int} {m : List Bool} (h : ∀ j, 0 ≤ j → (Mk m j ↔ Rch b s j)) (i : Nat) : m.getD i false = reachB b s i := by
  have e : rdOf false m (i : Int) = m.getD i false := by simp [rdOf]
  rw [← e]
  refine Bool.eq_iff_iff.2 ((h i (by omega)).trans ?_)
  unfold reachB
  classical exact decide_eq_true_iff.symm
theorem valid_parts {b : List S45} (h : validB b = true) : b.length ≤ 24 ∧ Good b := by
  unfold validB at h
  by_cases c : b.length ≤ 24
  · rw [if_pos c] at h
    simp only [Bool.and_eq_true] at h
    exact ⟨c, good_of h.1⟩
  · rw [if_neg c] at h; simp at h
noncomputable def codeA (b : List S45) (a : ByteArray) : Int := if validB b = true then (if findL b a < 0 then 6 else 0) else 1
theorem inames_ev (b : List S45) (hz : Sz b) (a : ByteArray) : Ev (fun k => impl_namesOk.f k b 0 0 [a]) (codeA b a) := by
  unfold impl_namesOk.f codeA
  refine Ev.bind (ivalid_ev b hz) ?_
  by_cases c : validB b = true
  · rw [if_pos c]
    refine Ev.pos c (Ev.step (fun k => rfl) ?_)
    simp only [impl_namesOk.l0]
    refine Ev.pos (by simp) (Ev.pos (by omega) (Ev.pos (by simp) ?_))
    simp only [impl_lineOf.f, Option.bind_some]
    have e : rdOf ByteArray.empty [a] 0 = a := rfl
    rw [e]
    by_cases c2 : findL b a < 0
    · rw [if_pos c2]; exact Ev.pos c2 (Ev.now _)
    · rw [if_neg c2]
      refine Ev.neg c2 (Ev.step (fun k => rfl) ?_)
      rw [wrap_up (by omega) (by omega)]
      simp only [impl_namesOk.l0]
      refine Ev.neg (by simp) ?_
      have hw : impl_within.f 0 0 0 = some true := by unfold impl_within.f; rfl
      refine Ev.congr (f := fun _ => some 0) (fun k => by rw [hw]; rfl) (Ev.now _)
  · rw [if_neg c]; exact Ev.neg c (Ev.now _)
noncomputable def ansN (b : List S45) (a : ByteArray) : List ByteArray × Int := if codeA b a = 0 then (namesL (reachB b (findL b a)) b 0, 0) else ([], codeA b a)
theorem code_zero {b : List S45} {a : ByteArray} (h : codeA b a = 0) : validB b = true ∧ In b (findL b a) := by
  unfold codeA at h
  by_cases c : validB b = true
  · rw [if_pos c] at h
    by_cases c2 : findL b a < 0
    · rw [if_pos c2] at h; omega
    · exact ⟨c, by omega, find_lt b a⟩
  · rw [if_neg c] at h; omega
theorem ineedsOf_ev (b : List S45) (hz : Sz b) (a : ByteArray) : Ev (fun k => impl_NeedsOf.f k b a) (ansN b a) := by
  unfold impl_NeedsOf.f ansN
  refine Ev.bind (inames_ev b hz a) ?_
  by_cases c : codeA b a = 0
  · rw [if_pos c]
    obtain ⟨hv, hi⟩ := code_zero c
    obtain ⟨hl, hg⟩ := valid_parts hv
    obtain ⟨m, e, hm, hr⟩ := ineeds_ev b hl hg _ hi
    refine Ev.pos c (Ev.pos (by omega) (Ev.bind e (Ev.pos hm (Ev.to (Ev.now _) ?_))))
    rw [namesL_congr b 0 (fun i _ _ => reachB_of hr i)]
  · rw [if_neg c]; exact Ev.neg c (Ev.now _)
theorem sasked_ev (b : List S45) (hz : Sz b) (a : ByteArray) : ∃ q : Int × Int, Ev (fun k => spec_l07Asked.f k b a 0) q ∧ q.2 = codeA b a ∧ (codeA b a = 0 → q.1 = findL b a) := by
  unfold spec_l07Asked.f codeA
  by_cases c : validB b = true
  · obtain ⟨hl, _⟩ := valid_parts c
    rw [if_pos c]
    by_cases c2 : findL b a < 0
    · rw [if_pos c2]
      exact ⟨(0, 6), Ev.bind (sok_ev b hz) (Ev.pos c (Ev.bind (sfind_ev b a (by omega)) (Ev.pos c2 (Ev.now _)))), rfl, fun h => absurd h (by omega)⟩
    · rw [if_neg c2]
      have hp : spec_l02Places.f 0 = some true := by unfold spec_l02Places.f; rw [l00In_eq]; rfl
      refine ⟨(findL b a, 0), Ev.bind (sok_ev b hz) (Ev.pos c (Ev.bind (sfind_ev b a (by omega)) (Ev.neg c2 ?_))), rfl, fun _ => rfl⟩
      exact Ev.congr (f := fun _ => some (findL b a, 0)) (fun k => by rw [hp]; rfl) (Ev.now _)
  · rw [if_neg c]
    exact ⟨(0, 1), Ev.bind (sok_ev b hz) (Ev.neg c (Ev.now _)), rfl, fun h => absurd h (by omega)⟩
theorem sneedsOf_ev (b : List S45) (hz : Sz b) (a : ByteArray) : Ev (fun k => spec_NeedsOf.f k b a) (ansN b a) := by
  unfold spec_NeedsOf.f ansN
  obtain ⟨q, hq, h2, h1⟩ := sasked_ev b hz a
  refine Ev.bind hq ?_
  rw [h2]
  by_cases c : codeA b a = 0
  · rw [if_pos c, h1 c]
    obtain ⟨hv, hi⟩ := code_zero c
    obtain ⟨hl, hg⟩ := valid_parts hv
    obtain ⟨m, e, hm, hr⟩ := sneeds_ev b hl hg _ hi
    refine Ev.pos c (Ev.bind e (Ev.bind (snames_ev b (by omega) m hm) (Ev.to (Ev.now _) ?_)))
    rw [namesL_congr b 0 (fun i _ _ => reachB_of hr i)]
  · rw [if_neg c]; exact Ev.neg c (Ev.now _)
theorem namesL_len (p : Nat → Bool) (l : List S45) : ∀ k, (namesL p l k).length ≤ l.length := by
  induction l with
  | nil => intro k; simp [namesL]
  | cons x l ih =>
    intro k
    have := ih (k + 1)
    simp only [namesL]
    split
    · simp only [List.length_cons]; omega
    · simp only [List.length_cons]; omega
theorem ansN_len (b : List S45) (a : ByteArray) : (ansN b a).1.length ≤ 1000 := by
  unfold ansN
  by_cases c : codeA b a = 0
  · rw [if_pos c]
    have := namesL_len (reachB b (findL b a)) b 0
    have := (valid_parts (code_zero c).1).1
    simp only; omega
  · rw [if_neg c]; simp
theorem bne_self_f {α : Type} [BEq α] [LawfulBEq α] (a : α) : (a != a) = false := by simp

/-- What the law needs: for every book and name. -/
theorem FnExactNeedsOf (l0 : List S42) (a : ByteArray) (g0 : (∀ y ∈ l0, G42 y) ∧ l0.length * 72 ≤ 140737488351232) (g1 : a.size ≤ 140737488351232) : ∃ k, laws_FnExactNeedsOf.f k l0 a = some true := by
  have h0 := g0.2
  refine Ev.rounds (g := fun k => laws_FnExactNeedsOf.f k l0 a) ?_
  unfold laws_FnExactNeedsOf.f
  by_cases cs : (a.size : Int) > 1048576
  · exact Ev.pos cs (Ev.now true)
  refine Ev.neg cs ?_
  obtain ⟨r0, e0⟩ := szLineS_ev l0 (by omega) 1048576
  refine Ev.bind e0 ?_
  by_cases c0 : r0 < 0
  · exact Ev.pos c0 (Ev.now true)
  refine Ev.neg c0 ?_
  have t0 := toLineS_ev l0 (by omega)
  have hlen : (l0.map conv).length ≤ 140737488355327 := by simp; omega
  have hz : Sz (l0.map conv) := by
    intro i hi0 hi1
    simp only [List.length_map] at hi1
    have hi : i.toNat < l0.length := by omega
    have : rd_T45 (l0.map conv) i = conv l0[i.toNat] := by simp [rd_T45, List.getD, hi]
    rw [this]
    exact (g0.1 _ (List.getElem_mem hi)).1
  generalize l0.map conv = l at t0 hz hlen
  have hs := sneedsOf_ev l hz a
  have hi := ineedsOf_ev l hz a
  have hbl := ansN_len l a
  generalize hb : ansN l a = b at hs hi hbl
  obtain ⟨b1, b2⟩ := b
  simp only at hbl
  have hq := eqStringS_ev b1 (by omega)
  have hql := eqLineS_ev l hlen
  have hml := markLineS_ev l hlen
  have hm := markStringS_ev b1 (by omega)
  have hh := heldStringS_ev b1.length (by omega)
  have hpos : ¬ meS b1.length 1 < 0 := by rw [meS_small _ _ (by omega) (by omega)]; omega
  refine Ev.bind t0 (Ev.bind hs (Ev.bind t0 (Ev.bind hi (Ev.bind hq ?_))))
  refine Ev.pos rfl ?_
  rw [bne_self_f]
  refine Ev.step (fun k => rfl) ?_
  simp only [laws_FnExactNeedsOf.j0]
  refine Ev.neg (by simp) (Ev.bind t0 (Ev.bind hql (Ev.pos rfl ?_)))
  have hposl : ¬ mke l.length 1 < 0 := by rw [mke_small _ _ (by omega) (by omega)]; omega
  refine Ev.bind hml (Ev.neg hposl (Ev.bind hq (Ev.pos rfl ?_)))
  rw [bne_self_f]
  refine Ev.step (fun k => rfl) ?_
  simp only [laws_FnExactNeedsOf.j1]
  refine Ev.neg (by simp) (Ev.bind hm (Ev.bind hh (Ev.neg hpos (Ev.pos rfl (Ev.bind t0 (Ev.bind hi (Ev.bind hq (Ev.pos rfl ?_))))))))
  rw [bne_self_f]
  refine Ev.step (fun k => rfl) ?_
  simp only [laws_FnExactNeedsOf.j2]
  exact Ev.neg (by simp) (Ev.bind hh (Ev.neg hpos (Ev.pos rfl (Ev.now true))))
end Go.Proofs.Ytenhgmddpkiliaa.Pure

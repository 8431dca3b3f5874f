/- BookOfTerm: the program's answer is the reference's; plain Lean over the printed functions. -/
import Derived.Test.YtenhgmddpkiliaaPBx15
import Derived.Test.YtenhgmddpkiliaaPBx11
import Derived.Test.YtenhgmddpkiliaaPureBase
import Derived.Test.YtenhgmddpkiliaaPBl02Ok
import Derived.Test.YtenhgmddpkiliaaPBused
import Derived.Test.YtenhgmddpkiliaaDataPB
namespace Go.Proofs.Ytenhgmddpkiliaa.Pure
open Go.RowKit Go.Proofs.Ytenhgmddpkiliaa.PB Go.Proofs.YtenhgmddpkiliaaW.PrintWords Go.Proofs.YtenhgmddpkiliaaW.PrintLast Go.Proofs.YtenhgmddpkiliaaW.PrintMore
set_option linter.unusedVariables false
set_option linter.unusedSimpArgs false

theorem letter_num (n : Int) : (IntKind.i16.wrap (97 + n)) % 256 = (97 + (n % 256)) % 256 := by
  unfold IntKind.wrap
  simp only [IntKind.signed, IntKind.bits]
  first | omega | (simp; omega)
def letterB (n : Int) : ByteArray := strOfNums (([(97 + (n % 256)) % 256] : List Int))
theorem spec_letter (n : Int) : spec_l07Letter.f n = some (letterB n) := by
  unfold spec_l07Letter.f letterB; rw [letter_num]
theorem impl_letter_eq (n : Int) : impl_letter.f n = some (letterB n) := rfl

/-- A term's node in range of its types. -/
def okN (x : S83) : Prop := (-32768 ≤ x.f1 ∧ x.f1 ≤ 32767) ∧ (-32768 ≤ x.f2 ∧ x.f2 ≤ 32767)

theorem earlier_eq (a n : Int) (b : Bool) : impl_earlier.f a n b = some (if b then decide (0 ≤ a) && decide (wrap64 a < n) else a == 0) := by
  unfold impl_earlier.f
  cases b
  · rfl
  · by_cases h : a ≥ 0
    · simp [h]
    · simp [h]
theorem within_eq (n a b : Int) : impl_within.f n a b = some (inB n a b) := by
  unfold impl_within.f inB
  by_cases h : a ≤ n
  · simp [h]
  · simp [h]
theorem ratioOk_eq (a p q : Int) : impl_ratioOk.f a p q = some (if a = 1 then inB p (-1000000000) 1000000000 && inB q 1 1000000000 else (p == 0 && q == 0)) := by
  unfold impl_ratioOk.f
  by_cases h : a = 1
  · simp only [if_pos h, within_eq, Option.bind_some]
    cases inB p (-1000000000) 1000000000 <;> simp
  · simp only [if_neg h]
    by_cases h2 : p = 0
    · simp [h2]
    · simp [h2]
def nodeI (x : S83) (i : Int) : Bool :=
  if x.f0 < 1 then false else if x.f0 > 12 then false else
  ((if x.f0 = 1 then inB x.f3 (-1000000000) 1000000000 && inB x.f4 1 1000000000 else (x.f3 == 0 && x.f4 == 0)) &&
   (if usesA x.f0 then decide (0 ≤ x.f1) && decide (wrap64 x.f1 < i) else x.f1 == 0) &&
   (if twoB x.f0 then decide (0 ≤ x.f2) && decide (wrap64 x.f2 < i) else x.f2 == 0))
theorem one_not (k : Int) (h : k = 1) : usesA k = false ∧ twoB k = false := by subst h; exact ⟨rfl, rfl⟩
theorem nodeI_eq (x : S83) (i : Int) (hx : okN x) (h0 : 0 ≤ i) (hi : i < 140737488355328) : nodeI x i = nodeB x i := by
  have e1 : wrap64 x.f1 = x.f1 := by obtain ⟨⟨a, b⟩, _⟩ := hx; unfold wrap64; omega
  have e2 : wrap64 x.f2 = x.f2 := by obtain ⟨_, a, b⟩ := hx; unfold wrap64; omega
  have e3 : wrap64 (i - 1) = i - 1 := by unfold wrap64; omega
  have lt : ∀ a : Int, (decide (0 ≤ a) && decide (a < i)) = inB a 0 (i - 1) := by
    intro a; unfold inB; congr 1; exact decide_eq_decide.2 (by omega)
  unfold nodeI nodeB
  rw [e1, e2, e3]
  by_cases h1 : x.f0 < 1
  · rw [if_pos h1, if_pos h1]
  rw [if_neg h1, if_neg h1]
  by_cases h2 : x.f0 > 12
  · rw [if_pos h2, if_pos (by omega)]
  rw [if_neg h2, if_neg (show ¬ 12 < x.f0 by omega), lt, lt]
  by_cases hk : x.f0 = 1
  · obtain ⟨u1, u2⟩ := one_not _ hk
    have o1 : oneB x.f0 = false := by rw [hk]; rfl
    rw [u1, u2, o1]
    simp only [if_pos hk, Bool.or_self, Bool.false_eq_true, if_false]
    by_cases a1 : x.f1 = 0 <;> by_cases a2 : x.f2 = 0 <;> cases inB x.f3 (-1000000000) 1000000000 <;> cases inB x.f4 1 1000000000 <;> simp [a1, a2, hk]
  · rw [if_neg hk]
    unfold usesA
    cases ho : oneB x.f0 <;> cases ht : twoB x.f0
    all_goals
      simp only [Bool.or_true, Bool.or_false, Bool.false_eq_true, if_false, if_true]
      by_cases a1 : x.f1 = 0 <;> by_cases a2 : x.f2 = 0 <;> by_cases a3 : x.f3 = 0 <;> by_cases a4 : x.f4 = 0 <;> simp [a1, a2, a3, a4, hk]

theorem uses_ev (a : Int) : Ev (fun k => impl_uses.f k a) (usesA a, twoB a, a == 1) :=
  Ev.of (fun k => impl_uses.mono a k) (uses_eq a)

theorem okUpTo_stop {l : List S83} {i n : Nat} (hi : i < n) (h : nodeB (rd_T83 l (i : Int)) (i : Int) = false) : okUpTo l n = false := okUpTo_false hi h

theorem valid_loop (l : List S83) (hl : ∀ x ∈ l, okN x) (hn : l.length ≤ 140737488355327) (d : Nat) : ∀ (i : Nat), i + d = l.length → okUpTo l i = true → Ev (fun k => impl_ValidTerm.l0 k l (l.length : Int) (i : Int)) (okUpTo l l.length) := by
  induction d with
  | zero =>
    intro i hi ho
    refine Ev.step (fun k => rfl) ?_
    simp only [impl_ValidTerm.l0]
    refine Ev.neg (by omega) ?_
    have : i = l.length := by omega
    subst this
    rw [ho]; exact Ev.now _
  | succ d ih =>
    intro i hi ho
    have hx : okN (rd_T83 l (i : Int)) := by
      have : rd_T83 l (i : Int) = l[i]'(by omega) := by simp [rd_T83, List.getD, show i < l.length from by omega]
      rw [this]; exact hl _ (List.getElem_mem _)
    have hnode := nodeI_eq (rd_T83 l (i : Int)) (i : Int) hx (by omega) (by omega)
    refine Ev.step (fun k => rfl) ?_
    simp only [impl_ValidTerm.l0]
    refine Ev.pos (by omega) (Ev.pos (by omega) (Ev.pos (by omega) ?_))
    refine Ev.bind (uses_ev _) ?_
    generalize hxx : rd_T83 l (i : Int) = x at hx hnode
    have stop : nodeI x (i : Int) = false → okUpTo l l.length = false := fun h => okUpTo_false (by omega : i < l.length) (by rw [hxx, ← hnode, h])
    by_cases h1 : x.f0 < 1
    · refine Ev.pos h1 ?_
      rw [stop (by unfold nodeI; rw [if_pos h1])]; exact Ev.now _
    refine Ev.neg h1 ?_
    by_cases h2 : x.f0 > 12
    · refine Ev.pos h2 ?_
      rw [stop (by unfold nodeI; rw [if_neg h1, if_pos h2])]; exact Ev.now _
    refine Ev.neg h2 ?_
    have hI : nodeI x (i : Int) = ((if x.f0 = 1 then inB x.f3 (-1000000000) 1000000000 && inB x.f4 1 1000000000 else (x.f3 == 0 && x.f4 == 0)) &&
      (if usesA x.f0 then decide (0 ≤ x.f1) && decide (wrap64 x.f1 < i) else x.f1 == 0) &&
      (if twoB x.f0 then decide (0 ≤ x.f2) && decide (wrap64 x.f2 < i) else x.f2 == 0)) := by unfold nodeI; rw [if_neg h1, if_neg h2]
    simp only [ratioOk_eq, earlier_eq, Option.bind_some]
    cases hA : (if x.f0 = 1 then inB x.f3 (-1000000000) 1000000000 && inB x.f4 1 1000000000 else (x.f3 == 0 && x.f4 == 0)) with
    | false =>
      refine Ev.neg (by simp) ?_
      rw [stop (by rw [hI, hA]; rfl)]; exact Ev.now _
    | true =>
      refine Ev.pos rfl ?_
      cases hB : (if usesA x.f0 = true then decide (0 ≤ x.f1) && decide (wrap64 x.f1 < (i : Int)) else x.f1 == 0) with
      | false =>
        refine Ev.neg (by simp) ?_
        rw [stop (by rw [hI, hA, hB]; rfl)]; exact Ev.now _
      | true =>
        refine Ev.pos rfl ?_
        cases hC : (if twoB x.f0 = true then decide (0 ≤ x.f2) && decide (wrap64 x.f2 < (i : Int)) else x.f2 == 0) with
        | false =>
          refine Ev.neg (by simp) ?_
          rw [stop (by rw [hI, hA, hB, hC]; rfl)]; exact Ev.now _
        | true =>
          refine Ev.pos rfl ?_
          rw [wrap_up (by omega) (by omega), up_nat]
          exact ih (i + 1) (by omega) (by rw [okUpTo_succ, ho, hxx, ← hnode, hI, hA, hB, hC]; rfl)

theorem valid_ev (l : List S83) (hl : ∀ x ∈ l, okN x) (hn : l.length ≤ 140737488355327) : Ev (fun k => impl_ValidTerm.f k l) (okTerm l) := by
  unfold impl_ValidTerm.f okTerm
  by_cases h1 : (l.length : Int) < 1
  · refine Ev.pos h1 (Ev.step (fun k => rfl) ?_)
    simp only [impl_ValidTerm.j0]
    have : inB (l.length : Int) 1 40 = false := by unfold inB; simp; omega
    rw [this]; exact Ev.now _
  · refine Ev.neg h1 (Ev.step (fun k => rfl) ?_)
    simp only [impl_ValidTerm.j0]
    by_cases h2 : (l.length : Int) > 40
    · refine Ev.pos (by simpa using h2) ?_
      have : inB (l.length : Int) 1 40 = false := by unfold inB; simp; omega
      rw [this]; exact Ev.now _
    · refine Ev.neg (by simpa using h2) ?_
      have : inB (l.length : Int) 1 40 = true := by unfold inB; simp; omega
      rw [this, Bool.true_and]
      exact valid_loop l hl hn l.length 0 (by omega) (by simp [okUpTo])

def bl (l : List S83) (i : Nat) : S45 := ⟨letterB (IntKind.i16.wrap (i : Int)), (rd_T83 l (i : Int)).f0, if usesA (rd_T83 l (i : Int)).f0 then letterB (rd_T83 l (i : Int)).f1 else ⟨#[]⟩, if twoB (rd_T83 l (i : Int)).f0 then letterB (rd_T83 l (i : Int)).f2 else ⟨#[]⟩, (rd_T83 l (i : Int)).f3, (rd_T83 l (i : Int)).f4⟩
def bls (l : List S83) (n : Nat) : List S45 := (List.range n).map (bl l)
theorem bls_succ (l : List S83) (n : Nat) : bls l (n + 1) = bls l n ++ [bl l n] := by simp [bls, List.range_succ]
theorem bls_len (l : List S83) (n : Nat) : (bls l n).length = n := by simp [bls]
theorem setB (l : List S83) (i : Nat) (x y : S45) (r : List S45) : (bls l i ++ x :: r).set ((i : Int)).toNat y = bls l i ++ y :: r := set_midN _ _ _ _ _ (bls_len l i).symm
theorem rdB (l : List S83) (i : Nat) (x : S45) (r : List S45) : rd_T45 (bls l i ++ x :: r) (i : Int) = x := rd45_mid _ _ _ _ (bls_len l i).symm

theorem spec_two_eq (a : Int) : spec_l02Two.f a = some (twoB a) := l02Two_eq a

theorem specB_j2 (l : List S83) (i : Nat) (hi : i < l.length) (hn : l.length ≤ 1000) (nm : ByteArray) (kd : Int) (a b : ByteArray) (p q : Int) (R : List S45 × Int)
    (h : Ev (fun k => spec_BookOfTerm.l0 k l (bls l i ++ [⟨nm, kd, a, if twoB kd then letterB (rd_T83 l (i : Int)).f2 else b, p, q⟩]) ((i + 1 : Nat) : Int)) R) :
    Ev (fun k => spec_BookOfTerm.j2 k l (bls l i) (i : Int) nm kd a b p q) R := by
  refine Ev.step (fun k => rfl) ?_
  simp only [spec_BookOfTerm.j2, spec_two_eq, Option.bind_some, spec_letter]
  cases hb : twoB kd with
  | true =>
    rw [hb] at h
    refine Ev.pos rfl (Ev.pos (by omega) (Ev.pos (by omega) (Ev.pos (by rw [bls_len]; omega) ?_)))
    rw [wrap_up (by omega) (by omega), up_nat]
    exact h
  | false =>
    rw [hb] at h
    refine Ev.neg (by simp) (Ev.pos (by rw [bls_len]; omega) ?_)
    rw [wrap_up (by omega) (by omega), up_nat]
    exact h
theorem specB_j1 (l : List S83) (i : Nat) (hi : i < l.length) (hn : l.length ≤ 1000) (c : Bool) (nm : ByteArray) (kd : Int) (a b : ByteArray) (p q : Int) (R : List S45 × Int)
    (h : Ev (fun k => spec_BookOfTerm.l0 k l (bls l i ++ [⟨nm, kd, if c then letterB (rd_T83 l (i : Int)).f1 else a, if twoB kd then letterB (rd_T83 l (i : Int)).f2 else b, p, q⟩]) ((i + 1 : Nat) : Int)) R) :
    Ev (fun k => spec_BookOfTerm.j1 k l (bls l i) (i : Int) c nm kd a b p q) R := by
  refine Ev.step (fun k => rfl) ?_
  simp only [spec_BookOfTerm.j1, Option.bind_some, spec_letter]
  cases c with
  | true =>
    refine Ev.pos rfl (Ev.pos (by omega) (Ev.pos (by omega) ?_))
    exact specB_j2 l i hi hn nm kd _ b p q R h
  | false =>
    refine Ev.neg (by simp) ?_
    exact specB_j2 l i hi hn nm kd _ b p q R h
theorem specB_loop (l : List S83) (hn : l.length ≤ 1000) (d : Nat) : ∀ (i : Nat), i + d = l.length → Ev (fun k => spec_BookOfTerm.l0 k l (bls l i) (i : Int)) (bls l l.length, 0) := by
  induction d with
  | zero =>
    intro i hi
    refine Ev.step (fun k => rfl) ?_
    simp only [spec_BookOfTerm.l0]
    refine Ev.neg (by omega) ?_
    have : i = l.length := by omega
    rw [this]; exact Ev.now _
  | succ d ih =>
    intro i hi
    have hnext := ih (i + 1) (by omega)
    rw [bls_succ] at hnext
    refine Ev.step (fun k => rfl) ?_
    simp only [spec_BookOfTerm.l0, spec_letter, Option.bind_some, l02One_eq, spec_two_eq]
    refine Ev.pos (by omega) (Ev.pos (by omega) ?_)
    cases hb : oneB (rd_T83 l (i : Int)).f0 with
    | true =>
      refine Ev.pos rfl (specB_j1 l i (by omega) hn _ _ _ _ _ _ _ _ ?_)
      rw [show bl l i = ⟨letterB (IntKind.i16.wrap (i : Int)), (rd_T83 l (i : Int)).f0, if true = true then letterB (rd_T83 l (i : Int)).f1 else ⟨#[]⟩, if twoB (rd_T83 l (i : Int)).f0 then letterB (rd_T83 l (i : Int)).f2 else ⟨#[]⟩, (rd_T83 l (i : Int)).f3, (rd_T83 l (i : Int)).f4⟩ from by unfold bl usesA; rw [hb]; rfl] at hnext
      exact hnext
    | false =>
      refine Ev.neg (by simp) (specB_j1 l i (by omega) hn _ _ _ _ _ _ _ _ ?_)
      rw [show bl l i = ⟨letterB (IntKind.i16.wrap (i : Int)), (rd_T83 l (i : Int)).f0, if twoB (rd_T83 l (i : Int)).f0 = true then letterB (rd_T83 l (i : Int)).f1 else ⟨#[]⟩, if twoB (rd_T83 l (i : Int)).f0 then letterB (rd_T83 l (i : Int)).f2 else ⟨#[]⟩, (rd_T83 l (i : Int)).f3, (rd_T83 l (i : Int)).f4⟩ from by unfold bl usesA; rw [hb]; rfl] at hnext
      exact hnext

theorem implB_loop (l : List S83) (hn : l.length ≤ 1000) (d : Nat) : ∀ (i : Nat), i + d = l.length → Ev (fun k => impl_BookOfTerm.l0 k (bls l i ++ List.replicate d z45) l (l.length : Int) (i : Int)) (bls l l.length, 0) := by
  induction d with
  | zero =>
    intro i hi
    refine Ev.step (fun k => rfl) ?_
    simp only [impl_BookOfTerm.l0]
    refine Ev.neg (by omega) ?_
    have : i = l.length := by omega
    rw [this]; simp only [List.replicate, List.append_nil]; exact Ev.now _
  | succ d ih =>
    intro i hi
    have hnext := ih (i + 1) (by omega)
    rw [bls_succ, List.append_assoc] at hnext
    refine Ev.step (fun k => rfl) ?_
    simp only [impl_BookOfTerm.l0, impl_letter_eq, Option.bind_some, List.replicate, setB, rdB]
    refine Ev.pos (by omega) (Ev.pos (by omega) (Ev.pos (by omega) (Ev.pos (by simp [bls_len]; omega) (Ev.bind (uses_ev _) ?_))))
    rw [wrap_up (by omega) (by omega), up_nat]
    cases ha : usesA (rd_T83 l (i : Int)).f0 <;> cases hb : twoB (rd_T83 l (i : Int)).f0
    · refine Ev.neg (by simp) (Ev.neg (by simp) ?_)
      rw [show bl l i = ⟨letterB (IntKind.i16.wrap (i : Int)), (rd_T83 l (i : Int)).f0, ⟨#[]⟩, ⟨#[]⟩, (rd_T83 l (i : Int)).f3, (rd_T83 l (i : Int)).f4⟩ from by unfold bl; rw [ha, hb]; rfl] at hnext
      exact hnext
    · exact absurd (two_uses ha) (by rw [hb]; simp)
    · refine Ev.pos rfl (Ev.neg (by simp) ?_)
      rw [show bl l i = ⟨letterB (IntKind.i16.wrap (i : Int)), (rd_T83 l (i : Int)).f0, letterB (rd_T83 l (i : Int)).f1, ⟨#[]⟩, (rd_T83 l (i : Int)).f3, (rd_T83 l (i : Int)).f4⟩ from by unfold bl; rw [ha, hb]; rfl] at hnext
      exact hnext
    · refine Ev.pos rfl (Ev.pos rfl ?_)
      rw [show bl l i = ⟨letterB (IntKind.i16.wrap (i : Int)), (rd_T83 l (i : Int)).f0, letterB (rd_T83 l (i : Int)).f1, letterB (rd_T83 l (i : Int)).f2, (rd_T83 l (i : Int)).f3, (rd_T83 l (i : Int)).f4⟩ from by unfold bl; rw [ha, hb]; rfl] at hnext
      exact hnext

def bookAns (l : List S83) : List S45 × Int := if okTerm l then (if (l.length : Int) > 24 then ([], 3) else (bls l l.length, 0)) else ([], 1)
theorem specB_ev (l : List S83) : Ev (fun k => spec_BookOfTerm.f k l) (bookAns l) := by
  unfold spec_BookOfTerm.f bookAns
  simp only [spec_l02Ok.f, Option.bind_some]
  cases okTerm l with
  | false => exact Ev.now _
  | true =>
    simp only [if_true]
    by_cases h : (l.length : Int) > 24
    · rw [if_pos h]; exact Ev.pos h (Ev.now _)
    · rw [if_neg h]; exact Ev.neg h (specB_loop l (by omega) l.length 0 (by omega))
theorem implB_ev (l : List S83) (hl : ∀ x ∈ l, okN x) (hn : l.length ≤ 140737488355327) : Ev (fun k => impl_BookOfTerm.f k l) (bookAns l) := by
  unfold impl_BookOfTerm.f bookAns
  refine Ev.bind (valid_ev l hl hn) ?_
  cases okTerm l with
  | false => exact Ev.now _
  | true =>
    simp only [if_true]
    by_cases h : (l.length : Int) > 24
    · rw [if_pos h]; exact Ev.pos h (Ev.now _)
    · rw [if_neg h]
      refine Ev.neg h (Ev.pos (by omega) (Ev.pos (by omega) ?_))
      have := implB_loop l (by omega) l.length 0 (by omega)
      simpa [bls] using this
theorem bookAns_len (l : List S83) : (bookAns l).1.length ≤ 1000 := by
  unfold bookAns
  split
  · split
    · simp
    · simp only [bls_len]; omega
  · simp

theorem lit16 {a : Int} (h : (Lit.int .i16 a).wf = true) : -32768 ≤ a ∧ a ≤ 32767 := by
  unfold Lit.wf at h
  simp only [Bool.and_eq_true, decide_eq_true_eq] at h
  exact h

theorem bne_self_f {α : Type} [BEq α] [LawfulBEq α] (a : α) : (a != a) = false := by simp

/-- What the law needs: for every term. -/
theorem FnExactBookOfTerm (l0 : List S86) (g0 : (∀ x ∈ l0, G86 x) ∧ l0.length * 24 ≤ 140737488351232) : ∃ k, laws_FnExactBookOfTerm.f k l0 = some true := by
  have h0 := g0.2
  refine Ev.rounds (g := fun k => laws_FnExactBookOfTerm.f k l0) ?_
  unfold laws_FnExactBookOfTerm.f
  have hs : ∃ r, laws_szNodeS.f l0 1048576 = some r := by
    unfold laws_szNodeS.f; split <;> exact ⟨_, rfl⟩
  obtain ⟨r0, e0⟩ := hs
  simp only [e0, Option.bind_some]
  by_cases c0 : r0 < 0
  · exact Ev.pos c0 (Ev.now true)
  refine Ev.neg c0 ?_
  have t0 := toNodeS_ev l0 (by omega)
  have hl : ∀ x ∈ l0.map convN, okN x := by
    intro x hx
    obtain ⟨y, hy, rfl⟩ := List.mem_map.1 hx
    have := g0.1 y hy
    exact ⟨lit16 this.2.1, lit16 this.2.2.1⟩
  have hlen : (l0.map convN).length ≤ 140737488355327 := by simp; omega
  generalize l0.map convN = l at t0 hl hlen
  have hs := specB_ev l
  have hi := implB_ev l hl hlen
  have hbl := bookAns_len l
  generalize hb : bookAns l = b at hs hi hbl
  obtain ⟨b1, b2⟩ := b
  simp only at hbl
  have hq := eqLineS_ev b1 (by omega)
  refine Ev.bind t0 (Ev.bind hs (Ev.bind t0 (Ev.bind hi (Ev.bind hq ?_))))
  refine Ev.pos rfl ?_
  rw [bne_self_f]
  refine Ev.step (fun k => rfl) ?_
  simp only [laws_FnExactBookOfTerm.j0]
  refine Ev.neg (by simp) (Ev.bind t0 (Ev.bind (eqNodeS_ev l hlen) (Ev.pos rfl ?_)))
  obtain ⟨q, hqn, hq0⟩ := markNodeS_ev l hlen
  refine Ev.bind hqn (Ev.neg (by omega) (Ev.bind hq (Ev.pos rfl ?_)))
  rw [bne_self_f]
  refine Ev.step (fun k => rfl) ?_
  simp only [laws_FnExactBookOfTerm.j1]
  have hm := markLineS_ev b1 (by omega)
  have hh := heldLineS_ev b1.length (by omega)
  have hpos : ¬ mke b1.length 1 < 0 := by rw [mke_small _ _ (by omega) (by omega)]; omega
  refine Ev.neg (by simp) (Ev.bind hm (Ev.bind hh (Ev.neg hpos (Ev.pos rfl (Ev.bind t0 (Ev.bind hi (Ev.bind hq (Ev.pos rfl ?_))))))))
  rw [bne_self_f]
  refine Ev.step (fun k => rfl) ?_
  simp only [laws_FnExactBookOfTerm.j2]
  exact Ev.neg (by simp) (Ev.bind hh (Ev.neg hpos (Ev.pos rfl (Ev.now true))))
end Go.Proofs.Ytenhgmddpkiliaa.Pure

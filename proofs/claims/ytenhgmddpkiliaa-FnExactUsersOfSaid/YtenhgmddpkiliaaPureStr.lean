/- Marks on strings, as the laws write and find them. Plain Lean over the printed functions. -/
import Derived.Test.YtenhgmddpkiliaaPBx2
import Derived.Test.YtenhgmddpkiliaaPureMarks
namespace Go.Proofs.Ytenhgmddpkiliaa.Pure
open Go.RowKit Go.Proofs.Ytenhgmddpkiliaa.PB Go.Proofs.YtenhgmddpkiliaaW.PrintWords Go.Proofs.YtenhgmddpkiliaaW.PrintLast Go.Proofs.YtenhgmddpkiliaaW.PrintMore Go.Proofs.YtenhgmddpkiliaaRP
set_option linter.unusedVariables false
set_option linter.unusedSimpArgs false

/-! ### marks on strings -/
noncomputable def msS : Nat → Int → List ByteArray
  | 0, _ => []
  | n + 1, a => markT a :: msS n (nx a)
def meS : Nat → Int → Int
  | 0, a => a
  | n + 1, a => meS n (nx a)
theorem meS_small (n : Nat) : ∀ a : Int, 0 ≤ a → a + n < 9223372036854775807 → meS n a = a + n := by
  induction n with
  | zero => intro a h k; simp [meS]
  | succ n ih =>
    intro a h k
    have e : nx a = a + 1 := by unfold nx wrap64; omega
    simp only [meS, e]
    rw [ih _ (by omega) (by omega)]
    omega
theorem markStringS_loop (r : List ByteArray) : ∀ (d : List ByteArray) (a : Int), a < 9223372036854775808 → d.length + r.length ≤ 140737488355327 → Ev (fun k => laws_markStringS.l0 k (d ++ r) a (d.length : Int)) (meS r.length a, d ++ msS r.length a) := by
  induction r with
  | nil =>
    intro d a ha h
    refine Ev.step (fun k => rfl) ?_
    simp only [laws_markStringS.l0]
    exact Ev.neg (by simp) (Ev.now _)
  | cons x r ih =>
    intro d a ha h
    simp only [List.length_cons] at h
    have hq := ih (d ++ [markT a]) (nx a) (nx_lt _) (by simp; omega)
    refine Ev.step (fun k => rfl) ?_
    simp only [laws_markStringS.l0]
    refine Ev.pos (by simp; omega) ?_
    refine Ev.bind (markT_ev ha) ?_
    refine Ev.pos (by omega) ?_
    simp only [set_mid]
    rw [wrap_up (i := (d.length : Int)) (by omega) (by omega)]
    simp only [List.length_append, List.length_cons, List.length_nil, List.append_assoc, List.cons_append, List.nil_append, Nat.zero_add] at hq
    exact hq
theorem markStringS_ev (l : List ByteArray) (h : l.length ≤ 140737488355327) : Ev (fun k => laws_markStringS.f k l 1) (meS l.length 1, msS l.length 1) :=
  markStringS_loop l [] 1 (by omega) (by simpa using h)
theorem heldStringS_loop (n : Nat) : ∀ (d : List ByteArray) (a : Int), a < 9223372036854775808 → d.length + n ≤ 140737488355327 → Ev (fun k => laws_heldStringS.l0 k (d ++ msS n a) a (d.length : Int)) (meS n a) := by
  induction n with
  | zero =>
    intro d a ha h
    refine Ev.step (fun k => rfl) ?_
    simp only [laws_heldStringS.l0, msS]
    exact Ev.neg (by simp) (Ev.now _)
  | succ n ih =>
    intro d a ha h
    have hq := ih (d ++ [markT a]) (nx a) (nx_lt _) (by simp; omega)
    refine Ev.step (fun k => rfl) ?_
    simp only [laws_heldStringS.l0, msS]
    refine Ev.pos (by simp; omega) ?_
    refine Ev.pos (by omega) ?_
    refine Ev.bind (markT_ev ha) ?_
    refine Ev.pos (congrArg ByteArray.toList (rdB_mid (z := ByteArray.empty) (d := d) (x := markT a) (r := msS n (nx a)) d.length rfl)) ?_
    rw [wrap_up (i := (d.length : Int)) (by omega) (by omega)]
    simp only [List.length_append, List.length_cons, List.length_nil, List.append_assoc, List.cons_append, List.nil_append, Nat.zero_add] at hq
    exact hq
theorem heldStringS_ev (n : Nat) (h : n ≤ 140737488355327) : Ev (fun k => laws_heldStringS.f k (msS n 1) 1) (meS n 1) :=
  heldStringS_loop n [] 1 (by omega) (by simpa using h)
theorem eqStringS_loop (a : List ByteArray) (hn : a.length ≤ 140737488355327) (d : Nat) : ∀ i : Int, 0 ≤ i → i + d = a.length → Ev (fun k => laws_eqStringS.l0 k a a i) true := by
  induction d with
  | zero =>
    intro i h0 h1
    refine Ev.step (fun k => rfl) ?_
    exact Ev.neg (by omega) (Ev.now _)
  | succ d ih =>
    intro i h0 h1
    refine Ev.step (fun k => rfl) ?_
    refine Ev.pos (by omega) (Ev.pos h0 (Ev.pos (by omega) (Ev.pos rfl ?_)))
    rw [wrap_up h0 (by omega)]
    exact ih (i + 1) (by omega) (by omega)
theorem eqStringS_ev (a : List ByteArray) (hn : a.length ≤ 140737488355327) : Ev (fun k => laws_eqStringS.f k a a) true := by
  unfold laws_eqStringS.f
  exact Ev.pos rfl (eqStringS_loop a hn a.length 0 (by omega) (by omega))

end Go.Proofs.Ytenhgmddpkiliaa.Pure

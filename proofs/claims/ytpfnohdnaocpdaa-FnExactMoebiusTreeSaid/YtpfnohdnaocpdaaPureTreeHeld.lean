/- What the laws mark in trees is found again. Plain Lean over the printed functions. -/
import Derived.Test.YtpfnohdnaocpdaaPTx1
import Derived.Test.YtpfnohdnaocpdaaPureTreeEq
namespace Go.Proofs.Ytpfnohdnaocpdaa.Pure
open Go.RowKit Go.Proofs.Ytpfnohdnaocpdaa.PT Go.Proofs.YtpfnohdnaocpdaaW.PrintWords Go.Proofs.YtpfnohdnaocpdaaW.PrintLast Go.Proofs.YtpfnohdnaocpdaaW.PrintMore Go.Proofs.YtpfnohdnaocpdaaRP
set_option linter.unusedVariables false
set_option linter.unusedSimpArgs false
def mkF (a : Int) : S89 := ⟨IntKind.i8.wrap a, IntKind.i8.wrap (a + 1), ⟨IntKind.i16.wrap (a + 1 + 1), IntKind.i16.wrap (a + 1 + 1 + 1), IntKind.i16.wrap (a + 1 + 1 + 1 + 1)⟩⟩
def markL : Int → Nat → List S89
  | _, 0 => []
  | a, n + 1 => mkF a :: markL (a + 1 + 1 + 1 + 1 + 1) n
theorem markL_len (n : Nat) : ∀ a : Int, (markL a n).length = n := by
  induction n with
  | zero => intro a; rfl
  | succ n ih => intro a; simp [markL, ih]
theorem w1_ {b : Int} (h : 0 ≤ b) (h' : b ≤ 9000000000000000000) : wrap64 (b + 1) = b + 1 := by unfold wrap64; omega
theorem e012 : wrap64 ((0 : Int) + 1) = 1 ∧ wrap64 ((1 : Int) + 1) = 2 ∧ wrap64 ((2 : Int) + 1) = 3 := by unfold wrap64; omega
theorem markL_ev (r : List S89) : ∀ (d : List S89) (a : Int), d.length + r.length ≤ 140737488355327 → 0 ≤ a → a + 5 * r.length ≤ 9000000000000000000 → Ev (fun k => laws_markForkS.l0 k (d ++ r) a (d.length : Int)) (a + 5 * (r.length : Int), d ++ markL a r.length) := by
  induction r with
  | nil =>
    intro d a h h0 h1
    refine Ev.step (fun k => rfl) ?_
    simp only [laws_markForkS.l0]
    exact Ev.neg (by simp) (Ev.to (Ev.now _) (by simp [markL]))
  | cons x r ih =>
    intro d a h h0 h1
    simp only [List.length_cons] at h h1
    have hlt : (d.length : Int) < ((d ++ x :: r).length : Int) := by simp; omega
    have hlt2 : ∀ v : S89, (d.length : Int) < ((d ++ v :: r).length : Int) := fun v => by simp; omega
    refine Ev.step (fun k => rfl) ?_
    simp only [laws_markForkS.l0, Option.bind_some]
    refine Ev.pos hlt (Ev.pos (by omega) ?_)
    rw [rd89_mid, set_mid, rd89_mid, set_mid, w1_ h0 (by omega), w1_ (b := a + 1) (by omega) (by omega)]
    refine Ev.step (fun k => rfl) ?_
    simp only [laws_markForkS.l1]
    refine Ev.pos (by decide) (Ev.pos (by omega) (Ev.pos (hlt2 _) (Ev.pos (by decide) ?_)))
    rw [rd89_mid, set_mid, w1_ (b := a + 1 + 1) (by omega) (by omega), e012.1]
    refine Ev.step (fun k => rfl) ?_
    simp only [laws_markForkS.l1]
    refine Ev.pos (by decide) (Ev.pos (by omega) (Ev.pos (hlt2 _) (Ev.pos (by decide) ?_)))
    rw [rd89_mid, set_mid, w1_ (b := a + 1 + 1 + 1) (by omega) (by omega), e012.2.1]
    refine Ev.step (fun k => rfl) ?_
    simp only [laws_markForkS.l1]
    refine Ev.pos (by decide) (Ev.pos (by omega) (Ev.pos (hlt2 _) (Ev.pos (by decide) ?_)))
    rw [rd89_mid, set_mid, w1_ (b := a + 1 + 1 + 1 + 1) (by omega) (by omega), e012.2.2]
    refine Ev.step (fun k => rfl) ?_
    simp only [laws_markForkS.l1]
    refine Ev.neg (by decide) ?_
    rw [wnext d.length (by omega)]
    have hq := ih (d ++ [mkF a]) (a + 1 + 1 + 1 + 1 + 1) (by simp; omega) (by omega) (by omega)
    rw [List.append_assoc, List.append_assoc] at hq
    simp only [List.length_append, List.length_cons, List.length_nil, Nat.zero_add, List.cons_append, List.nil_append] at hq
    refine Ev.to hq ?_
    simp only [List.length_cons, markL, Prod.mk.injEq, and_true]
    omega
theorem heldL_ev (n : Nat) : ∀ (d : List S89) (a : Int), d.length + n ≤ 140737488355327 → 0 ≤ a → a + 5 * n ≤ 9000000000000000000 → Ev (fun k => laws_heldForkS.l0 k (d ++ markL a n) a (d.length : Int)) (a + 5 * (n : Int)) := by
  induction n with
  | zero =>
    intro d a h h0 h1
    refine Ev.step (fun k => rfl) ?_
    simp only [laws_heldForkS.l0]
    exact Ev.neg (by simp [markL]) (Ev.to (Ev.now _) (by simp))
  | succ n ih =>
    intro d a h h0 h1
    have hm : markL a (n + 1) = mkF a :: markL (a + 1 + 1 + 1 + 1 + 1) n := rfl
    rw [hm]
    have hlt : (d.length : Int) < ((d ++ mkF a :: markL (a + 1 + 1 + 1 + 1 + 1) n).length : Int) := by simp; omega
    refine Ev.step (fun k => rfl) ?_
    simp only [laws_heldForkS.l0]
    rw [rd89_mid, w1_ h0 (by omega), w1_ (b := a + 1) (by omega) (by omega)]
    refine Ev.pos hlt (Ev.pos (by omega) (Ev.pos rfl (Ev.pos rfl ?_)))
    refine Ev.step (fun k => rfl) ?_
    simp only [laws_heldForkS.l1]
    rw [rd89_mid, w1_ (b := a + 1 + 1) (by omega) (by omega), e012.1]
    refine Ev.pos (by decide) (Ev.pos (by omega) (Ev.pos hlt (Ev.pos (by decide) (Ev.pos rfl ?_))))
    refine Ev.step (fun k => rfl) ?_
    simp only [laws_heldForkS.l1]
    rw [rd89_mid, w1_ (b := a + 1 + 1 + 1) (by omega) (by omega), e012.2.1]
    refine Ev.pos (by decide) (Ev.pos (by omega) (Ev.pos hlt (Ev.pos (by decide) (Ev.pos rfl ?_))))
    refine Ev.step (fun k => rfl) ?_
    simp only [laws_heldForkS.l1]
    rw [rd89_mid, w1_ (b := a + 1 + 1 + 1 + 1) (by omega) (by omega), e012.2.2]
    refine Ev.pos (by decide) (Ev.pos (by omega) (Ev.pos hlt (Ev.pos (by decide) (Ev.pos rfl ?_))))
    refine Ev.step (fun k => rfl) ?_
    simp only [laws_heldForkS.l1]
    refine Ev.neg (by decide) ?_
    rw [wnext d.length (by omega)]
    have hq := ih (d ++ [mkF a]) (a + 1 + 1 + 1 + 1 + 1) (by simp; omega) (by omega) (by omega)
    rw [List.append_assoc] at hq
    simp only [List.length_append, List.length_cons, List.length_nil, Nat.zero_add, List.cons_append, List.nil_append] at hq
    refine Ev.to hq ?_
    omega
theorem markT_ev (x : List S89) (a : Int) (hx : x.length ≤ 140737488355327) (h0 : 0 ≤ a) (h1 : a + 5 * x.length ≤ 9000000000000000000) : Ev (fun k => laws_markTree.f k x a) (a + 5 * (x.length : Int), markL a x.length) := by
  unfold laws_markTree.f laws_markForkS.f
  refine Ev.bind (markL_ev x [] a (by simpa using hx) h0 h1) (Ev.now _)
theorem heldT_ev (n : Nat) (hn : n ≤ 100000) : Ev (fun k => laws_heldTree.f k (markL 1 n) 1) (1 + 5 * (n : Int)) := by
  unfold laws_heldTree.f laws_heldForkS.f
  exact Ev.bind (heldL_ev n [] 1 (by simp; omega) (by omega) (by omega)) (Ev.neg (by omega) (Ev.now _))
end Go.Proofs.Ytpfnohdnaocpdaa.Pure

/- Ratios out of two numbers, in both texts. Plain Lean over the printed functions. -/
import Derived.Test.YtpfnohdnaocpdaaPTx3
import Derived.Test.YtpfnohdnaocpdaaPTx4
import Derived.Test.YtpfnohdnaocpdaaPureIn
namespace Go.Proofs.Ytpfnohdnaocpdaa.Pure
open Go.RowKit Go.Proofs.Ytpfnohdnaocpdaa.PT Go.Proofs.YtpfnohdnaocpdaaW.PrintWords Go.Proofs.YtpfnohdnaocpdaaW.PrintLast Go.Proofs.YtpfnohdnaocpdaaW.PrintMore Go.Proofs.YtpfnohdnaocpdaaRP
set_option linter.unusedVariables false
set_option linter.unusedSimpArgs false
theorem Ev.is' {α : Type} {g : Nat → Option α} {r : α} (h : ∀ k, g k = some r) : Ev g r := ⟨0, fun k _ => h k⟩
theorem gcd_step (x y : Nat) (h : 0 < y) : Nat.gcd x y = Nat.gcd y (x % y) := by
  rw [Nat.gcd_comm x y, Nat.gcd_rec y x, Nat.gcd_comm]
theorem common_l0 (y : Nat) : ∀ x : Nat, Ev (fun k => spec_l03Common.l0 k (x : Int) (y : Int)) ((Nat.gcd x y : Nat) : Int) := by
  induction y using Nat.strongRecOn with
  | _ y ih =>
    intro x
    refine Ev.step (fun k => rfl) ?_
    rcases Nat.eq_zero_or_pos y with h | h
    · subst h
      refine Ev.pos (by omega) ?_
      rw [Nat.gcd_zero_right]
      exact Ev.now _
    · refine Ev.neg (by omega) ?_
      rw [tmod_nn (by omega), gcd_step x y h]
      have := ih (x % y) (Nat.mod_lt _ h) y
      rw [Int.natCast_emod] at this
      exact this
theorem size_eq {a : Int} (h : -9223372036854775807 ≤ a) (h1 : a ≤ 9223372036854775807) : spec_l03Size.f a = some (a.natAbs : Int) := by
  unfold spec_l03Size.f
  by_cases c : a < 0
  · rw [if_pos c, wrap_id (by omega) (by omega)]
    congr 1
    omega
  · rw [if_neg c]
    congr 1
    omega
theorem common_ev {a b : Int} (h : -9223372036854775807 ≤ a) (h1 : a ≤ 9223372036854775807) (h2 : -9223372036854775807 ≤ b) (h3 : b ≤ 9223372036854775807) :
    Ev (fun k => spec_l03Common.f k a b) ((Nat.gcd a.natAbs b.natAbs : Nat) : Int) := by
  unfold spec_l03Common.f
  rw [size_eq h h1, size_eq h2 h3]
  simp only [Option.bind_some]
  exact common_l0 _ _
theorem icommon_l1 (xs : List Int) (m i : Int) (r : Int) (y : Nat) : ∀ x : Nat, Ev (fun k => impl_common.l0 k ((Nat.gcd x y : Nat) : Int) xs m (wrap64 (i + 1))) r → Ev (fun k => impl_common.l1 k (x : Int) (y : Int) xs m i) r := by
  induction y using Nat.strongRecOn with
  | _ y ih =>
    intro x h
    refine Ev.step (fun k => rfl) ?_
    simp only [impl_common.l1]
    rcases Nat.eq_zero_or_pos y with hy | hy
    · subst hy
      refine Ev.pos (by omega) ?_
      rw [Nat.gcd_zero_right] at h
      exact h
    · refine Ev.neg (by omega) ?_
      rw [tmod_nn (by omega), ← Int.natCast_emod]
      refine ih (x % y) (Nat.mod_lt _ hy) y ?_
      rw [← gcd_step x y hy]
      exact h
theorem mx_abs {a : Int} (h : -9223372036854775807 ≤ a) (h1 : a ≤ 9223372036854775807) : mx a (wrap64 (-a)) = (a.natAbs : Int) := by
  rw [wrap_id (by omega) (by omega)]
  unfold mx
  by_cases c : a < -a
  · rw [if_pos c]; omega
  · rw [if_neg c]; omega
def Sm (a : Int) : Prop := -9223372036854775807 ≤ a ∧ a ≤ 9223372036854775807
theorem icommon2_ev {a b : Int} (ha : Sm a) (hb : Sm b) : Ev (fun k => impl_common.f k [a, b]) ((Nat.gcd a.natAbs b.natAbs : Nat) : Int) := by
  unfold impl_common.f
  have e1 : wrap64 (0 + 1) = 1 := by unfold wrap64; omega
  have e2 : wrap64 (1 + 1) = 2 := by unfold wrap64; omega
  have r0 : rd [a, b] 0 = a := rfl
  have r1 : rd [a, b] 1 = b := rfl
  simp only [List.length_cons, List.length_nil]
  refine Ev.step (fun k => rfl) ?_
  simp only [impl_common.l0]
  refine Ev.pos (by decide) (Ev.pos (by decide) (Ev.pos (by simp) ?_))
  rw [r0, mx_abs ha.1 ha.2]
  refine icommon_l1 _ _ _ _ a.natAbs 0 ?_
  rw [e1, Nat.gcd_zero_left]
  refine Ev.step (fun k => rfl) ?_
  simp only [impl_common.l0]
  refine Ev.pos (by decide) (Ev.pos (by decide) (Ev.pos (by simp) ?_))
  rw [r1, mx_abs hb.1 hb.2]
  refine icommon_l1 _ _ _ _ b.natAbs _ ?_
  rw [e2]
  refine Ev.step (fun k => rfl) ?_
  simp only [impl_common.l0]
  exact Ev.neg (by decide) (Ev.now _)
def qt (a : Int) (g : Nat) : Int := Int.tdiv a g
theorem qt_sm {a : Int} (g : Nat) (ha : Sm a) : Sm (qt a g) := by
  have h : (qt a g).natAbs ≤ a.natAbs := by
    unfold qt
    rw [Int.natAbs_tdiv]
    exact Nat.div_le_self _ _
  have := ha.1; have := ha.2
  exact ⟨by omega, by omega⟩
def ratB (p q : Int) : Bool := if inI q 1 2147483648 = true then (if inI p (-2147483648) 2147483648 = true then (((Nat.gcd p.natAbs q.natAbs : Nat) : Int) == 1) else false) else false
theorem sratio_ev {p q : Int} (hp : Sm p) (hq : Sm q) : Ev (fun k => spec_l03Ratio.f k [(⟨p, q⟩ : S71)]) (ratB p q) := by
  have r : rd_T71 [(⟨p, q⟩ : S71)] 0 = ⟨p, q⟩ := rfl
  unfold spec_l03Ratio.f ratB
  simp only [r, in_eq', Option.bind_some]
  refine Ev.pos (by simp) ?_
  by_cases c1 : inI q 1 2147483648 = true
  · rw [if_pos c1]
    refine Ev.pos c1 ?_
    by_cases c2 : inI p (-2147483648) 2147483648 = true
    · rw [if_pos c2]
      exact Ev.pos c2 (Ev.bind (common_ev hp.1 hp.2 hq.1 hq.2) (Ev.now _))
    · rw [if_neg c2]
      exact Ev.neg c2 (Ev.now _)
  · rw [if_neg c1]
    exact Ev.neg c1 (Ev.now _)
theorem within_inI' (n a b : Int) : impl_within.f n a b = some (inI n a b) := by
  unfold impl_within.f inI
  by_cases h : n ≥ a
  · rw [if_pos h, decide_eq_true (show a ≤ n from h), Bool.true_and]
  · rw [if_neg h, decide_eq_false (show ¬ a ≤ n from h), Bool.false_and]
theorem iratio_ev {p q : Int} (hp : Sm p) (hq : Sm q) : Ev (fun k => impl_ValidRatio.f k p q) (ratB p q) := by
  unfold impl_ValidRatio.f ratB
  simp only [within_inI', Option.bind_some]
  by_cases c1 : inI q 1 2147483648 = true
  · rw [if_pos c1]
    refine Ev.pos c1 ?_
    by_cases c2 : inI p (-2147483648) 2147483648 = true
    · rw [if_pos c2]
      exact Ev.pos c2 (Ev.bind (icommon2_ev hp hq) (Ev.now _))
    · rw [if_neg c2]
      exact Ev.neg c2 (Ev.now _)
  · rw [if_neg c1]
    exact Ev.neg c1 (Ev.now _)
/-- The ratio of two numbers: both texts. -/
theorem make_both {p q : Int} (hp : -1000000000000000000 ≤ p ∧ p ≤ 1000000000000000000) (hq : 0 < q ∧ q ≤ 1000000000000000000) : ∃ A : Int × Int × Int, Ev (fun k => spec_l03Make.f k p q) A ∧ Ev (fun k => impl_MakeRatio.f k p q) A := by
  have sp : Sm p := ⟨by omega, by omega⟩
  have sq : Sm q := ⟨by omega, by omega⟩
  have cs := common_ev sp.1 sp.2 sq.1 sq.2
  have ci := icommon2_ev sp sq
  have hg : 0 < Nat.gcd p.natAbs q.natAbs := Nat.gcd_pos_of_pos_right _ (by omega)
  generalize Nat.gcd p.natAbs q.natAbs = G at cs ci hg
  have qp := qt_sm G sp
  have qq := qt_sm G sq
  have w1 : wrap64 (Int.tdiv p (G : Int)) = qt p G := wrap_id (i := qt p G) (by have := qp.1; omega) (by have := qp.2; omega)
  have w2 : wrap64 (Int.tdiv q (G : Int)) = qt q G := wrap_id (i := qt q G) (by have := qq.1; omega) (by have := qq.2; omega)
  have rs := sratio_ev qp qq
  have ri := iratio_ev qp qq
  have e1 : ∀ k : Nat, impl_within.f p (-1000000000000000000) 1000000000000000000 = some true := fun _ => by rw [within_inI', inI_iff.2 hp]
  have e2 : ∀ k : Nat, impl_within.f q (-1000000000000000000) 1000000000000000000 = some true := fun _ => by rw [within_inI', inI_iff.2 ⟨by omega, hq.2⟩]
  refine ⟨if ratB (qt p G) (qt q G) = true then (qt p G, qt q G, 0) else (0, 0, 3), ?_, ?_⟩
  · unfold spec_l03Make.f
    refine Ev.bind cs (Ev.neg (by omega) (Ev.neg (by omega) ?_))
    rw [w1, w2]
    refine Ev.bind rs ?_
    by_cases c : ratB (qt p G) (qt q G) = true
    · exact Ev.to (Ev.pos c (Ev.now _)) (if_pos c).symm
    · exact Ev.to (Ev.neg c (Ev.now _)) (if_neg c).symm
  · unfold impl_MakeRatio.f
    refine Ev.bind (Ev.is' e1) (Ev.pos rfl (Ev.bind (Ev.is' e2) (Ev.step (fun k => rfl) ?_)))
    simp only [impl_MakeRatio.j0]
    refine Ev.neg (by simp) (Ev.neg (by omega) (Ev.neg (by omega) (Ev.step (fun k => rfl) ?_)))
    simp only [impl_MakeRatio.j1]
    refine Ev.bind ci (Ev.neg (by omega) ?_)
    rw [w1, w2]
    refine Ev.bind ri ?_
    by_cases c : ratB (qt p G) (qt q G) = true
    · exact Ev.to (Ev.pos c (Ev.now _)) (if_pos c).symm
    · exact Ev.to (Ev.neg c (Ev.now _)) (if_neg c).symm
end Go.Proofs.Ytpfnohdnaocpdaa.Pure

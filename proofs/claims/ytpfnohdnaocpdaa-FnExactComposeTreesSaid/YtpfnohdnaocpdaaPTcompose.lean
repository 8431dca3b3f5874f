/- impl.ComposeTrees by hand: its contract. -/
import Derived.Test.YtpfnohdnaocpdaaPTx4
import Derived.Test.YtpfnohdnaocpdaaPTx7
import Derived.Test.YtpfnohdnaocpdaaPTcompC
namespace Go.Proofs.Ytpfnohdnaocpdaa.PT
open Go.RowKit Go.Proofs.YtpfnohdnaocpdaaW.PrintWords Go.Proofs.YtpfnohdnaocpdaaW.PrintLast Go.Proofs.YtpfnohdnaocpdaaW.PrintMore Go.Lib Go.Proofs.YtpfnohdnaocpdaaRP
set_option linter.unusedVariables false
set_option linter.unusedSimpArgs false
theorem impl_ComposeTrees.calls (k : Nat) (A0_0 : Option Addr) (c0_0 : Nat) (l0_0 : List (S89)) (A1_0 : Option Addr) (c1_0 : Nat) (l1_0 : List (S89)) (r1 : List (S89)) (r2 : Int) (w : World) (hr0_0 : Kd.C k89 w A0_0 l0_0.length l0_0) (hc0_0 : l0_0.length ≤ c0_0) (hr1_0 : Kd.C k89 w A1_0 l1_0.length l1_0) (hc1_0 : l1_0.length ≤ c1_0) (h : impl_ComposeTrees.f k l0_0 l1_0 = some (r1, r2)) :
    Calls Try.prog 30 #[.agg #[.slice A0_0 l0_0.length c0_0], .agg #[.slice A1_0 l1_0.length c1_0]] w fun e w' => ∃ v0_ : Value, e = .returned (.tuple #[.agg #[v0_], .int .i64 r2]) ∧ Kd.R k89 89 w' w.heap.size (fun _ => True) v0_ r1 ∧ Below w.heap.size w w' := by
  unfold impl_ComposeTrees.f at h
  obtain ⟨t, ht, h⟩ := Option.bind_eq_some_iff.mp h
  have hV : ∀ z : List S89, ∃ u, impl_ValidTree.f z = some u := fun z => ⟨_, rfl⟩
  by_cases ct : t = true
  case neg =>
    rw [if_neg ct] at h
    simp only [Option.some.injEq, Prod.mk.injEq] at h
    obtain ⟨rfl, rfl⟩ := h
    obtain ⟨u, hu⟩ := hV l1_0
    exact com_bad A0_0 A1_0 c0_0 c1_0 l0_0 l1_0 t u (by simp [ct]) w hr0_0 hc0_0 hr1_0 hc1_0 ht hu
  rw [if_pos ct] at h
  subst ct
  obtain ⟨u, hu, h⟩ := Option.bind_eq_some_iff.mp h
  by_cases cu : u = true
  case neg =>
    rw [if_neg cu] at h
    simp only [Option.some.injEq, Prod.mk.injEq] at h
    obtain ⟨rfl, rfl⟩ := h
    exact com_bad A0_0 A1_0 c0_0 c1_0 l0_0 l1_0 true u (by simp [cu]) w hr0_0 hc0_0 hr1_0 hc1_0 ht hu
  rw [if_pos cu] at h
  subst cu
  by_cases cb : okBoth l0_0 l1_0 = true
  case neg => rw [if_neg cb] at h; exact absurd h (by simp)
  rw [if_pos cb] at h
  obtain ⟨⟨rn, rf⟩, hr, h⟩ := Option.bind_eq_some_iff.mp h
  have hfin : fin (rn, rf) = (r1, r2) := Option.some.inj h
  simp only [okBoth, Bool.and_eq_true, decide_eq_true_eq] at cb
  obtain ⟨⟨⟨b1, b2⟩, b3⟩, b4, b5, b6, b7⟩ := cb
  exact com_good k A0_0 A1_0 c0_0 c1_0 l0_0 l1_0 w ⟨b1, b2, digT_of b3, b4, b5, hr0_0, hc0_0, hr1_0, hc1_0⟩ b6 b7 ht hu rn rf hr r1 r2 hfin
end Go.Proofs.Ytpfnohdnaocpdaa.PT

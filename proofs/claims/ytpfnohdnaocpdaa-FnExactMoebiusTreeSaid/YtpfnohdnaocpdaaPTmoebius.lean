/- impl.MoebiusTree by hand: its contract. -/
import Derived.Test.YtpfnohdnaocpdaaPTx6
import Derived.Test.YtpfnohdnaocpdaaPTmoebC
namespace Go.Proofs.Ytpfnohdnaocpdaa.PT
open Go.RowKit Go.Proofs.YtpfnohdnaocpdaaW.PrintWords Go.Proofs.YtpfnohdnaocpdaaW.PrintLast Go.Proofs.YtpfnohdnaocpdaaW.PrintMore Go.Lib Go.Proofs.YtpfnohdnaocpdaaRP
set_option linter.unusedVariables false
set_option linter.unusedSimpArgs false
theorem impl_MoebiusTree.calls (k : Nat) (a0_0 : Int) (a0_1 : Int) (a0_2 : Int) (a0_3 : Int) (r1 : List (S89)) (r2 : Int) (w : World) (h : impl_MoebiusTree.f k a0_0 a0_1 a0_2 a0_3 = some (r1, r2)) :
    Calls Try.prog 42 #[.agg #[.int .i64 a0_0, .int .i64 a0_1, .int .i64 a0_2, .int .i64 a0_3]] w fun e w' => ∃ v0_ : Value, e = .returned (.tuple #[.agg #[v0_], .int .i64 r2]) ∧ Kd.R k89 89 w' w.heap.size (fun _ => True) v0_ r1 ∧ Below w.heap.size w w' := by
  unfold impl_MoebiusTree.f at h
  obtain ⟨v, hv, h⟩ := Option.bind_eq_some_iff.mp h
  by_cases cv : v = true
  case neg =>
    rw [if_neg cv] at h
    simp only [Option.some.injEq, Prod.mk.injEq] at h
    obtain ⟨rfl, rfl⟩ := h
    have hf : v = false := by simpa using cv
    subst hf
    exact mt_bad1 k a0_0 a0_1 a0_2 a0_3 w hv
  rw [if_pos cv] at h
  subst cv
  obtain ⟨u, hu, h⟩ := Option.bind_eq_some_iff.mp h
  by_cases cu : u = true
  case neg =>
    rw [if_neg cu] at h
    simp only [Option.some.injEq, Prod.mk.injEq] at h
    obtain ⟨rfl, rfl⟩ := h
    have hf : u = false := by simpa using cu
    subst hf
    exact mt_bad2 k a0_0 a0_1 a0_2 a0_3 w hv hu
  rw [if_pos cu] at h
  subst cu
  obtain ⟨r, hr, h⟩ := Option.bind_eq_some_iff.mp h
  by_cases cw : wfS (s60 r) = true
  case neg => rw [if_neg cw] at h; exact absurd h (by simp)
  rw [if_pos cw] at h
  obtain ⟨⟨rn, rf⟩, hm, h⟩ := Option.bind_eq_some_iff.mp h
  exact mt_good k a0_0 a0_1 a0_2 a0_3 w hv hu r hr cw rn rf hm r1 r2 (Option.some.inj h)
end Go.Proofs.Ytpfnohdnaocpdaa.PT

/- What the laws find of the marks on digits. Plain Lean over the printed functions. -/
import Derived.Test.YtpfnohdnaocpdaaPTx14
import Derived.Test.YtpfnohdnaocpdaaPureStreamMark
namespace Go.Proofs.Ytpfnohdnaocpdaa.Pure
open Go.RowKit Go.Proofs.Ytpfnohdnaocpdaa.PT Go.Proofs.YtpfnohdnaocpdaaW.PrintWords Go.Proofs.YtpfnohdnaocpdaaW.PrintLast Go.Proofs.YtpfnohdnaocpdaaW.PrintMore Go.Proofs.YtpfnohdnaocpdaaRP
set_option linter.unusedVariables false
set_option linter.unusedSimpArgs false

theorem heldInt8S_loop (n : Nat) : ∀ (d : List Int) (a : Int), d.length + n ≤ 140737488355327 → 0 ≤ a → a + n ≤ 9223372036854775807 → Ev (fun k => laws_heldInt8S.l0 k (d ++ mks8 n a) a (d.length : Int)) (a + n) := by
  induction n with
  | zero =>
    intro d a h h0 h1
    simp only [mks8]
    refine Ev.step (fun k => rfl) (Ev.neg (by simp) ?_)
    rw [show a + ((0 : Nat) : Int) = a from by omega]
    exact Ev.now _
  | succ n ih =>
    intro d a h h0 h1
    have hq := ih (d ++ [IntKind.i8.wrap a]) (a + 1) (by simp; omega) (by omega) (by omega)
    simp only [mks8]
    refine Ev.step (fun k => rfl) (Ev.pos (by simp; omega) (Ev.pos (by omega) (Ev.pos (by rw [rd_mid]) ?_)))
    rw [wrap_id (i := a + 1) (by omega) (by omega), wnext d.length (by omega)]
    simp only [List.length_append, List.length_cons, List.length_nil, List.append_assoc, List.cons_append, List.nil_append, Nat.zero_add] at hq
    rw [show a + ((n + 1 : Nat) : Int) = a + 1 + (n : Int) from by omega]
    exact hq
theorem heldInt8S_ev (n : Nat) (h : n ≤ 140737488355327) : Ev (fun k => laws_heldInt8S.f k (mks8 n 1) 1) (1 + n) := heldInt8S_loop n [] 1 (by simpa using h) (by omega) (by omega)
/-! ### the digits that are told -/
end Go.Proofs.Ytpfnohdnaocpdaa.Pure

/- Streams alike. Plain Lean over the printed functions. -/
import Derived.Test.YtpfnohdnaocpdaaPTx2
import Derived.Test.YtpfnohdnaocpdaaPureEv
namespace Go.Proofs.Ytpfnohdnaocpdaa.Pure
open Go.RowKit Go.Proofs.Ytpfnohdnaocpdaa.PT Go.Proofs.YtpfnohdnaocpdaaW.PrintWords Go.Proofs.YtpfnohdnaocpdaaW.PrintLast Go.Proofs.YtpfnohdnaocpdaaW.PrintMore Go.Proofs.YtpfnohdnaocpdaaRP
set_option linter.unusedVariables false
set_option linter.unusedSimpArgs false
theorem eqInt8S_loop (a : List Int) (hn : a.length ≤ 140737488355327) (d : Nat) : ∀ (i : Nat), i + d = a.length → Ev (fun k => laws_eqInt8S.l0 k a a (i : Int)) true := by
  induction d with
  | zero => intro i hi; exact Ev.step (fun k => rfl) (Ev.neg (by omega) (Ev.now _))
  | succ d ih =>
    intro i hi
    refine Ev.step (fun k => rfl) (Ev.pos (by omega) (Ev.pos (by omega) (Ev.pos (by omega) (Ev.pos rfl ?_))))
    rw [wnext i (by omega)]
    exact ih (i + 1) (by omega)
theorem eqInt8S_ev (a : List Int) (hn : a.length ≤ 140737488355327) : Ev (fun k => laws_eqInt8S.f k a a) true := by
  unfold laws_eqInt8S.f
  exact Ev.pos rfl (eqInt8S_loop a hn a.length 0 (by omega))
theorem eqStream_ev (h l : List Int) (hh : h.length ≤ 140737488355327) (hl : l.length ≤ 140737488355327) : Ev (fun k => laws_eqStream.f k h l h l) true := by
  unfold laws_eqStream.f
  exact Ev.bind (eqInt8S_ev h hh) (Ev.pos rfl (Ev.bind (eqInt8S_ev l hl) (Ev.pos rfl (Ev.now _))))
end Go.Proofs.Ytpfnohdnaocpdaa.Pure

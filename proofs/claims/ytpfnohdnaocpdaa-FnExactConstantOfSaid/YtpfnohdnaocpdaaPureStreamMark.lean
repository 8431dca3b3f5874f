/- What the laws mark in streams. Plain Lean over the printed functions. -/
import Derived.Test.YtpfnohdnaocpdaaPTx3
import Derived.Test.YtpfnohdnaocpdaaPureEv
namespace Go.Proofs.Ytpfnohdnaocpdaa.Pure
open Go.RowKit Go.Proofs.Ytpfnohdnaocpdaa.PT Go.Proofs.YtpfnohdnaocpdaaW.PrintWords Go.Proofs.YtpfnohdnaocpdaaW.PrintLast Go.Proofs.YtpfnohdnaocpdaaW.PrintMore Go.Proofs.YtpfnohdnaocpdaaRP
set_option linter.unusedVariables false
set_option linter.unusedSimpArgs false
def mks8 : Nat → Int → List Int
  | 0, _ => []
  | n + 1, a => IntKind.i8.wrap a :: mks8 n (a + 1)
theorem markInt8S_loop (r : List Int) : ∀ (d : List Int) (a : Int), d.length + r.length ≤ 140737488355327 → 0 ≤ a → a + r.length ≤ 9223372036854775807 → Ev (fun k => laws_markInt8S.l0 k (d ++ r) a (d.length : Int)) (a + r.length, d ++ mks8 r.length a) := by
  induction r with
  | nil =>
    intro d a h h0 h1
    refine Ev.step (fun k => rfl) (Ev.neg (by simp) ?_)
    simp only [List.length_nil, mks8]
    rw [show a + ((0 : Nat) : Int) = a from by omega]
    exact Ev.now _
  | cons x r ih =>
    intro d a h h0 h1
    simp only [List.length_cons] at h h1
    have hq := ih (d ++ [IntKind.i8.wrap a]) (a + 1) (by simp; omega) (by omega) (by omega)
    refine Ev.step (fun k => rfl) (Ev.pos (by simp; omega) (Ev.pos (by omega) ?_))
    rw [set_mid, wrap_id (i := a + 1) (by omega) (by omega), wnext d.length (by omega)]
    simp only [List.length_append, List.length_cons, List.length_nil, List.append_assoc, List.cons_append, List.nil_append, Nat.zero_add] at hq
    simp only [List.length_cons, mks8]
    rw [show a + ((r.length + 1 : Nat) : Int) = a + 1 + (r.length : Int) from by omega]
    exact hq
theorem markInt8S_ev (l : List Int) (a : Int) (h : l.length ≤ 140737488355327) (h0 : 0 ≤ a) (h1 : a ≤ 1000000000000000) : Ev (fun k => laws_markInt8S.f k l a) (a + l.length, mks8 l.length a) :=
  markInt8S_loop l [] a (by simpa using h) h0 (by omega)
theorem markStream_ev (h l : List Int) (hh : h.length ≤ 140737488355327) (hl : l.length ≤ 140737488355327) (a : Int) (h0 : 0 ≤ a) (h1 : a ≤ 800000000000000) : ∃ x y : List Int, Ev (fun k => laws_markStream.f k h l a) (a + h.length + l.length, x, y) :=
  ⟨_, _, Ev.bind (markInt8S_ev h a hh h0 (by omega)) (Ev.bind (markInt8S_ev l (a + h.length) hl (by omega) (by omega)) (Ev.now _))⟩
end Go.Proofs.Ytpfnohdnaocpdaa.Pure

/- The digits that the program's machines tell. Plain Lean over the printed functions. -/
import Derived.Test.YtififhihgkbafaaPMx9
import Derived.Test.YtififhihgkbafaaPureMach
namespace Go.Proofs.Ytififhihgkbafaa.Pure
open Go.RowKit Go.Proofs.Ytififhihgkbafaa.PM Go.Proofs.YtififhihgkbafaaW.PrintWords Go.Proofs.YtififhihgkbafaaW.PrintLast Go.Proofs.YtififhihgkbafaaW.PrintMore
set_option linter.unusedVariables false
set_option linter.unusedSimpArgs false
/-! ### the digits that are told -/
def digsOf (l : List S51) : List Int := (l.filter fun x => x.f0).map fun x => x.f1
theorem digsOf_len (l : List S51) : (digsOf l).length ≤ l.length := by
  unfold digsOf; rw [List.length_map]; exact List.length_filter_le _ _
theorem idigs_loop (T : List S51) (hT : T.length ≤ 461) (r : List S51) : ∀ (d : List S51) (out : List Int), d ++ r = T → out = digsOf d → Ev (fun k => impl_MoebiusDigits.l0 k T out T (T.length : Int) (d.length : Int)) (digsOf T, (T.length : Int) - ((digsOf T).length : Int), 0) := by
  have hl := digsOf_len T
  induction r with
  | nil =>
    intro d out hd ho
    rw [List.append_nil] at hd
    subst hd ho
    refine Ev.step (fun k => rfl) (Ev.neg (by omega) ?_)
    rw [wrap_id (by omega) (by omega)]
    exact Ev.now _
  | cons x r ih =>
    intro d out hd ho
    have hln : d.length < T.length := by rw [← hd]; simp
    have hr : rd_T51 T (d.length : Int) = x := by rw [← hd, rd51_mid]
    have hol : out.length ≤ T.length := by rw [ho]; exact Nat.le_trans (digsOf_len d) (by omega)
    have hq := ih (d ++ [x]) (digsOf (d ++ [x])) (by rw [← hd]; simp) rfl
    refine Ev.step (fun k => rfl) (Ev.pos (by omega) (Ev.pos (by omega) (Ev.pos (by omega) ?_)))
    rw [hr, wnext d.length (by omega)]
    rw [List.length_append, List.length_singleton] at hq
    cases hx : x.f0 with
    | true =>
      refine Ev.pos rfl (Ev.pos (by omega) ?_)
      rw [ho, show digsOf d ++ [x.f1] = digsOf (d ++ [x]) from by simp [digsOf, hx]]
      exact hq
    | false =>
      refine Ev.neg (by decide) ?_
      rw [ho, show digsOf d = digsOf (d ++ [x]) from by simp [digsOf, hx]]
      exact hq
def digitsOf (m : M4) (h l : List Int) (n : Int) : List Int × Int × Int :=
  if (turnsOf m h l n).2 = 0 then (digsOf (turnsOf m h l n).1, ((turnsOf m h l n).1.length : Int) - ((digsOf (turnsOf m h l n).1).length : Int), 0) else ([], 0, (turnsOf m h l n).2)
theorem idigits_ev (m : M4) (h l : List Int) (n : Int) : Ev (fun k => impl_MoebiusDigits.f k m.a m.b m.c m.d h l n) (digitsOf m h l n) := by
  unfold impl_MoebiusDigits.f digitsOf
  refine Ev.bind (irun_ev m h l n) ?_
  have ln := turnsOf_len m h l n
  generalize turnsOf m h l n = T at ln ⊢
  by_cases c : T.2 = 0
  · rw [if_pos c]
    exact Ev.pos c (idigs_loop T.1 ln T.1 [] [] rfl rfl)
  · rw [if_neg c]
    exact Ev.neg c (Ev.now _)
theorem digitsOf_len (m : M4) (h l : List Int) (n : Int) : (digitsOf m h l n).1.length ≤ 461 := by
  unfold digitsOf
  split
  · exact Nat.le_trans (digsOf_len _) (turnsOf_len m h l n)
  · simp
end Go.Proofs.Ytififhihgkbafaa.Pure

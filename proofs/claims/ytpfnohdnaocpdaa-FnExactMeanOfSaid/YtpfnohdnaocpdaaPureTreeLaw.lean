/- Trees that come in: their sizes, copies, equality. Plain Lean over the printed functions. -/
import Derived.Test.YtpfnohdnaocpdaaPTx1
import Derived.Test.YtpfnohdnaocpdaaPureTreeEq
namespace Go.Proofs.Ytpfnohdnaocpdaa.Pure
open Go.RowKit Go.Proofs.Ytpfnohdnaocpdaa.PT Go.Proofs.YtpfnohdnaocpdaaW.PrintWords Go.Proofs.YtpfnohdnaocpdaaW.PrintLast Go.Proofs.YtpfnohdnaocpdaaW.PrintMore Go.Proofs.YtpfnohdnaocpdaaRP
set_option linter.unusedVariables false
set_option linter.unusedSimpArgs false
theorem szTree_some (l : List S158) (c : Int) : ∃ r, laws_szTree.f l c = some r := by
  unfold laws_szTree.f laws_szForkS.f
  repeat' split
  all_goals simp only [Option.bind_some]
  all_goals repeat' split
  all_goals exact ⟨_, rfl⟩
def convF (x : S158) : S89 := ⟨x.f0, x.f1, x.f2⟩
theorem wsmall {i : Int} (h0 : 0 ≤ i) (h : i ≤ 100) : wrap64 (i + 1) = i + 1 := by unfold wrap64; omega
theorem toA3_ev (a b c : Int) : Ev (fun k => laws_toInt16A3.f k a b c) (a, b, c) := by
  unfold laws_toInt16A3.f
  have e0 : wrap64 ((0 : Int) + 1) = 1 := by unfold wrap64; omega
  have e1 : wrap64 ((1 : Int) + 1) = 2 := by unfold wrap64; omega
  have e2 : wrap64 ((2 : Int) + 1) = 3 := by unfold wrap64; omega
  refine Ev.step (fun k => rfl) ?_
  refine Ev.pos (by decide) (Ev.pos (by decide) ?_)
  rw [e0]
  refine Ev.step (fun k => rfl) ?_
  refine Ev.pos (by decide) (Ev.pos (by decide) ?_)
  rw [e1]
  refine Ev.step (fun k => rfl) ?_
  refine Ev.pos (by decide) (Ev.pos (by decide) ?_)
  rw [e2]
  refine Ev.step (fun k => rfl) ?_
  refine Ev.neg (by decide) (Ev.to (Ev.now _) ?_)
  rfl
theorem rd158_mid (d : List S158) (x : S158) (r : List S158) : rd_T158 (d ++ x :: r) (d.length : Int) = x := by
  simp [rd_T158, List.getD]
theorem toForkS_loop (r : List S158) : ∀ (d : List S158) (y : List S89), d.length + r.length ≤ 140737488355327 → y.length = r.length → Ev (fun k => laws_toForkS.l0 k (d ++ r) (d.map convF ++ y) (d.length : Int)) ((d ++ r).map convF) := by
  induction r with
  | nil =>
    intro d y h hy
    obtain rfl := List.eq_nil_of_length_eq_zero hy
    refine Ev.step (fun k => rfl) ?_
    simp only [laws_toForkS.l0]
    exact Ev.neg (by simp) (Ev.to (Ev.now _) (by simp))
  | cons x r ih =>
    intro d y h hy
    match y, hy with
    | y0 :: y, hy =>
      simp only [List.length_cons] at h hy
      refine Ev.step (fun k => rfl) ?_
      simp only [laws_toForkS.l0]
      refine Ev.pos (by simp; omega) (Ev.pos (by omega) ?_)
      rw [rd158_mid]
      refine Ev.bind (Ev.bind (toA3_ev _ _ _) (Ev.now _)) (Ev.pos (by simp; omega) ?_)
      rw [wnext d.length (by omega)]
      have hq := ih (d ++ [x]) y (by simp; omega) (by omega)
      have hs : (d.map convF ++ y0 :: y).set ((d.length : Int)).toNat (convF x) = (d ++ [x]).map convF ++ y := by
        have := set_mid (d.map convF) y0 (convF x) y
        rw [List.length_map] at this
        rw [this]; simp
      rw [List.append_assoc] at hq
      simp only [List.length_append, List.length_cons, List.length_nil, List.cons_append, List.nil_append, Nat.zero_add] at hq
      exact Ev.congr (fun k => by rw [← hs]; rfl) hq
theorem toTree_ev (l : List S158) (h : l.length ≤ 35184372088832) : Ev (fun k => laws_toTree.f k l) (l.map convF) := by
  unfold laws_toTree.f laws_toForkS.f
  refine Ev.bind (Ev.pos (by omega) (Ev.pos (by omega) ?_)) (Ev.now _)
  have := toForkS_loop l [] (List.replicate l.length z89) (by simp; omega) (by simp)
  simpa using this
end Go.Proofs.Ytpfnohdnaocpdaa.Pure

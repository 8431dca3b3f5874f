/- The law about the first digit told apart. Plain Lean over the printed functions. -/
import Derived.Test.YtpfnohdnaocpdaaPTx8
import Derived.Test.YtpfnohdnaocpdaaPTx4
import Derived.Test.YtpfnohdnaocpdaaPTx7
import Derived.Test.YtpfnohdnaocpdaaPureRun
import Derived.Test.YtpfnohdnaocpdaaDataPT
import Derived.OpenShut
namespace Go.Proofs.Ytpfnohdnaocpdaa.Pure
open Go.RowKit Go.Proofs.Ytpfnohdnaocpdaa.PT Go.Proofs.YtpfnohdnaocpdaaW.PrintWords Go.Proofs.YtpfnohdnaocpdaaW.PrintLast Go.Proofs.YtpfnohdnaocpdaaW.PrintMore Go.Proofs.YtpfnohdnaocpdaaRP
set_option linter.unusedVariables false
set_option linter.unusedSimpArgs false
theorem Rg_conv {xs : List S158} (h : GL22 xs) : ∀ x ∈ xs.map convF, Rg x := by
  intro x hx
  obtain ⟨y, hy, rfl⟩ := List.mem_map.1 hx
  have g := (h.1 y hy).2.2
  exact ⟨Go.bounds_i16 g.1, Go.bounds_i16 g.2.1, Go.bounds_i16 g.2.2⟩
/-- The first place where two rows of digits are not the same. -/
def firstI (a b : List Int) : Nat → Nat → Int × Int
  | 0, _ => (0, 6)
  | d + 1, i => if rd a (i : Int) = rd b (i : Int) then firstI a b d (i + 1) else ((i : Int), 0)
theorem sfirst_l0 (a b : List Int) (e : b.length = a.length) (h : a.length ≤ 60) (d : Nat) : ∀ i : Nat, i + d = a.length → Ev (fun k => spec_FirstDigitApart.l0 k a b (i : Int)) (firstI a b d i) := by
  induction d with
  | zero =>
    intro i hi
    refine Ev.step (fun k => rfl) ?_
    exact Ev.neg (by omega) (Ev.now _)
  | succ d ih =>
    intro i hi
    refine Ev.step (fun k => rfl) ?_
    refine Ev.pos (by omega) (Ev.pos (by omega) (Ev.pos (by omega) ?_))
    unfold firstI
    by_cases c : rd a (i : Int) = rd b (i : Int)
    · rw [if_pos c]
      refine Ev.pos c ?_
      rw [wnext i (by omega)]
      exact ih (i + 1) (by omega)
    · rw [if_neg c]
      exact Ev.neg c (Ev.now _)
theorem ifirst_l0 (a b : List Int) (e : b.length = a.length) (h : a.length ≤ 60) (d : Nat) : ∀ i : Nat, i + d = a.length → Ev (fun k => impl_FirstDigitApart.l0 k a b (a.length : Int) (i : Int)) (firstI a b d i) := by
  induction d with
  | zero =>
    intro i hi
    refine Ev.step (fun k => rfl) ?_
    exact Ev.neg (by omega) (Ev.now _)
  | succ d ih =>
    intro i hi
    refine Ev.step (fun k => rfl) ?_
    refine Ev.pos (by omega) (Ev.pos (by omega) (Ev.pos (by omega) (Ev.pos (by omega) ?_)))
    unfold firstI
    by_cases c : rd a (i : Int) = rd b (i : Int)
    · rw [if_pos c]
      refine Ev.pos c ?_
      rw [wnext i (by omega)]
      exact ih (i + 1) (by omega)
    · rw [if_neg c]
      exact Ev.neg c (Ev.now _)
noncomputable def ansF (T U : List S89) (h s : List Int) (n : Int) : Int × Int :=
  if validT U = true then
    (if codeR T h s n = 0 then
      (if (runT T h s n).2.2 = 0 then (if (runT U h s n).2.2 = 0 then firstI (runT T h s n).1 (runT U h s n).1 (runT T h s n).1.length 0 else (0, 7)) else (0, 7))
    else (0, codeR T h s n))
  else (0, 1)
theorem code_both {T U : List S89} {h s : List Int} {n : Int} (u : validT U = true) (c : codeR T h s n = 0) : codeR U h s n = 0 := by
  unfold codeR at c ⊢
  rw [u, Bool.true_and]
  by_cases t : validT T = true
  · rw [t, Bool.true_and] at c
    exact c
  · rw [show validT T = false from by simpa using t, Bool.false_and] at c
    exact absurd c (by simp)
theorem code_bad {T : List S89} {h s : List Int} {n : Int} (t : ¬ (validT T = true ∧ okS h s = true)) : codeR T h s n = 1 := by
  unfold codeR
  rw [if_neg (by rw [Bool.and_eq_true]; exact t)]
theorem sfirst_ev {T U : List S89} {h s : List Int} {n : Int} (hT : ∀ x ∈ T, Rg x) (hU : ∀ x ∈ U, Rg x) (lT : T.length ≤ 140737488355327) (lU : U.length ≤ 140737488355327) (lh : h.length ≤ 140737488355327) (ls : s.length ≤ 140737488355327) : Ev (fun k => spec_FirstDigitApart.f k T U h s n) (ansF T U h s n) := by
  unfold spec_FirstDigitApart.f
  have key : ∀ b : Bool, (b = true → ansF T U h s n = (0, 1)) → (b = false → validT U = true) → Ev (fun k => spec_FirstDigitApart.j0 k n b T U h s) (ansF T U h s n) := by
    intro b hb hb2
    refine Ev.step (fun k => rfl) ?_
    cases b with
    | true => rw [hb rfl]; exact ⟨0, fun _ _ => rfl⟩
    | false =>
      have u := hb2 rfl
      simp only [spec_FirstDigitApart.j0, Bool.false_eq_true, ↓reduceIte]
      refine Ev.bind (sgiven_ev hT lT lh ls) ?_
      unfold ansF
      rw [if_pos u]
      by_cases c : codeR T h s n = 0
      · have c' := code_both u c
        rw [if_pos c]
        refine Ev.pos c (Ev.bind (srun_ev hT c) (Ev.bind (srun_ev hU c') ?_))
        have q := (runT_ev hT c).2
        have q' := (runT_ev hU c').2
        generalize runT T h s n = A at q ⊢
        generalize runT U h s n = B at q' ⊢
        by_cases a0 : A.2.2 = 0
        · rw [if_pos a0]
          refine Ev.pos a0 (Ev.step (fun k => rfl) ?_)
          by_cases b0 : B.2.2 = 0
          · rw [if_pos b0]
            refine Ev.neg (by simp [b0]) (Ev.to (sfirst_l0 A.1 B.1 (by omega) q.1 A.1.length 0 (by omega)) rfl)
          · rw [if_neg b0]
            exact Ev.pos (by simp [b0]) (Ev.now _)
        · rw [if_neg a0]
          refine Ev.neg a0 (Ev.step (fun k => rfl) ?_)
          exact ⟨0, fun _ _ => rfl⟩
      · rw [if_neg c]
        exact Ev.neg c (Ev.now _)
  refine Ev.bind (sokT_ev T hT lT) ?_
  by_cases c : validT T = true
  · refine Ev.pos c (Ev.bind (sokT_ev U hU lU) (key _ (fun hb => ?_) (fun hb => by simpa using hb)))
    unfold ansF
    rw [if_neg (by simpa using hb)]
  · refine Ev.neg c (key true (fun _ => ?_) (fun h => by cases h))
    unfold ansF
    rw [code_bad (fun h => c h.1)]
    split
    · rfl
    · rfl
theorem ifirst_ev {T U : List S89} {h s : List Int} {n : Int} (hT : ∀ x ∈ T, Rg x) (hU : ∀ x ∈ U, Rg x) : Ev (fun k => impl_FirstDigitApart.f k T U h s n) (ansF T U h s n) := by
  unfold impl_FirstDigitApart.f
  rw [ivalidT_eq, ivalidT_eq]
  simp only [Option.bind_some, ivalidS_eq]
  have key : ∀ b : Bool, (b = true → ansF T U h s n = (0, 1)) → (b = false → validT T = true ∧ validT U = true ∧ okS h s = true) → Ev (fun k => impl_FirstDigitApart.j0 k n b T U h s) (ansF T U h s n) := by
    intro b hb hb2
    refine Ev.step (fun k => rfl) ?_
    cases b with
    | true => rw [hb rfl]; exact ⟨0, fun _ _ => rfl⟩
    | false =>
      obtain ⟨t, u, o⟩ := hb2 rfl
      simp only [impl_FirstDigitApart.j0, Bool.false_eq_true, ↓reduceIte]
      refine Ev.bind (irunT_ev hT) ?_
      unfold ansF ansR
      rw [if_pos u]
      by_cases c : codeR T h s n = 0
      · have c' := code_both u c
        rw [if_pos c, if_pos c]
        have q := (runT_ev hT c).2
        have q' := (runT_ev hU c').2
        have iu := irunT_ev (h := h) (s := s) (n := n) hU
        unfold ansR at iu
        rw [if_pos c'] at iu
        generalize runT T h s n = A at q ⊢
        generalize runT U h s n = B at q' iu ⊢
        by_cases a0 : A.2.2 = 0
        · rw [if_pos a0]
          refine Ev.pos a0 (Ev.bind iu ?_)
          by_cases b0 : B.2.2 = 0
          · rw [if_pos b0]
            exact Ev.pos b0 (Ev.to (ifirst_l0 A.1 B.1 (by omega) q.1 A.1.length 0 (by omega)) rfl)
          · rw [if_neg b0]
            refine Ev.neg b0 (Ev.to (Ev.now _) ?_)
            rw [show B.2.2 = 7 by omega]
        · rw [if_neg a0]
          refine Ev.neg a0 (Ev.to (Ev.now _) ?_)
          rw [show A.2.2 = 7 by omega]
      · rw [if_neg c, if_neg c]
        exact Ev.neg c (Ev.now _)
  have bad : ¬ (validT T = true ∧ okS h s = true) → ansF T U h s n = (0, 1) := by
    intro g
    unfold ansF
    rw [code_bad g]
    split
    · rfl
    · rfl
  have badU : ¬ validT U = true → ansF T U h s n = (0, 1) := by
    intro g
    unfold ansF
    rw [if_neg g]
  by_cases c : validT T = true
  · refine Ev.pos c ?_
    by_cases u : validT U = true
    · exact Ev.pos u (key _ (fun hb => bad (fun g => by rw [g.2] at hb; cases hb)) (fun hb => ⟨c, u, by simpa using hb⟩))
    · exact Ev.neg u (key true (fun _ => badU u) (fun h => by cases h))
  · exact Ev.neg c (key true (fun _ => bad (fun h => c h.1)) (fun h => by cases h))

/-- What the law about the first digit told apart needs. -/
theorem FnExactFirstDigitApart (t u : S24) (s : S27) (n : Int) (gt : G24 t) (gu : G24 u) (gs : G27 s) (gn : (Lit.int .i64 n).wf = true) : ∃ k, laws_FnExactFirstDigitApart.f k t.f0 u.f0 s.f0 s.f1 n = some true := by
  have hh : s.f0.length ≤ 140737488355327 := by have := gs.1.2; omega
  have hl : s.f1.length ≤ 140737488355327 := by have := gs.2.2; omega
  have ht : t.f0.length ≤ 17592186044000 := by have := gt.2; omega
  have hu : u.f0.length ≤ 17592186044000 := by have := gu.2; omega
  have hw := Rg_conv gt
  have hv := Rg_conv gu
  refine Ev.rounds (g := fun k => laws_FnExactFirstDigitApart.f k t.f0 u.f0 s.f0 s.f1 n) ?_
  unfold laws_FnExactFirstDigitApart.f
  obtain ⟨r0, hr0⟩ := szTree_some t.f0 1048576
  simp only [hr0, Option.bind_some]
  by_cases c0 : r0 < 0
  · exact Ev.pos c0 (Ev.now _)
  obtain ⟨r1, hr1⟩ := szTree_some u.f0 r0
  refine Ev.neg c0 ?_
  simp only [hr1, Option.bind_some]
  by_cases c1 : r1 < 0
  · exact Ev.pos c1 (Ev.now _)
  obtain ⟨r, hr⟩ := sz_some s.f0 s.f1 r1
  refine Ev.neg c1 ?_
  simp only [hr, Option.bind_some]
  by_cases c : r < 0
  · exact Ev.pos c (Ev.now _)
  have tS := toStream_ev s.f0 s.f1 hh hl
  have tT := toTree_ev t.f0 (by omega)
  have tU := toTree_ev u.f0 (by omega)
  have lT : (t.f0.map convF).length = t.f0.length := by simp
  have lU : (u.f0.map convF).length = u.f0.length := by simp
  have eT := eqTree_ev (t.f0.map convF) (by omega)
  have eU := eqTree_ev (u.f0.map convF) (by omega)
  generalize t.f0.map convF = T at hw tT lT eT
  generalize u.f0.map convF = U at hv tU lU eU
  have sp := sfirst_ev (n := n) hw hv (by omega) (by omega) hh hl
  have im := ifirst_ev (h := s.f0) (s := s.f1) (n := n) hw hv
  generalize ansF T U s.f0 s.f1 n = A at sp im
  refine Ev.neg c (Ev.bind tT (Ev.bind tU (Ev.bind tS (Ev.bind sp (Ev.bind tT (Ev.bind tU (Ev.bind tS (Ev.bind im (Ev.pos (by first | rfl | trivial) (Ev.step (fun k => rfl) ?_))))))))))
  simp only [laws_FnExactFirstDigitApart.j0]
  exact Ev.neg (by simp) (Ev.bind tT (Ev.bind eT (Ev.pos (by first | rfl | trivial) (Ev.bind tU (Ev.bind eU (Ev.pos (by first | rfl | trivial) (Ev.bind tS (Ev.bind (eqStream_ev _ _ hh hl) (Ev.pos (by first | rfl | trivial) (Ev.now _))))))))))
end Go.Proofs.Ytpfnohdnaocpdaa.Pure

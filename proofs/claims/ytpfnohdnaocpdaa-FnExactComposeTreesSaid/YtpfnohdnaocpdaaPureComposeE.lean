/- ComposeTrees: both answers, for all trees. Plain Lean over the printed functions. -/
import Derived.Test.YtpfnohdnaocpdaaPTx6
import Derived.Test.YtpfnohdnaocpdaaPureCompose
namespace Go.Proofs.Ytpfnohdnaocpdaa.Pure
open Go.RowKit Go.Proofs.Ytpfnohdnaocpdaa.PT Go.Proofs.YtpfnohdnaocpdaaW.PrintWords Go.Proofs.YtpfnohdnaocpdaaW.PrintLast Go.Proofs.YtpfnohdnaocpdaaW.PrintMore Go.Proofs.YtpfnohdnaocpdaaRP
set_option linter.unusedVariables false
set_option linter.unusedSimpArgs false
theorem nodeV {l : List S89} (hw : ∀ x ∈ l, Rg x) (hv : validT l = true) : ∀ x ∈ l, (0 ≤ x.f2.f0 ∧ x.f2.f0 < l.length) ∧ (0 ≤ x.f2.f1 ∧ x.f2.f1 < l.length) ∧ (0 ≤ x.f2.f2 ∧ x.f2.f2 < l.length) ∧ ((x.f0 = 1 ∧ x.f1 = 0) ∨ (x.f0 = 2 ∧ -1 ≤ x.f1 ∧ x.f1 ≤ 1 ∧ x.f2.f1 = 0 ∧ x.f2.f2 = 0)) := fun x hx =>
  (forkB_iff (hw x hx)).1 ((validT_iff.1 hv).2.2 x hx)
theorem okT_v {l : List S89} (hw : ∀ x ∈ l, Rg x) (hv : validT l = true) : okT l = true := by
  refine List.all_eq_true.2 fun x hx => ?_
  obtain ⟨h0, h1, h2, hk⟩ := nodeV hw hv x hx
  simp only [okN, Bool.and_eq_true, Bool.or_eq_true, beq_iff_eq, decide_eq_true_eq]
  refine ⟨⟨⟨?_, h0⟩, h1⟩, h2⟩
  rcases hk with hk | hk
  · exact .inl hk.1
  · exact .inr hk.1
theorem digTb_v {l : List S89} (hw : ∀ x ∈ l, Rg x) (hv : validT l = true) : digTb l = true := by
  refine List.all_eq_true.2 fun x hx => ?_
  obtain ⟨_, _, _, hk⟩ := nodeV hw hv x hx
  rw [decide_eq_true_eq]
  rcases hk with hk | hk
  · rw [hk.2]; decide
  · exact ⟨hk.2.1, hk.2.2.1⟩
theorem fndL_nil (p : S98) : fndL [] p = [p] := by
  unfold fndL
  rw [if_neg (by simp)]
  rfl
theorem compose_ev (l m : List S89) (hw : ∀ x ∈ l, Rg x) (hwm : ∀ x ∈ m, Rg x) (hl : l.length ≤ 140737488355327) (hm : m.length ≤ 140737488355327) : ∃ A : List S89 × Int, Ev (fun k => spec_ComposeTrees.f k l m) A ∧ Ev (fun k => impl_ComposeTrees.f k l m) A ∧ A.1.length ≤ 60 := by
  have sl := sokT_ev l hw hl
  have sm := sokT_ev m hwm hm
  have bad : Ev (fun k => spec_ComposeTrees.j0 k true l m) ([], 1) := by
    refine Ev.step (fun k => rfl) ?_
    simp only [spec_ComposeTrees.j0]
    exact Ev.pos (by first | rfl | trivial) (Ev.now _)
  unfold spec_ComposeTrees.f impl_ComposeTrees.f
  rw [ivalidT_eq l, ivalidT_eq m]
  by_cases vl : validT l = true
  case neg =>
    refine ⟨([], 1), Ev.bind sl (Ev.neg vl bad), Ev.bind (Ev.now _) (Ev.neg vl (Ev.now _)), by simp⟩
  by_cases vm : validT m = true
  case neg =>
    have vm' : validT m = false := by simpa using vm
    refine ⟨([], 1), Ev.bind sl (Ev.pos vl (Ev.bind sm ?_)), Ev.bind (Ev.now _) (Ev.pos vl (Ev.bind (Ev.now _) (Ev.neg vm (Ev.now _)))), by simp⟩
    rw [vm']
    exact bad
  have kl := okT_v hw vl
  have km := okT_v hwm vm
  have db := digTb_v hwm vm
  have dm := digT_of db
  have L := validT_iff.1 vl
  have M := validT_iff.1 vm
  have hdl : ∀ a : Int, 0 ≤ a → a < l.length → (rd_T89 l a).f0 = 1 → (rd_T89 l a).f1 = 0 := by
    intro a a0 a1 h1
    obtain ⟨_, _, _, hk⟩ := nodeV hw vl _ (rd89_mem a0 a1)
    rcases hk with hk | hk
    · exact hk.2
    · rw [hk.1] at h1; exact absurd h1 (by decide)
  have hb : okBoth l m = true := by
    simp only [okBoth, Bool.and_eq_true, decide_eq_true_eq]
    exact ⟨⟨⟨kl, km⟩, db⟩, L.2.1, M.2.1, L.1, M.1⟩
  have hin : InR l m 0 0 := ⟨Int.le_refl 0, by have := L.1; omega, Int.le_refl 0, by have := M.1; omega⟩
  have hj := join_ev kl km dm L.2.1 M.2.1 [] (by simp) 0 0 hin
  have fin60 : ∀ r : List S89 × Bool, (fin r).1.length ≤ 60 := by
    intro r
    unfold fin
    split
    · simp
    · split
      · simp
      · show r.1.length ≤ 60
        omega
  have good : ∀ r : List S89 × Bool, Ev (fun k => cmp l m k [(st l m 0 0).1] [] 0 (st l m 0 0).2) r → Ev (fun k => spec_ComposeTrees.l0 k (joinR [] (st l m 0 0)).1 (joinR [] (st l m 0 0)).2.2 0 l m []) (fin r) → ∃ A : List S89 × Int, Ev (fun k => (spec_l06Ok.f k [⟨l⟩]).bind fun t187 => (if t187 = true then ((spec_l06Ok.f k [⟨m⟩]).bind fun t189 => (spec_ComposeTrees.j0 k (!t189) l m)) else (spec_ComposeTrees.j0 k true l m))) A ∧ Ev (fun k => (some (validT l)).bind fun t => if t = true then ((some (validT m)).bind fun u => if u = true then (if okBoth l m = true then ((cmp l m k [(st l m 0 0).1] [] 0 (st l m 0 0).2).bind fun r => some (fin r)) else none) else some ([], 1)) else some ([], 1)) A ∧ A.1.length ≤ 60 := by
    intro r h1 h2
    refine ⟨fin r, Ev.bind sl (Ev.pos vl (Ev.bind sm ?_)), Ev.bind (Ev.now _) (Ev.pos vl (Ev.bind (Ev.now _) (Ev.pos vm (Ev.pos hb (Ev.bind h1 (Ev.now _)))))), fin60 r⟩
    rw [vm]
    refine Ev.step (fun k => rfl) ?_
    simp only [spec_ComposeTrees.j0]
    exact Ev.neg (by decide) (Ev.bind hj h2)
  by_cases s0 : (st l m 0 0).2 = true
  · have hC : Cov l.length m.length [(st l m 0 0).1] := by
      have := (Cov.nil l.length m.length).fnd (p := (st l m 0 0).1) (standsN_in kl km dm _ 0 0 hin)
      rwa [fndL_nil] at this
    obtain ⟨r, e1, e2⟩ := comp_ev kl km hdl dm L.2.1 M.2.1 (l.length * m.length) 0 [(st l m 0 0).1] [] (by simp) hC rfl (by omega)
    refine good r (by rw [s0]; exact e1) ?_
    rw [joinR_t s0, fndL_nil]
    exact e2
  · have sf : (st l m 0 0).2 = false := by simpa using s0
    refine good ([], false) (by rw [sf]; exact cmp_bad _ _ _ _ _) ?_
    rw [joinR_f s0, fin_bad]
    exact cl0_bad _ _ _ _ _
end Go.Proofs.Ytpfnohdnaocpdaa.Pure

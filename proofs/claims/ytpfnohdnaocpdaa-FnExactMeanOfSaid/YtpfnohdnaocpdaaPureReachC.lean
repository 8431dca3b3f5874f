/- The nodes that are reached are closed under their ways. Plain Lean over the printed functions. -/
import Derived.Test.YtpfnohdnaocpdaaPTx2
import Derived.Test.YtpfnohdnaocpdaaPureReach
import Derived.Test.YtpfnohdnaocpdaaPTfound
namespace Go.Proofs.Ytpfnohdnaocpdaa.Pure
open Go.RowKit Go.Proofs.Ytpfnohdnaocpdaa.PT Go.Proofs.YtpfnohdnaocpdaaW.PrintWords Go.Proofs.YtpfnohdnaocpdaaW.PrintLast Go.Proofs.YtpfnohdnaocpdaaW.PrintMore Go.Proofs.YtpfnohdnaocpdaaRP
set_option linter.unusedVariables false
set_option linter.unusedSimpArgs false
theorem okT_of {l : List S89} (hw : ∀ x ∈ l, Rg x) (hv : validT l = true) : okT l = true := by
  unfold okT
  rw [List.all_eq_true]
  intro x hx
  obtain ⟨g0, g1, g2, g3⟩ := (forkB_iff (hw x hx)).1 ((validT_iff.1 hv).2.2 x hx)
  unfold okN
  simp only [Bool.and_eq_true, Bool.or_eq_true, beq_iff_eq, decide_eq_true_eq]
  refine ⟨⟨⟨?_, g0⟩, g1⟩, g2⟩
  rcases g3 with ⟨h, _⟩ | ⟨h, _⟩
  · exact Or.inl h
  · exact Or.inr h
theorem tell_zero {l : List S89} (hw : ∀ x ∈ l, Rg x) (hv : validT l = true) {a : Int} (a0 : 0 ≤ a) (a1 : a < l.length) (h2 : (rd_T89 l a).f0 = 2) : (rd_T89 l a).f2.f1 = 0 ∧ (rd_T89 l a).f2.f2 = 0 := by
  have hm := rd89_mem a0 a1
  obtain ⟨_, _, _, g3⟩ := (forkB_iff (hw _ hm)).1 ((validT_iff.1 hv).2.2 _ hm)
  rcases g3 with ⟨h, _⟩ | ⟨_, _, _, h, h'⟩
  · omega
  · exact ⟨h, h'⟩
def nW (x : S89) : Nat := if x.f0 = 1 then 3 else 1
theorem nW_eq (x : S89) : (if x.f0 = 1 then (3 : Int) else 1) = (nW x : Int) := by unfold nW; split <;> rfl
theorem nW_le (x : S89) : nW x ≤ 3 := by unfold nW; split <;> omega
theorem reachC_in (l : List S89) (hl : l.length ≤ 60) (x : S89) (hx : Wy l x) (i : Nat) (hi : i ≤ 60) (d : Nat) : ∀ j : Nat, j + d = nW x → ∀ out seen, Inv l.length out seen →
    ∃ out' seen', out <+: out' ∧ Inv l.length out' seen' ∧ (∀ q : Nat, j ≤ q → q < nW x → rd [x.f2.f0, x.f2.f1, x.f2.f2] (q : Int) ∈ out') ∧ ∀ v, Ev (fun k => spec_l06Reached.l0 k [⟨l⟩] out' seen' ((i + 1 : Nat) : Int)) v → Ev (fun k => spec_l06Reached.l1 k [⟨l⟩] out seen (i : Int) [x] (j : Int)) v := by
  have hm := nW_eq x
  have m3 := nW_le x
  induction d with
  | zero =>
    intro j hj out seen hI
    refine ⟨out, seen, List.prefix_refl _, hI, fun q h1 h2 => by omega, fun v hv => ?_⟩
    refine Ev.step (fun k => rfl) (Ev.bind (Ev.is (fun _ => (ways_eq x).trans (congrArg some hm))) ?_)
    refine Ev.neg (by omega) ?_
    rw [wnext i (by omega)]
    exact hv
  | succ d ih =>
    intro j hj out seen hI
    have hw := hx j (by omega)
    by_cases c : rd [x.f2.f0, x.f2.f1, x.f2.f2] (j : Int) ∈ out
    · obtain ⟨out', seen', p1, p2, p4, p3⟩ := ih (j + 1) (by omega) out seen hI
      refine ⟨out', seen', p1, p2, fun q h1 h2 => ?_, fun v hv => ?_⟩
      · by_cases e : q = j
        · subst e; exact p1.subset c
        · exact p4 q (by omega) h2
      refine Ev.step (fun k => rfl) (Ev.bind (Ev.is (fun _ => (ways_eq x).trans (congrArg some hm))) ?_)
      refine Ev.pos (by omega) (Ev.pos (by simp) (Ev.pos (by omega) (Ev.pos (by omega) (Ev.pos hw.1 (Ev.pos (by rw [hI.len]; exact hw.2) (Ev.pos ((hI.iff _ hw.1 hw.2).2 c) ?_))))))
      rw [wnext j (by omega)]
      exact p3 v hv
    · obtain ⟨out', seen', p1, p2, p4, p3⟩ := ih (j + 1) (by omega) _ _ (hI.push hw.1 hw.2 c)
      refine ⟨out', seen', List.IsPrefix.trans (List.prefix_append _ _) p1, p2, fun q h1 h2 => ?_, fun v hv => ?_⟩
      · by_cases e : q = j
        · subst e; exact p1.subset (List.mem_append.2 (Or.inr (List.mem_singleton.2 rfl)))
        · exact p4 q (by omega) h2
      refine Ev.step (fun k => rfl) (Ev.bind (Ev.is (fun _ => (ways_eq x).trans (congrArg some hm))) ?_)
      have le := hI.le
      refine Ev.pos (by omega) (Ev.pos (by simp) (Ev.pos (by omega) (Ev.pos (by omega) (Ev.pos hw.1 (Ev.pos (by rw [hI.len]; exact hw.2) (Ev.neg (fun z => c ((hI.iff _ hw.1 hw.2).1 z)) (Ev.pos (by omega) ?_)))))))
      rw [wnext j (by omega)]
      exact p3 v hv
def Cl (l : List S89) (r : List Int) (i : Nat) : Prop := ∀ p : Nat, i ≤ p → p < r.length → ∀ q : Nat, q < nW (rd_T89 l (rd r (p : Int))) → rd [(rd_T89 l (rd r (p : Int))).f2.f0, (rd_T89 l (rd r (p : Int))).f2.f1, (rd_T89 l (rd r (p : Int))).f2.f2] (q : Int) ∈ r
theorem reachC_l0 (l : List S89) (hw : ∀ x ∈ l, Rg x) (hv : validT l = true) (d : Nat) : ∀ i : Nat, l.length - i = d → ∀ out seen, Inv l.length out seen → i ≤ out.length →
    ∃ r seen', out <+: r ∧ Inv l.length r seen' ∧ Cl l r i ∧ Ev (fun k => spec_l06Reached.l0 k [⟨l⟩] out seen (i : Int)) r := by
  have hl := (validT_iff.1 hv).2.1
  induction d with
  | zero =>
    intro i hi out seen hI ho
    have := hI.le
    exact ⟨out, seen, List.prefix_refl _, hI, fun p h1 h2 => by omega, Ev.step (fun k => rfl) (Ev.neg (by omega) (Ev.now _))⟩
  | succ d ih =>
    intro i hi out seen hI ho
    by_cases c : i < out.length
    · have hr := hI.rng _ (rd_memI c)
      obtain ⟨out', seen', p1, p2, p4, p3⟩ := reachC_in l hl (rd_T89 l (rd out (i : Int))) (Wy.of hw hv hr.1 hr.2) i (by omega) (nW (rd_T89 l (rd out (i : Int)))) 0 (by omega) out seen hI
      have := p1.length_le
      obtain ⟨r, s2, q1, q2, q4, q3⟩ := ih (i + 1) (by omega) out' seen' p2 (by omega)
      have hpre := List.IsPrefix.trans p1 q1
      refine ⟨r, s2, hpre, q2, fun p h1 h2 q hq => ?_, Ev.step (fun k => rfl) (Ev.pos (by omega) (Ev.pos (by simp) (Ev.pos (by omega) (Ev.pos hr.1 (Ev.pos hr.2 (p3 r q3))))))⟩
      by_cases e : p = i
      · subst e
        obtain ⟨tl, ht⟩ := hpre
        have hrd : rd r (p : Int) = rd out (p : Int) := by rw [← ht]; exact rd_left _ _ p c
        rw [hrd] at hq ⊢
        exact q1.subset (p4 q (by omega) hq)
      · exact q4 p (by omega) h2 q hq
    · exact ⟨out, seen, List.prefix_refl _, hI, fun p h1 h2 => by omega, Ev.step (fun k => rfl) (Ev.neg (by omega) (Ev.now _))⟩
/-- The nodes that are reached. -/
theorem reachC_ev (l : List S89) (hw : ∀ x ∈ l, Rg x) (hv : validT l = true) : ∃ r s, [0] <+: r ∧ Inv l.length r s ∧ Cl l r 0 ∧ Ev (fun k => spec_l06Reached.f k [⟨l⟩]) r := by
  obtain ⟨h1, h2, _⟩ := validT_iff.1 hv
  obtain ⟨r, s, p1, p2, p3, p4⟩ := reachC_l0 l hw hv l.length 0 (by omega) [0] _ (Inv.start l.length h1) (by simp)
  refine ⟨r, s, p1, p2, p3, ?_⟩
  have e : (fun k => spec_l06Reached.f k [⟨l⟩]) = fun k => spec_l06Reached.l0 k [⟨l⟩] [0] ((List.replicate l.length false).set (0 : Int).toNat true) ((0 : Nat) : Int) := by
    funext k
    rw [reached_f, if_pos (by omega), if_pos (by omega)]
    rfl
  rw [e]
  exact p4
end Go.Proofs.Ytpfnohdnaocpdaa.Pure

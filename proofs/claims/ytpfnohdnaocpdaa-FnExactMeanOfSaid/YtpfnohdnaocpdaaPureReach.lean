/- The nodes that are reached, in the reference's text. Plain Lean over the printed functions. -/
import Derived.Test.YtpfnohdnaocpdaaPTx2
import Derived.Test.YtpfnohdnaocpdaaPureValidT
namespace Go.Proofs.Ytpfnohdnaocpdaa.Pure
open Go.RowKit Go.Proofs.Ytpfnohdnaocpdaa.PT Go.Proofs.YtpfnohdnaocpdaaW.PrintWords Go.Proofs.YtpfnohdnaocpdaaW.PrintLast Go.Proofs.YtpfnohdnaocpdaaW.PrintMore Go.Proofs.YtpfnohdnaocpdaaRP
set_option linter.unusedVariables false
set_option linter.unusedSimpArgs false
theorem rd_at (l : List Int) (i : Nat) (h : i < l.length) : rd l (i : Int) = l[i] := by simp [rd, List.getD, h]
theorem rd_memI {l : List Int} {i : Nat} (h : i < l.length) : rd l (i : Int) ∈ l := by
  rw [rd_at l i h]
  exact List.getElem_mem h
theorem rd_left (l r : List Int) (i : Nat) (h : i < l.length) : rd (l ++ r) (i : Int) = rd l (i : Int) := by
  rw [rd_at _ i (by simp; omega), rd_at l i h, List.getElem_append_left h]
/-- The nodes found so far, and their marks. -/
structure Inv (N : Nat) (out : List Int) (seen : List Bool) : Prop where
  len : seen.length = N
  rng : ∀ a ∈ out, 0 ≤ a ∧ a < (N : Int)
  cnt : seen.count true = out.length
  iff : ∀ a : Int, 0 ≤ a → a < N → (rdOf false seen a = true ↔ a ∈ out)
  dup : ∀ i j : Nat, i < j → j < out.length → rd out (i : Int) ≠ rd out (j : Int)
theorem Inv.le {N : Nat} {out : List Int} {seen : List Bool} (h : Inv N out seen) : out.length ≤ N := by
  have := List.count_le_length (a := true) (l := seen)
  rw [h.cnt, h.len] at this
  exact this
theorem Inv.push {N : Nat} {out : List Int} {seen : List Bool} (h : Inv N out seen) {a : Int} (a0 : 0 ≤ a) (a1 : a < N) (hn : a ∉ out) : Inv N (out ++ [a]) (seen.set a.toNat true) := by
  have hs : a.toNat < seen.length := by rw [h.len]; omega
  have hf : seen[a.toNat] = false := by
    have q : ¬ rdOf false seen a = true := fun z => hn ((h.iff a a0 a1).1 z)
    have e : rdOf false seen a = seen[a.toNat] := by simp [rdOf, List.getD, hs]
    rw [e] at q
    simpa using q
  refine ⟨by simp [h.len], ?_, ?_, ?_, ?_⟩
  · intro b hb
    rcases List.mem_append.1 hb with hb | hb
    · exact h.rng b hb
    · rw [List.mem_singleton] at hb; subst hb; exact ⟨a0, a1⟩
  · rw [List.count_set hs, hf, h.cnt]; simp
  · intro b b0 b1
    have hb : b.toNat < seen.length := by rw [h.len]; omega
    have e : rdOf false (seen.set a.toNat true) b = if a.toNat = b.toNat then true else seen[b.toNat] := by
      simp [rdOf, List.getD, hb, List.getElem_set]
    have e' : rdOf false seen b = seen[b.toNat] := by simp [rdOf, List.getD, hb]
    rw [e, List.mem_append, List.mem_singleton]
    by_cases c : a = b
    · subst c; simp
    · rw [if_neg (by omega), ← e', h.iff b b0 b1]
      constructor
      · exact Or.inl
      · rintro (x | x)
        · exact x
        · exact absurd x.symm c
  · intro i j hij hj
    rw [List.length_append, List.length_singleton] at hj
    by_cases c : j = out.length
    · subst c
      rw [rd_left _ _ i hij, rd_mid]
      intro e
      exact hn (e ▸ rd_memI hij)
    · rw [rd_left _ _ i (by omega), rd_left _ _ j (by omega)]
      exact h.dup i j hij (by omega)
theorem Inv.start (N : Nat) (h : 1 ≤ N) : Inv N [0] ((List.replicate N false).set (0 : Int).toNat true) := by
  have e : Inv N [] (List.replicate N false) := by
    refine ⟨by simp, fun a ha => (by cases ha), by simp [List.count_replicate], fun a a0 a1 => ?_, fun i j _ hj => by simp at hj⟩
    have ha : a.toNat < N := by omega
    simp [rdOf, List.getD, ha]
  exact e.push (Int.le_refl 0) (by omega) (by simp)
/-- A node's ways are nodes. -/
def Wy (l : List S89) (x : S89) : Prop := ∀ j : Nat, j < 3 → 0 ≤ rd [x.f2.f0, x.f2.f1, x.f2.f2] (j : Int) ∧ rd [x.f2.f0, x.f2.f1, x.f2.f2] (j : Int) < (l.length : Int)
theorem Wy.of {l : List S89} (hw : ∀ x ∈ l, Rg x) (hv : validT l = true) {a : Int} (a0 : 0 ≤ a) (a1 : a < l.length) : Wy l (rd_T89 l a) := by
  have hm := rd89_mem a0 a1
  obtain ⟨g0, g1, g2, _⟩ := (forkB_iff (hw _ hm)).1 ((validT_iff.1 hv).2.2 _ hm)
  intro j hj
  rcases (by omega : j = 0 ∨ j = 1 ∨ j = 2) with e | e | e <;> subst e
  · exact g0
  · exact g1
  · exact g2
theorem Ev.is {α : Type} {g : Nat → Option α} {r : α} (h : ∀ k, g k = some r) : Ev g r := ⟨0, fun k _ => h k⟩
theorem ways_eq (x : S89) : spec_l06Ways.f [x] = some (if x.f0 = 1 then 3 else 1) := by
  have r : rd_T89 [x] 0 = x := rfl
  unfold spec_l06Ways.f
  rw [if_pos (by simp), r]
  split <;> rfl
theorem reach_in (l : List S89) (hl : l.length ≤ 60) (x : S89) (hx : Wy l x) (i : Nat) (hi : i ≤ 60) (m : Nat) (hm : (if x.f0 = 1 then (3 : Int) else 1) = (m : Int)) (m3 : m ≤ 3) (d : Nat) : ∀ j : Nat, j + d = m → ∀ out seen, Inv l.length out seen →
    ∃ out' seen', out <+: out' ∧ Inv l.length out' seen' ∧ ∀ v, Ev (fun k => spec_l06Reached.l0 k [⟨l⟩] out' seen' ((i + 1 : Nat) : Int)) v → Ev (fun k => spec_l06Reached.l1 k [⟨l⟩] out seen (i : Int) [x] (j : Int)) v := by
  induction d with
  | zero =>
    intro j hj out seen hI
    refine ⟨out, seen, List.prefix_refl _, hI, fun v hv => ?_⟩
    refine Ev.step (fun k => rfl) (Ev.bind (Ev.is (fun _ => (ways_eq x).trans (congrArg some hm))) ?_)
    refine Ev.neg (by omega) ?_
    rw [wnext i (by omega)]
    exact hv
  | succ d ih =>
    intro j hj out seen hI
    have hw := hx j (by omega)
    by_cases c : rd [x.f2.f0, x.f2.f1, x.f2.f2] (j : Int) ∈ out
    · obtain ⟨out', seen', p1, p2, p3⟩ := ih (j + 1) (by omega) out seen hI
      refine ⟨out', seen', p1, p2, fun v hv => ?_⟩
      refine Ev.step (fun k => rfl) (Ev.bind (Ev.is (fun _ => (ways_eq x).trans (congrArg some hm))) ?_)
      refine Ev.pos (by omega) (Ev.pos (by simp) (Ev.pos (by omega) (Ev.pos (by omega) (Ev.pos hw.1 (Ev.pos (by rw [hI.len]; exact hw.2) (Ev.pos ((hI.iff _ hw.1 hw.2).2 c) ?_))))))
      rw [wnext j (by omega)]
      exact p3 v hv
    · obtain ⟨out', seen', p1, p2, p3⟩ := ih (j + 1) (by omega) _ _ (hI.push hw.1 hw.2 c)
      refine ⟨out', seen', List.IsPrefix.trans (List.prefix_append _ _) p1, p2, fun v hv => ?_⟩
      refine Ev.step (fun k => rfl) (Ev.bind (Ev.is (fun _ => (ways_eq x).trans (congrArg some hm))) ?_)
      have le := hI.le
      refine Ev.pos (by omega) (Ev.pos (by simp) (Ev.pos (by omega) (Ev.pos (by omega) (Ev.pos hw.1 (Ev.pos (by rw [hI.len]; exact hw.2) (Ev.neg (fun z => c ((hI.iff _ hw.1 hw.2).1 z)) (Ev.pos (by omega) ?_)))))))
      rw [wnext j (by omega)]
      exact p3 v hv
theorem reach_l0 (l : List S89) (hw : ∀ x ∈ l, Rg x) (hv : validT l = true) (d : Nat) : ∀ i : Nat, l.length - i = d → ∀ out seen, Inv l.length out seen → i ≤ out.length →
    ∃ r seen', out <+: r ∧ Inv l.length r seen' ∧ Ev (fun k => spec_l06Reached.l0 k [⟨l⟩] out seen (i : Int)) r := by
  have hl := (validT_iff.1 hv).2.1
  induction d with
  | zero =>
    intro i hi out seen hI ho
    have := hI.le
    exact ⟨out, seen, List.prefix_refl _, hI, Ev.step (fun k => rfl) (Ev.neg (by omega) (Ev.now _))⟩
  | succ d ih =>
    intro i hi out seen hI ho
    by_cases c : i < out.length
    · have hr := hI.rng _ (rd_memI c)
      obtain ⟨m, hm, m3⟩ : ∃ m : Nat, (if (rd_T89 l (rd out (i : Int))).f0 = 1 then (3 : Int) else 1) = (m : Int) ∧ m ≤ 3 := by
        by_cases z : (rd_T89 l (rd out (i : Int))).f0 = 1
        · exact ⟨3, by rw [if_pos z]; rfl, by omega⟩
        · exact ⟨1, by rw [if_neg z]; rfl, by omega⟩
      obtain ⟨out', seen', p1, p2, p3⟩ := reach_in l hl _ (Wy.of hw hv hr.1 hr.2) i (by omega) m hm m3 m 0 (by omega) out seen hI
      have := p1.length_le
      obtain ⟨r, s2, q1, q2, q3⟩ := ih (i + 1) (by omega) out' seen' p2 (by omega)
      exact ⟨r, s2, List.IsPrefix.trans p1 q1, q2, Ev.step (fun k => rfl) (Ev.pos (by omega) (Ev.pos (by simp) (Ev.pos (by omega) (Ev.pos hr.1 (Ev.pos hr.2 (p3 r q3))))))⟩
    · exact ⟨out, seen, List.prefix_refl _, hI, Ev.step (fun k => rfl) (Ev.neg (by omega) (Ev.now _))⟩
end Go.Proofs.Ytpfnohdnaocpdaa.Pure

/- Valid trees, in both texts. Plain Lean over the printed functions. -/
import Derived.Test.YtpfnohdnaocpdaaPTx2
import Derived.Test.YtpfnohdnaocpdaaPureIn
import Derived.Test.YtpfnohdnaocpdaaPTvalidTree
namespace Go.Proofs.Ytpfnohdnaocpdaa.Pure
open Go.RowKit Go.Proofs.Ytpfnohdnaocpdaa.PT Go.Proofs.YtpfnohdnaocpdaaW.PrintWords Go.Proofs.YtpfnohdnaocpdaaW.PrintLast Go.Proofs.YtpfnohdnaocpdaaW.PrintMore Go.Proofs.YtpfnohdnaocpdaaRP
set_option linter.unusedVariables false
set_option linter.unusedSimpArgs false
def validT (l : List S89) : Bool := decide (1 ≤ l.length) && decide (l.length ≤ 60) && l.all fun x => forkB x (l.length : Int)
def R16 (a : Int) : Prop := -32768 ≤ a ∧ a ≤ 32767
/-- What is known of a node that came in. -/
def Rg (x : S89) : Prop := R16 x.f2.f0 ∧ R16 x.f2.f1 ∧ R16 x.f2.f2
theorem ivalidT_eq (l : List S89) : impl_ValidTree.f l = some (validT l) := rfl
theorem validT_iff {l : List S89} : validT l = true ↔ 1 ≤ l.length ∧ l.length ≤ 60 ∧ ∀ x ∈ l, forkB x (l.length : Int) = true := by
  unfold validT
  rw [Bool.and_eq_true, Bool.and_eq_true, decide_eq_true_iff, decide_eq_true_iff, List.all_eq_true]
  exact ⟨fun h => ⟨h.1.1, h.1.2, h.2⟩, fun h => ⟨⟨h.1, h.2.1⟩, h.2.2⟩⟩
theorem wayB_iff {a n : Int} (h : R16 a) : wayB a n = true ↔ 0 ≤ a ∧ a < n := by
  have := h.1
  have := h.2
  have e : wrap64 a = a := wrap_id (by omega) (by omega)
  unfold wayB
  rw [e]
  simp
theorem kindB_iff {k d b c : Int} : kindB k d b c = true ↔ (k = 1 ∧ d = 0) ∨ (k = 2 ∧ -1 ≤ d ∧ d ≤ 1 ∧ b = 0 ∧ c = 0) := by
  unfold kindB digB
  by_cases h : k = 1
  · subst h; simp
  · rw [if_neg h]
    by_cases h2 : k = 2
    · subst h2
      simp
      constructor
      · intro h; exact ⟨h.1.1.1, h.1.1.2, h.1.2, h.2⟩
      · intro h; exact ⟨⟨⟨h.1, h.2.1⟩, h.2.2.1⟩, h.2.2.2⟩
    · rw [if_neg h2]; simp [h, h2]
theorem forkB_iff {x : S89} {n : Int} (h : Rg x) : forkB x n = true ↔ (0 ≤ x.f2.f0 ∧ x.f2.f0 < n) ∧ (0 ≤ x.f2.f1 ∧ x.f2.f1 < n) ∧ (0 ≤ x.f2.f2 ∧ x.f2.f2 < n) ∧ ((x.f0 = 1 ∧ x.f1 = 0) ∨ (x.f0 = 2 ∧ -1 ≤ x.f1 ∧ x.f1 ≤ 1 ∧ x.f2.f1 = 0 ∧ x.f2.f2 = 0)) := by
  unfold forkB
  rw [Bool.and_eq_true, Bool.and_eq_true, Bool.and_eq_true, wayB_iff h.1, wayB_iff h.2.1, wayB_iff h.2.2, kindB_iff]
  exact ⟨fun h => ⟨h.1.1.1, h.1.1.2, h.1.2, h.2⟩, fun h => ⟨⟨⟨h.1, h.2.1⟩, h.2.2.1⟩, h.2.2.2⟩⟩
theorem Ev.unique {α : Type} {g : Nat → Option α} {r r' : α} (h : Ev g r) (h' : Ev g r') : r = r' := by
  obtain ⟨K, e⟩ := h
  obtain ⟨K', e'⟩ := h'
  exact Option.some.inj ((e _ (Nat.le_max_left K K')).symm.trans (e' _ (Nat.le_max_right K K')))
theorem dig3 {d : Int} (h : -1 ≤ d ∧ d ≤ 1) : d = -1 ∨ d = 0 ∨ d = 1 := by omega
theorem rd89_mem {l : List S89} {i : Int} (h0 : 0 ≤ i) (h1 : i < l.length) : rd_T89 l i ∈ l := by
  have hi : i.toNat < l.length := by omega
  rw [show rd_T89 l i = l[i.toNat] from by simp [rd_T89, List.getD, hi]]
  exact List.getElem_mem hi
theorem Ev.false_and {g : Nat → Option Bool} {v c : Bool} (hc : c = false) (k : Ev g false) : Ev g (c && v) := by subst hc; exact k
theorem Ev.true_and {g : Nat → Option Bool} {v c : Bool} (hc : c = true) (k : Ev g v) : Ev g (c && v) := by subst hc; exact k
theorem sok_way (X : List S34) (n : Int) (hn : 1 ≤ n ∧ n ≤ 60) (i : Int) (x : S89) (h : Rg x) (j : Int) (hj : j = 0 ∨ j = 1 ∨ j = 2) (a : Int) (ha : rd [x.f2.f0, x.f2.f1, x.f2.f2] j = a) (hr : R16 a) (v : Bool)
    (ht : wayB a n = true → Ev (fun k => spec_l06Ok.l1 k X n i [x] (j + 1)) v) : Ev (fun k => spec_l06Ok.l1 k X n i [x] j) (wayB a n && v) := by
  have := hr.1
  have := hr.2
  refine Ev.step (fun k => rfl) ?_
  refine Ev.pos (by omega) (Ev.pos (by simp) (Ev.pos (by omega) ?_))
  have e1 : wrap64 (n - 1) = n - 1 := wrap_id (by omega) (by omega)
  have e2 : wrap64 a = a := wrap_id (by omega) (by omega)
  have e3 : wrap64 (j + 1) = j + 1 := wrap_id (by omega) (by omega)
  change Ev (fun k => (spec_l00In.f (wrap64 (rd [x.f2.f0, x.f2.f1, x.f2.f2] j)) 0 (wrap64 (n - 1))).bind fun t => if t = true then spec_l06Ok.l1 k X n i [x] (wrap64 (j + 1)) else some false) _
  rw [ha, e1, e2, e3, in_eq]
  simp only [Option.bind_some]
  have ew : wayB a n = (decide (0 ≤ a) && decide (a ≤ n - 1)) := by
    rw [Bool.eq_iff_iff, wayB_iff hr, Bool.and_eq_true, decide_eq_true_iff, decide_eq_true_iff]
    omega
  rw [← ew]
  by_cases c : wayB a n = true
  · exact Ev.pos c (Ev.true_and c (ht c))
  · exact Ev.neg c (Ev.false_and (by simpa using c) (Ev.now _))
theorem sok_kind (X : List S34) (n i : Int) (x : S89) (v : Bool) (hv : kindB x.f0 x.f1 x.f2.f1 x.f2.f2 = true → Ev (fun k => spec_l06Ok.l0 k X n (wrap64 (i + 1))) v) : Ev (fun k => spec_l06Ok.l1 k X n i [x] 3) (kindB x.f0 x.f1 x.f2.f1 x.f2.f2 && v) := by
  refine Ev.step (fun k => rfl) ?_
  refine Ev.neg (by decide) (Ev.pos (by simp) ?_)
  change Ev (fun k => if x.f0 = 1 then (if x.f1 = 0 then spec_l06Ok.l0 k X n (wrap64 (i + 1)) else some false) else (if x.f0 = 2 then (if x.f1 < -1 then some false else (if x.f1 > 1 then some false else (if x.f2.f1 = 0 then (if x.f2.f2 = 0 then spec_l06Ok.l0 k X n (wrap64 (i + 1)) else some false) else some false))) else some false)) _
  have fl : ∀ g : Nat → Option Bool, ¬ (kindB x.f0 x.f1 x.f2.f1 x.f2.f2 = true) → Ev g false → Ev g (kindB x.f0 x.f1 x.f2.f1 x.f2.f2 && v) := fun g h k => Ev.false_and (by simpa using h) k
  by_cases c1 : x.f0 = 1
  · refine Ev.pos c1 ?_
    by_cases c2 : x.f1 = 0
    · have hk := (kindB_iff (k := x.f0) (d := x.f1) (b := x.f2.f1) (c := x.f2.f2)).2 (.inl ⟨c1, c2⟩)
      exact Ev.pos c2 (Ev.true_and hk (hv hk))
    · exact Ev.neg c2 (fl _ (fun hk => by have := (kindB_iff (k := x.f0) (d := x.f1) (b := x.f2.f1) (c := x.f2.f2)).1 hk; omega) (Ev.now _))
  · refine Ev.neg c1 ?_
    by_cases c2 : x.f0 = 2
    · refine Ev.pos c2 ?_
      by_cases c3 : x.f1 < -1
      · exact Ev.pos c3 (fl _ (fun hk => by have := (kindB_iff (k := x.f0) (d := x.f1) (b := x.f2.f1) (c := x.f2.f2)).1 hk; omega) (Ev.now _))
      refine Ev.neg c3 ?_
      by_cases c4 : x.f1 > 1
      · exact Ev.pos c4 (fl _ (fun hk => by have := (kindB_iff (k := x.f0) (d := x.f1) (b := x.f2.f1) (c := x.f2.f2)).1 hk; omega) (Ev.now _))
      refine Ev.neg c4 ?_
      by_cases c5 : x.f2.f1 = 0
      · refine Ev.pos c5 ?_
        by_cases c6 : x.f2.f2 = 0
        · have hk := (kindB_iff (k := x.f0) (d := x.f1) (b := x.f2.f1) (c := x.f2.f2)).2 (.inr ⟨c2, by omega, by omega, c5, c6⟩)
          exact Ev.pos c6 (Ev.true_and hk (hv hk))
        · exact Ev.neg c6 (fl _ (fun hk => by have := (kindB_iff (k := x.f0) (d := x.f1) (b := x.f2.f1) (c := x.f2.f2)).1 hk; omega) (Ev.now _))
      · exact Ev.neg c5 (fl _ (fun hk => by have := (kindB_iff (k := x.f0) (d := x.f1) (b := x.f2.f1) (c := x.f2.f2)).1 hk; omega) (Ev.now _))
    · exact Ev.neg c2 (fl _ (fun hk => by have := (kindB_iff (k := x.f0) (d := x.f1) (b := x.f2.f1) (c := x.f2.f2)).1 hk; omega) (Ev.now _))
theorem sok_node (X : List S34) (n : Int) (hn : 1 ≤ n ∧ n ≤ 60) (i : Int) (x : S89) (h : Rg x) (v : Bool) (hv : forkB x n = true → Ev (fun k => spec_l06Ok.l0 k X n (wrap64 (i + 1))) v) : Ev (fun k => spec_l06Ok.l1 k X n i [x] 0) (forkB x n && v) := by
  unfold forkB at hv ⊢
  rw [Bool.and_assoc, Bool.and_assoc, Bool.and_assoc]
  refine sok_way X n hn i x h 0 (.inl rfl) x.f2.f0 rfl h.1 _ (fun w0 => ?_)
  refine sok_way X n hn i x h 1 (.inr (.inl rfl)) x.f2.f1 rfl h.2.1 _ (fun w1 => ?_)
  refine sok_way X n hn i x h 2 (.inr (.inr rfl)) x.f2.f2 rfl h.2.2 _ (fun w2 => ?_)
  exact sok_kind X n i x v (fun w3 => hv (by rw [w0, w1, w2, w3]; rfl))
theorem sok_l0 (l : List S89) (hw : ∀ x ∈ l, Rg x) (hl : 1 ≤ l.length ∧ l.length ≤ 60) (d : Nat) : ∀ i : Nat, i + d = l.length → Ev (fun k => spec_l06Ok.l0 k [⟨l⟩] (l.length : Int) (i : Int)) ((l.drop i).all fun x => forkB x (l.length : Int)) := by
  induction d with
  | zero =>
    intro i hi
    refine Ev.step (fun k => rfl) ?_
    refine Ev.neg (by omega) ?_
    rw [show l.drop i = [] from List.drop_of_length_le (by omega)]
    exact Ev.now _
  | succ d ih =>
    intro i hi
    refine Ev.step (fun k => rfl) ?_
    refine Ev.pos (by omega) (Ev.pos (by simp) (Ev.pos (by omega) (Ev.pos (show (i : Int) < (l.length : Int) by omega) ?_)))
    change Ev (fun k => spec_l06Ok.l1 k [⟨l⟩] (l.length : Int) (i : Int) [rd_T89 l (i : Int)] 0) _
    have hd : l.drop i = rd_T89 l (i : Int) :: l.drop (i + 1) := drop_T89 l i (by omega)
    rw [hd, List.all_cons]
    refine sok_node _ _ (by omega) _ _ (hw _ (rd89_mem (by omega) (by omega))) _ (fun _ => ?_)
    rw [wnext i (by omega)]
    exact ih (i + 1) (by omega)
theorem sokT_ev (l : List S89) (hw : ∀ x ∈ l, Rg x) (hl : l.length ≤ 140737488355327) : Ev (fun k => spec_l06Ok.f k [⟨l⟩]) (validT l) := by
  unfold spec_l06Ok.f
  refine Ev.pos (by simp) ?_
  change Ev (fun k => (spec_l00In.f (l.length : Int) 1 60).bind fun t => if t = true then spec_l06Ok.l0 k [⟨l⟩] (l.length : Int) 0 else some false) _
  rw [in_eq]
  simp only [Option.bind_some]
  by_cases c : (decide (1 ≤ (l.length : Int)) && decide ((l.length : Int) ≤ 60)) = true
  · have hc := c
    rw [Bool.and_eq_true, decide_eq_true_iff, decide_eq_true_iff] at hc
    refine Ev.pos c (Ev.to (sok_l0 l hw (by omega) l.length 0 (by omega)) ?_)
    rw [List.drop_zero, validT, decide_eq_true (show 1 ≤ l.length by omega), decide_eq_true (show l.length ≤ 60 by omega)]
    rfl
  · refine Ev.neg c (Ev.to (Ev.now _) ?_)
    symm
    rw [← Bool.not_eq_true, validT_iff]
    intro h
    apply c
    rw [Bool.and_eq_true, decide_eq_true_iff, decide_eq_true_iff]
    omega
end Go.Proofs.Ytpfnohdnaocpdaa.Pure

/- Steps of an evaluation. -/
import Derived.Test.YtpfnohdnaocpdaaPTx2
import Derived.Test.YtpfnohdnaocpdaaPTx3
import Derived.Test.YtpfnohdnaocpdaaPTx1
import Derived.Test.YtpfnohdnaocpdaaPTx6
import Derived.Test.YtpfnohdnaocpdaaPTx0
import Derived.Test.YtpfnohdnaocpdaaRP
import Derived.Test.YtpfnohdnaocpdaaPTvalidTree
import Derived.Test.YtpfnohdnaocpdaaPTfound
import Derived.Test.YtpfnohdnaocpdaaPTonly
import Derived.Test.YtpfnohdnaocpdaaPTfindF
import Derived.Test.YtpfnohdnaocpdaaPTleast
import Derived.Test.YtpfnohdnaocpdaaPTsLeast
import Derived.Test.YtpfnohdnaocpdaaDataPT
import Derived.OpenShut
namespace Go.Proofs.Ytpfnohdnaocpdaa.Pure
open Go.RowKit Go.Proofs.Ytpfnohdnaocpdaa.PT Go.Proofs.YtpfnohdnaocpdaaW.PrintWords Go.Proofs.YtpfnohdnaocpdaaW.PrintLast Go.Proofs.YtpfnohdnaocpdaaW.PrintMore Go.Proofs.YtpfnohdnaocpdaaRP
set_option linter.unusedVariables false
set_option linter.unusedSimpArgs false
theorem Ev.to {α : Type} {g : Nat → Option α} {r r' : α} (h : Ev g r) (e : r = r') : Ev g r' := e ▸ h

theorem Ev.pos {α : Type} {c : Prop} [Decidable c] {g h : Nat → Option α} {r : α} (hc : c) (k : Ev g r) : Ev (fun n => if c then g n else h n) r := by
  simp only [if_pos hc]; exact k
theorem Ev.neg {α : Type} {c : Prop} [Decidable c] {g h : Nat → Option α} {r : α} (hc : ¬ c) (k : Ev h r) : Ev (fun n => if c then g n else h n) r := by
  simp only [if_neg hc]; exact k
theorem wrap_id {i : Int} (h0 : -9223372036854775808 ≤ i) (h : i ≤ 9223372036854775807) : wrap64 i = i := by
  unfold wrap64
  omega

theorem tmod_nn {x y : Int} (h0 : 0 ≤ x) : Int.tmod x y = x % y := Int.tmod_eq_emod_of_nonneg h0
theorem wnext (n : Nat) (h : n < 9223372036854775807) : wrap64 ((n : Int) + 1) = ((n + 1 : Nat) : Int) := by unfold wrap64; omega
theorem set_mid {α : Type} (d : List α) (x y : α) (r : List α) : (d ++ x :: r).set ((d.length : Int)).toNat y = d ++ y :: r := by
  rw [show ((d.length : Int)).toNat = d.length from by omega]
  simp
theorem rd_mid (d : List Int) (x : Int) (r : List Int) : rd (d ++ x :: r) (d.length : Int) = x := by
  simp [rd, List.getD]
end Go.Proofs.Ytpfnohdnaocpdaa.Pure
/- Numbers within bounds, in the reference's text. -/
namespace Go.Proofs.Ytpfnohdnaocpdaa.Pure
open Go.RowKit Go.Proofs.Ytpfnohdnaocpdaa.PT Go.Proofs.YtpfnohdnaocpdaaW.PrintWords Go.Proofs.YtpfnohdnaocpdaaW.PrintLast Go.Proofs.YtpfnohdnaocpdaaW.PrintMore Go.Proofs.YtpfnohdnaocpdaaRP
set_option linter.unusedVariables false
set_option linter.unusedSimpArgs false
theorem in_eq (n a b : Int) : spec_l00In.f n a b = some (decide (a ≤ n) && decide (n ≤ b)) := by
  unfold spec_l00In.f
  by_cases h : n ≥ a
  · rw [if_pos h, decide_eq_true (show a ≤ n from h), Bool.true_and]
  · rw [if_neg h, decide_eq_false (show ¬ a ≤ n from h), Bool.false_and]
def inI (n a b : Int) : Bool := decide (a ≤ n) && decide (n ≤ b)
theorem in_eq' (n a b : Int) : spec_l00In.f n a b = some (inI n a b) := in_eq n a b
theorem inI_iff {n a b : Int} : inI n a b = true ↔ a ≤ n ∧ n ≤ b := by simp [inI]
end Go.Proofs.Ytpfnohdnaocpdaa.Pure
/- Valid trees, in both texts. Plain Lean over the printed functions. -/
namespace Go.Proofs.Ytpfnohdnaocpdaa.Pure
open Go.RowKit Go.Proofs.Ytpfnohdnaocpdaa.PT Go.Proofs.YtpfnohdnaocpdaaW.PrintWords Go.Proofs.YtpfnohdnaocpdaaW.PrintLast Go.Proofs.YtpfnohdnaocpdaaW.PrintMore Go.Proofs.YtpfnohdnaocpdaaRP
set_option linter.unusedVariables false
set_option linter.unusedSimpArgs false
def validT (l : List S89) : Bool := decide (1 ≤ l.length) && decide (l.length ≤ 60) && l.all fun x => forkB x (l.length : Int)
def R16 (a : Int) : Prop := -32768 ≤ a ∧ a ≤ 32767
/-- What is known of a node that came in. -/
def Rg (x : S89) : Prop := R16 x.f2.f0 ∧ R16 x.f2.f1 ∧ R16 x.f2.f2
theorem ivalidT_eq (l : List S89) : impl_ValidTree.f l = some (validT l) := rfl
theorem validT_iff {l : List S89} : validT l = true ↔ 1 ≤ l.length ∧ l.length ≤ 60 ∧ ∀ x ∈ l, forkB x (l.length : Int) = true := by
  unfold validT
  rw [Bool.and_eq_true, Bool.and_eq_true, decide_eq_true_iff, decide_eq_true_iff, List.all_eq_true]
  exact ⟨fun h => ⟨h.1.1, h.1.2, h.2⟩, fun h => ⟨⟨h.1, h.2.1⟩, h.2.2⟩⟩
theorem wayB_iff {a n : Int} (h : R16 a) : wayB a n = true ↔ 0 ≤ a ∧ a < n := by
  have := h.1
  have := h.2
  have e : wrap64 a = a := wrap_id (by omega) (by omega)
  unfold wayB
  rw [e]
  simp
theorem kindB_iff {k d b c : Int} : kindB k d b c = true ↔ (k = 1 ∧ d = 0) ∨ (k = 2 ∧ -1 ≤ d ∧ d ≤ 1 ∧ b = 0 ∧ c = 0) := by
  unfold kindB digB
  by_cases h : k = 1
  · subst h; simp
  · rw [if_neg h]
    by_cases h2 : k = 2
    · subst h2
      simp
      constructor
      · intro h; exact ⟨h.1.1.1, h.1.1.2, h.1.2, h.2⟩
      · intro h; exact ⟨⟨⟨h.1, h.2.1⟩, h.2.2.1⟩, h.2.2.2⟩
    · rw [if_neg h2]; simp [h, h2]
theorem forkB_iff {x : S89} {n : Int} (h : Rg x) : forkB x n = true ↔ (0 ≤ x.f2.f0 ∧ x.f2.f0 < n) ∧ (0 ≤ x.f2.f1 ∧ x.f2.f1 < n) ∧ (0 ≤ x.f2.f2 ∧ x.f2.f2 < n) ∧ ((x.f0 = 1 ∧ x.f1 = 0) ∨ (x.f0 = 2 ∧ -1 ≤ x.f1 ∧ x.f1 ≤ 1 ∧ x.f2.f1 = 0 ∧ x.f2.f2 = 0)) := by
  unfold forkB
  rw [Bool.and_eq_true, Bool.and_eq_true, Bool.and_eq_true, wayB_iff h.1, wayB_iff h.2.1, wayB_iff h.2.2, kindB_iff]
  exact ⟨fun h => ⟨h.1.1.1, h.1.1.2, h.1.2, h.2⟩, fun h => ⟨⟨⟨h.1, h.2.1⟩, h.2.2.1⟩, h.2.2.2⟩⟩
theorem Ev.unique {α : Type} {g : Nat → Option α} {r r' : α} (h : Ev g r) (h' : Ev g r') : r = r' := by
  obtain ⟨K, e⟩ := h
  obtain ⟨K', e'⟩ := h'
  exact Option.some.inj ((e _ (Nat.le_max_left K K')).symm.trans (e' _ (Nat.le_max_right K K')))
theorem dig3 {d : Int} (h : -1 ≤ d ∧ d ≤ 1) : d = -1 ∨ d = 0 ∨ d = 1 := by omega
theorem rd89_mem {l : List S89} {i : Int} (h0 : 0 ≤ i) (h1 : i < l.length) : rd_T89 l i ∈ l := by
  have hi : i.toNat < l.length := by omega
  rw [show rd_T89 l i = l[i.toNat] from by simp [rd_T89, List.getD, hi]]
  exact List.getElem_mem hi
theorem Ev.false_and {g : Nat → Option Bool} {v c : Bool} (hc : c = false) (k : Ev g false) : Ev g (c && v) := by subst hc; exact k
theorem Ev.true_and {g : Nat → Option Bool} {v c : Bool} (hc : c = true) (k : Ev g v) : Ev g (c && v) := by subst hc; exact k
theorem sok_way (X : List S34) (n : Int) (hn : 1 ≤ n ∧ n ≤ 60) (i : Int) (x : S89) (h : Rg x) (j : Int) (hj : j = 0 ∨ j = 1 ∨ j = 2) (a : Int) (ha : rd [x.f2.f0, x.f2.f1, x.f2.f2] j = a) (hr : R16 a) (v : Bool)
    (ht : wayB a n = true → Ev (fun k => spec_l06Ok.l1 k X n i [x] (j + 1)) v) : Ev (fun k => spec_l06Ok.l1 k X n i [x] j) (wayB a n && v) := by
  have := hr.1
  have := hr.2
  refine Ev.step (fun k => rfl) ?_
  refine Ev.pos (by omega) (Ev.pos (by simp) (Ev.pos (by omega) ?_))
  have e1 : wrap64 (n - 1) = n - 1 := wrap_id (by omega) (by omega)
  have e2 : wrap64 a = a := wrap_id (by omega) (by omega)
  have e3 : wrap64 (j + 1) = j + 1 := wrap_id (by omega) (by omega)
  change Ev (fun k => (spec_l00In.f (wrap64 (rd [x.f2.f0, x.f2.f1, x.f2.f2] j)) 0 (wrap64 (n - 1))).bind fun t => if t = true then spec_l06Ok.l1 k X n i [x] (wrap64 (j + 1)) else some false) _
  rw [ha, e1, e2, e3, in_eq]
  simp only [Option.bind_some]
  have ew : wayB a n = (decide (0 ≤ a) && decide (a ≤ n - 1)) := by
    rw [Bool.eq_iff_iff, wayB_iff hr, Bool.and_eq_true, decide_eq_true_iff, decide_eq_true_iff]
    omega
  rw [← ew]
  by_cases c : wayB a n = true
  · exact Ev.pos c (Ev.true_and c (ht c))
  · exact Ev.neg c (Ev.false_and (by simpa using c) (Ev.now _))
theorem sok_kind (X : List S34) (n i : Int) (x : S89) (v : Bool) (hv : kindB x.f0 x.f1 x.f2.f1 x.f2.f2 = true → Ev (fun k => spec_l06Ok.l0 k X n (wrap64 (i + 1))) v) : Ev (fun k => spec_l06Ok.l1 k X n i [x] 3) (kindB x.f0 x.f1 x.f2.f1 x.f2.f2 && v) := by
  refine Ev.step (fun k => rfl) ?_
  refine Ev.neg (by decide) (Ev.pos (by simp) ?_)
  change Ev (fun k => if x.f0 = 1 then (if x.f1 = 0 then spec_l06Ok.l0 k X n (wrap64 (i + 1)) else some false) else (if x.f0 = 2 then (if x.f1 < -1 then some false else (if x.f1 > 1 then some false else (if x.f2.f1 = 0 then (if x.f2.f2 = 0 then spec_l06Ok.l0 k X n (wrap64 (i + 1)) else some false) else some false))) else some false)) _
  have fl : ∀ g : Nat → Option Bool, ¬ (kindB x.f0 x.f1 x.f2.f1 x.f2.f2 = true) → Ev g false → Ev g (kindB x.f0 x.f1 x.f2.f1 x.f2.f2 && v) := fun g h k => Ev.false_and (by simpa using h) k
  by_cases c1 : x.f0 = 1
  · refine Ev.pos c1 ?_
    by_cases c2 : x.f1 = 0
    · have hk := (kindB_iff (k := x.f0) (d := x.f1) (b := x.f2.f1) (c := x.f2.f2)).2 (.inl ⟨c1, c2⟩)
      exact Ev.pos c2 (Ev.true_and hk (hv hk))
    · exact Ev.neg c2 (fl _ (fun hk => by have := (kindB_iff (k := x.f0) (d := x.f1) (b := x.f2.f1) (c := x.f2.f2)).1 hk; omega) (Ev.now _))
  · refine Ev.neg c1 ?_
    by_cases c2 : x.f0 = 2
    · refine Ev.pos c2 ?_
      by_cases c3 : x.f1 < -1
      · exact Ev.pos c3 (fl _ (fun hk => by have := (kindB_iff (k := x.f0) (d := x.f1) (b := x.f2.f1) (c := x.f2.f2)).1 hk; omega) (Ev.now _))
      refine Ev.neg c3 ?_
      by_cases c4 : x.f1 > 1
      · exact Ev.pos c4 (fl _ (fun hk => by have := (kindB_iff (k := x.f0) (d := x.f1) (b := x.f2.f1) (c := x.f2.f2)).1 hk; omega) (Ev.now _))
      refine Ev.neg c4 ?_
      by_cases c5 : x.f2.f1 = 0
      · refine Ev.pos c5 ?_
        by_cases c6 : x.f2.f2 = 0
        · have hk := (kindB_iff (k := x.f0) (d := x.f1) (b := x.f2.f1) (c := x.f2.f2)).2 (.inr ⟨c2, by omega, by omega, c5, c6⟩)
          exact Ev.pos c6 (Ev.true_and hk (hv hk))
        · exact Ev.neg c6 (fl _ (fun hk => by have := (kindB_iff (k := x.f0) (d := x.f1) (b := x.f2.f1) (c := x.f2.f2)).1 hk; omega) (Ev.now _))
      · exact Ev.neg c5 (fl _ (fun hk => by have := (kindB_iff (k := x.f0) (d := x.f1) (b := x.f2.f1) (c := x.f2.f2)).1 hk; omega) (Ev.now _))
    · exact Ev.neg c2 (fl _ (fun hk => by have := (kindB_iff (k := x.f0) (d := x.f1) (b := x.f2.f1) (c := x.f2.f2)).1 hk; omega) (Ev.now _))
theorem sok_node (X : List S34) (n : Int) (hn : 1 ≤ n ∧ n ≤ 60) (i : Int) (x : S89) (h : Rg x) (v : Bool) (hv : forkB x n = true → Ev (fun k => spec_l06Ok.l0 k X n (wrap64 (i + 1))) v) : Ev (fun k => spec_l06Ok.l1 k X n i [x] 0) (forkB x n && v) := by
  unfold forkB at hv ⊢
  rw [Bool.and_assoc, Bool.and_assoc, Bool.and_assoc]
  refine sok_way X n hn i x h 0 (.inl rfl) x.f2.f0 rfl h.1 _ (fun w0 => ?_)
  refine sok_way X n hn i x h 1 (.inr (.inl rfl)) x.f2.f1 rfl h.2.1 _ (fun w1 => ?_)
  refine sok_way X n hn i x h 2 (.inr (.inr rfl)) x.f2.f2 rfl h.2.2 _ (fun w2 => ?_)
  exact sok_kind X n i x v (fun w3 => hv (by rw [w0, w1, w2, w3]; rfl))
theorem sok_l0 (l : List S89) (hw : ∀ x ∈ l, Rg x) (hl : 1 ≤ l.length ∧ l.length ≤ 60) (d : Nat) : ∀ i : Nat, i + d = l.length → Ev (fun k => spec_l06Ok.l0 k [⟨l⟩] (l.length : Int) (i : Int)) ((l.drop i).all fun x => forkB x (l.length : Int)) := by
  induction d with
  | zero =>
    intro i hi
    refine Ev.step (fun k => rfl) ?_
    refine Ev.neg (by omega) ?_
    rw [show l.drop i = [] from List.drop_of_length_le (by omega)]
    exact Ev.now _
  | succ d ih =>
    intro i hi
    refine Ev.step (fun k => rfl) ?_
    refine Ev.pos (by omega) (Ev.pos (by simp) (Ev.pos (by omega) (Ev.pos (show (i : Int) < (l.length : Int) by omega) ?_)))
    change Ev (fun k => spec_l06Ok.l1 k [⟨l⟩] (l.length : Int) (i : Int) [rd_T89 l (i : Int)] 0) _
    have hd : l.drop i = rd_T89 l (i : Int) :: l.drop (i + 1) := drop_T89 l i (by omega)
    rw [hd, List.all_cons]
    refine sok_node _ _ (by omega) _ _ (hw _ (rd89_mem (by omega) (by omega))) _ (fun _ => ?_)
    rw [wnext i (by omega)]
    exact ih (i + 1) (by omega)
theorem sokT_ev (l : List S89) (hw : ∀ x ∈ l, Rg x) (hl : l.length ≤ 140737488355327) : Ev (fun k => spec_l06Ok.f k [⟨l⟩]) (validT l) := by
  unfold spec_l06Ok.f
  refine Ev.pos (by simp) ?_
  change Ev (fun k => (spec_l00In.f (l.length : Int) 1 60).bind fun t => if t = true then spec_l06Ok.l0 k [⟨l⟩] (l.length : Int) 0 else some false) _
  rw [in_eq]
  simp only [Option.bind_some]
  by_cases c : (decide (1 ≤ (l.length : Int)) && decide ((l.length : Int) ≤ 60)) = true
  · have hc := c
    rw [Bool.and_eq_true, decide_eq_true_iff, decide_eq_true_iff] at hc
    refine Ev.pos c (Ev.to (sok_l0 l hw (by omega) l.length 0 (by omega)) ?_)
    rw [List.drop_zero, validT, decide_eq_true (show 1 ≤ l.length by omega), decide_eq_true (show l.length ≤ 60 by omega)]
    rfl
  · refine Ev.neg c (Ev.to (Ev.now _) ?_)
    symm
    rw [← Bool.not_eq_true, validT_iff]
    intro h
    apply c
    rw [Bool.and_eq_true, decide_eq_true_iff, decide_eq_true_iff]
    omega
end Go.Proofs.Ytpfnohdnaocpdaa.Pure
/- The nodes that are reached, in the reference's text. Plain Lean over the printed functions. -/
namespace Go.Proofs.Ytpfnohdnaocpdaa.Pure
open Go.RowKit Go.Proofs.Ytpfnohdnaocpdaa.PT Go.Proofs.YtpfnohdnaocpdaaW.PrintWords Go.Proofs.YtpfnohdnaocpdaaW.PrintLast Go.Proofs.YtpfnohdnaocpdaaW.PrintMore Go.Proofs.YtpfnohdnaocpdaaRP
set_option linter.unusedVariables false
set_option linter.unusedSimpArgs false
theorem rd_at (l : List Int) (i : Nat) (h : i < l.length) : rd l (i : Int) = l[i] := by simp [rd, List.getD, h]
theorem rd_memI {l : List Int} {i : Nat} (h : i < l.length) : rd l (i : Int) ∈ l := by
  rw [rd_at l i h]
  exact List.getElem_mem h
theorem rd_left (l r : List Int) (i : Nat) (h : i < l.length) : rd (l ++ r) (i : Int) = rd l (i : Int) := by
  rw [rd_at _ i (by simp; omega), rd_at l i h, List.getElem_append_left h]
/-- The nodes found so far, and their marks. -/
structure Inv (N : Nat) (out : List Int) (seen : List Bool) : Prop where
  len : seen.length = N
  rng : ∀ a ∈ out, 0 ≤ a ∧ a < (N : Int)
  cnt : seen.count true = out.length
  iff : ∀ a : Int, 0 ≤ a → a < N → (rdOf false seen a = true ↔ a ∈ out)
  dup : ∀ i j : Nat, i < j → j < out.length → rd out (i : Int) ≠ rd out (j : Int)
theorem Inv.le {N : Nat} {out : List Int} {seen : List Bool} (h : Inv N out seen) : out.length ≤ N := by
  have := List.count_le_length (a := true) (l := seen)
  rw [h.cnt, h.len] at this
  exact this
theorem Inv.push {N : Nat} {out : List Int} {seen : List Bool} (h : Inv N out seen) {a : Int} (a0 : 0 ≤ a) (a1 : a < N) (hn : a ∉ out) : Inv N (out ++ [a]) (seen.set a.toNat true) := by
  have hs : a.toNat < seen.length := by rw [h.len]; omega
  have hf : seen[a.toNat] = false := by
    have q : ¬ rdOf false seen a = true := fun z => hn ((h.iff a a0 a1).1 z)
    have e : rdOf false seen a = seen[a.toNat] := by simp [rdOf, List.getD, hs]
    rw [e] at q
    simpa using q
  refine ⟨by simp [h.len], ?_, ?_, ?_, ?_⟩
  · intro b hb
    rcases List.mem_append.1 hb with hb | hb
    · exact h.rng b hb
    · rw [List.mem_singleton] at hb; subst hb; exact ⟨a0, a1⟩
  · rw [List.count_set hs, hf, h.cnt]; simp
  · intro b b0 b1
    have hb : b.toNat < seen.length := by rw [h.len]; omega
    have e : rdOf false (seen.set a.toNat true) b = if a.toNat = b.toNat then true else seen[b.toNat] := by
      simp [rdOf, List.getD, hb, List.getElem_set]
    have e' : rdOf false seen b = seen[b.toNat] := by simp [rdOf, List.getD, hb]
    rw [e, List.mem_append, List.mem_singleton]
    by_cases c : a = b
    · subst c; simp
    · rw [if_neg (by omega), ← e', h.iff b b0 b1]
      constructor
      · exact Or.inl
      · rintro (x | x)
        · exact x
        · exact absurd x.symm c
  · intro i j hij hj
    rw [List.length_append, List.length_singleton] at hj
    by_cases c : j = out.length
    · subst c
      rw [rd_left _ _ i hij, rd_mid]
      intro e
      exact hn (e ▸ rd_memI hij)
    · rw [rd_left _ _ i (by omega), rd_left _ _ j (by omega)]
      exact h.dup i j hij (by omega)
theorem Inv.start (N : Nat) (h : 1 ≤ N) : Inv N [0] ((List.replicate N false).set (0 : Int).toNat true) := by
  have e : Inv N [] (List.replicate N false) := by
    refine ⟨by simp, fun a ha => (by cases ha), by simp [List.count_replicate], fun a a0 a1 => ?_, fun i j _ hj => by simp at hj⟩
    have ha : a.toNat < N := by omega
    simp [rdOf, List.getD, ha]
  exact e.push (Int.le_refl 0) (by omega) (by simp)
/-- A node's ways are nodes. -/
def Wy (l : List S89) (x : S89) : Prop := ∀ j : Nat, j < 3 → 0 ≤ rd [x.f2.f0, x.f2.f1, x.f2.f2] (j : Int) ∧ rd [x.f2.f0, x.f2.f1, x.f2.f2] (j : Int) < (l.length : Int)
theorem Wy.of {l : List S89} (hw : ∀ x ∈ l, Rg x) (hv : validT l = true) {a : Int} (a0 : 0 ≤ a) (a1 : a < l.length) : Wy l (rd_T89 l a) := by
  have hm := rd89_mem a0 a1
  obtain ⟨g0, g1, g2, _⟩ := (forkB_iff (hw _ hm)).1 ((validT_iff.1 hv).2.2 _ hm)
  intro j hj
  rcases (by omega : j = 0 ∨ j = 1 ∨ j = 2) with e | e | e <;> subst e
  · exact g0
  · exact g1
  · exact g2
theorem Ev.is {α : Type} {g : Nat → Option α} {r : α} (h : ∀ k, g k = some r) : Ev g r := ⟨0, fun k _ => h k⟩
theorem ways_eq (x : S89) : spec_l06Ways.f [x] = some (if x.f0 = 1 then 3 else 1) := by
  have r : rd_T89 [x] 0 = x := rfl
  unfold spec_l06Ways.f
  rw [if_pos (by simp), r]
  split <;> rfl
theorem reach_in (l : List S89) (hl : l.length ≤ 60) (x : S89) (hx : Wy l x) (i : Nat) (hi : i ≤ 60) (m : Nat) (hm : (if x.f0 = 1 then (3 : Int) else 1) = (m : Int)) (m3 : m ≤ 3) (d : Nat) : ∀ j : Nat, j + d = m → ∀ out seen, Inv l.length out seen →
    ∃ out' seen', out <+: out' ∧ Inv l.length out' seen' ∧ ∀ v, Ev (fun k => spec_l06Reached.l0 k [⟨l⟩] out' seen' ((i + 1 : Nat) : Int)) v → Ev (fun k => spec_l06Reached.l1 k [⟨l⟩] out seen (i : Int) [x] (j : Int)) v := by
  induction d with
  | zero =>
    intro j hj out seen hI
    refine ⟨out, seen, List.prefix_refl _, hI, fun v hv => ?_⟩
    refine Ev.step (fun k => rfl) (Ev.bind (Ev.is (fun _ => (ways_eq x).trans (congrArg some hm))) ?_)
    refine Ev.neg (by omega) ?_
    rw [wnext i (by omega)]
    exact hv
  | succ d ih =>
    intro j hj out seen hI
    have hw := hx j (by omega)
    by_cases c : rd [x.f2.f0, x.f2.f1, x.f2.f2] (j : Int) ∈ out
    · obtain ⟨out', seen', p1, p2, p3⟩ := ih (j + 1) (by omega) out seen hI
      refine ⟨out', seen', p1, p2, fun v hv => ?_⟩
      refine Ev.step (fun k => rfl) (Ev.bind (Ev.is (fun _ => (ways_eq x).trans (congrArg some hm))) ?_)
      refine Ev.pos (by omega) (Ev.pos (by simp) (Ev.pos (by omega) (Ev.pos (by omega) (Ev.pos hw.1 (Ev.pos (by rw [hI.len]; exact hw.2) (Ev.pos ((hI.iff _ hw.1 hw.2).2 c) ?_))))))
      rw [wnext j (by omega)]
      exact p3 v hv
    · obtain ⟨out', seen', p1, p2, p3⟩ := ih (j + 1) (by omega) _ _ (hI.push hw.1 hw.2 c)
      refine ⟨out', seen', List.IsPrefix.trans (List.prefix_append _ _) p1, p2, fun v hv => ?_⟩
      refine Ev.step (fun k => rfl) (Ev.bind (Ev.is (fun _ => (ways_eq x).trans (congrArg some hm))) ?_)
      have le := hI.le
      refine Ev.pos (by omega) (Ev.pos (by simp) (Ev.pos (by omega) (Ev.pos (by omega) (Ev.pos hw.1 (Ev.pos (by rw [hI.len]; exact hw.2) (Ev.neg (fun z => c ((hI.iff _ hw.1 hw.2).1 z)) (Ev.pos (by omega) ?_)))))))
      rw [wnext j (by omega)]
      exact p3 v hv
theorem reach_l0 (l : List S89) (hw : ∀ x ∈ l, Rg x) (hv : validT l = true) (d : Nat) : ∀ i : Nat, l.length - i = d → ∀ out seen, Inv l.length out seen → i ≤ out.length →
    ∃ r seen', out <+: r ∧ Inv l.length r seen' ∧ Ev (fun k => spec_l06Reached.l0 k [⟨l⟩] out seen (i : Int)) r := by
  have hl := (validT_iff.1 hv).2.1
  induction d with
  | zero =>
    intro i hi out seen hI ho
    have := hI.le
    exact ⟨out, seen, List.prefix_refl _, hI, Ev.step (fun k => rfl) (Ev.neg (by omega) (Ev.now _))⟩
  | succ d ih =>
    intro i hi out seen hI ho
    by_cases c : i < out.length
    · have hr := hI.rng _ (rd_memI c)
      obtain ⟨m, hm, m3⟩ : ∃ m : Nat, (if (rd_T89 l (rd out (i : Int))).f0 = 1 then (3 : Int) else 1) = (m : Int) ∧ m ≤ 3 := by
        by_cases z : (rd_T89 l (rd out (i : Int))).f0 = 1
        · exact ⟨3, by rw [if_pos z]; rfl, by omega⟩
        · exact ⟨1, by rw [if_neg z]; rfl, by omega⟩
      obtain ⟨out', seen', p1, p2, p3⟩ := reach_in l hl _ (Wy.of hw hv hr.1 hr.2) i (by omega) m hm m3 m 0 (by omega) out seen hI
      have := p1.length_le
      obtain ⟨r, s2, q1, q2, q3⟩ := ih (i + 1) (by omega) out' seen' p2 (by omega)
      exact ⟨r, s2, List.IsPrefix.trans p1 q1, q2, Ev.step (fun k => rfl) (Ev.pos (by omega) (Ev.pos (by simp) (Ev.pos (by omega) (Ev.pos hr.1 (Ev.pos hr.2 (p3 r q3))))))⟩
    · exact ⟨out, seen, List.prefix_refl _, hI, Ev.step (fun k => rfl) (Ev.neg (by omega) (Ev.now _))⟩
end Go.Proofs.Ytpfnohdnaocpdaa.Pure
/- The nodes that are reached are closed under their ways. Plain Lean over the printed functions. -/
namespace Go.Proofs.Ytpfnohdnaocpdaa.Pure
open Go.RowKit Go.Proofs.Ytpfnohdnaocpdaa.PT Go.Proofs.YtpfnohdnaocpdaaW.PrintWords Go.Proofs.YtpfnohdnaocpdaaW.PrintLast Go.Proofs.YtpfnohdnaocpdaaW.PrintMore Go.Proofs.YtpfnohdnaocpdaaRP
set_option linter.unusedVariables false
set_option linter.unusedSimpArgs false
theorem okT_of {l : List S89} (hw : ∀ x ∈ l, Rg x) (hv : validT l = true) : okT l = true := by
  unfold okT
  rw [List.all_eq_true]
  intro x hx
  obtain ⟨g0, g1, g2, g3⟩ := (forkB_iff (hw x hx)).1 ((validT_iff.1 hv).2.2 x hx)
  unfold okN
  simp only [Bool.and_eq_true, Bool.or_eq_true, beq_iff_eq, decide_eq_true_eq]
  refine ⟨⟨⟨?_, g0⟩, g1⟩, g2⟩
  rcases g3 with ⟨h, _⟩ | ⟨h, _⟩
  · exact Or.inl h
  · exact Or.inr h
theorem tell_zero {l : List S89} (hw : ∀ x ∈ l, Rg x) (hv : validT l = true) {a : Int} (a0 : 0 ≤ a) (a1 : a < l.length) (h2 : (rd_T89 l a).f0 = 2) : (rd_T89 l a).f2.f1 = 0 ∧ (rd_T89 l a).f2.f2 = 0 := by
  have hm := rd89_mem a0 a1
  obtain ⟨_, _, _, g3⟩ := (forkB_iff (hw _ hm)).1 ((validT_iff.1 hv).2.2 _ hm)
  rcases g3 with ⟨h, _⟩ | ⟨_, _, _, h, h'⟩
  · omega
  · exact ⟨h, h'⟩
def nW (x : S89) : Nat := if x.f0 = 1 then 3 else 1
theorem nW_eq (x : S89) : (if x.f0 = 1 then (3 : Int) else 1) = (nW x : Int) := by unfold nW; split <;> rfl
theorem nW_le (x : S89) : nW x ≤ 3 := by unfold nW; split <;> omega
theorem reachC_in (l : List S89) (hl : l.length ≤ 60) (x : S89) (hx : Wy l x) (i : Nat) (hi : i ≤ 60) (d : Nat) : ∀ j : Nat, j + d = nW x → ∀ out seen, Inv l.length out seen →
    ∃ out' seen', out <+: out' ∧ Inv l.length out' seen' ∧ (∀ q : Nat, j ≤ q → q < nW x → rd [x.f2.f0, x.f2.f1, x.f2.f2] (q : Int) ∈ out') ∧ ∀ v, Ev (fun k => spec_l06Reached.l0 k [⟨l⟩] out' seen' ((i + 1 : Nat) : Int)) v → Ev (fun k => spec_l06Reached.l1 k [⟨l⟩] out seen (i : Int) [x] (j : Int)) v := by
  have hm := nW_eq x
  have m3 := nW_le x
  induction d with
  | zero =>
    intro j hj out seen hI
    refine ⟨out, seen, List.prefix_refl _, hI, fun q h1 h2 => by omega, fun v hv => ?_⟩
    refine Ev.step (fun k => rfl) (Ev.bind (Ev.is (fun _ => (ways_eq x).trans (congrArg some hm))) ?_)
    refine Ev.neg (by omega) ?_
    rw [wnext i (by omega)]
    exact hv
  | succ d ih =>
    intro j hj out seen hI
    have hw := hx j (by omega)
    by_cases c : rd [x.f2.f0, x.f2.f1, x.f2.f2] (j : Int) ∈ out
    · obtain ⟨out', seen', p1, p2, p4, p3⟩ := ih (j + 1) (by omega) out seen hI
      refine ⟨out', seen', p1, p2, fun q h1 h2 => ?_, fun v hv => ?_⟩
      · by_cases e : q = j
        · subst e; exact p1.subset c
        · exact p4 q (by omega) h2
      refine Ev.step (fun k => rfl) (Ev.bind (Ev.is (fun _ => (ways_eq x).trans (congrArg some hm))) ?_)
      refine Ev.pos (by omega) (Ev.pos (by simp) (Ev.pos (by omega) (Ev.pos (by omega) (Ev.pos hw.1 (Ev.pos (by rw [hI.len]; exact hw.2) (Ev.pos ((hI.iff _ hw.1 hw.2).2 c) ?_))))))
      rw [wnext j (by omega)]
      exact p3 v hv
    · obtain ⟨out', seen', p1, p2, p4, p3⟩ := ih (j + 1) (by omega) _ _ (hI.push hw.1 hw.2 c)
      refine ⟨out', seen', List.IsPrefix.trans (List.prefix_append _ _) p1, p2, fun q h1 h2 => ?_, fun v hv => ?_⟩
      · by_cases e : q = j
        · subst e; exact p1.subset (List.mem_append.2 (Or.inr (List.mem_singleton.2 rfl)))
        · exact p4 q (by omega) h2
      refine Ev.step (fun k => rfl) (Ev.bind (Ev.is (fun _ => (ways_eq x).trans (congrArg some hm))) ?_)
      have le := hI.le
      refine Ev.pos (by omega) (Ev.pos (by simp) (Ev.pos (by omega) (Ev.pos (by omega) (Ev.pos hw.1 (Ev.pos (by rw [hI.len]; exact hw.2) (Ev.neg (fun z => c ((hI.iff _ hw.1 hw.2).1 z)) (Ev.pos (by omega) ?_)))))))
      rw [wnext j (by omega)]
      exact p3 v hv
def Cl (l : List S89) (r : List Int) (i : Nat) : Prop := ∀ p : Nat, i ≤ p → p < r.length → ∀ q : Nat, q < nW (rd_T89 l (rd r (p : Int))) → rd [(rd_T89 l (rd r (p : Int))).f2.f0, (rd_T89 l (rd r (p : Int))).f2.f1, (rd_T89 l (rd r (p : Int))).f2.f2] (q : Int) ∈ r
theorem reachC_l0 (l : List S89) (hw : ∀ x ∈ l, Rg x) (hv : validT l = true) (d : Nat) : ∀ i : Nat, l.length - i = d → ∀ out seen, Inv l.length out seen → i ≤ out.length →
    ∃ r seen', out <+: r ∧ Inv l.length r seen' ∧ Cl l r i ∧ Ev (fun k => spec_l06Reached.l0 k [⟨l⟩] out seen (i : Int)) r := by
  have hl := (validT_iff.1 hv).2.1
  induction d with
  | zero =>
    intro i hi out seen hI ho
    have := hI.le
    exact ⟨out, seen, List.prefix_refl _, hI, fun p h1 h2 => by omega, Ev.step (fun k => rfl) (Ev.neg (by omega) (Ev.now _))⟩
  | succ d ih =>
    intro i hi out seen hI ho
    by_cases c : i < out.length
    · have hr := hI.rng _ (rd_memI c)
      obtain ⟨out', seen', p1, p2, p4, p3⟩ := reachC_in l hl (rd_T89 l (rd out (i : Int))) (Wy.of hw hv hr.1 hr.2) i (by omega) (nW (rd_T89 l (rd out (i : Int)))) 0 (by omega) out seen hI
      have := p1.length_le
      obtain ⟨r, s2, q1, q2, q4, q3⟩ := ih (i + 1) (by omega) out' seen' p2 (by omega)
      have hpre := List.IsPrefix.trans p1 q1
      refine ⟨r, s2, hpre, q2, fun p h1 h2 q hq => ?_, Ev.step (fun k => rfl) (Ev.pos (by omega) (Ev.pos (by simp) (Ev.pos (by omega) (Ev.pos hr.1 (Ev.pos hr.2 (p3 r q3))))))⟩
      by_cases e : p = i
      · subst e
        obtain ⟨tl, ht⟩ := hpre
        have hrd : rd r (p : Int) = rd out (p : Int) := by rw [← ht]; exact rd_left _ _ p c
        rw [hrd] at hq ⊢
        exact q1.subset (p4 q (by omega) hq)
      · exact q4 p (by omega) h2 q hq
    · exact ⟨out, seen, List.prefix_refl _, hI, fun p h1 h2 => by omega, Ev.step (fun k => rfl) (Ev.neg (by omega) (Ev.now _))⟩
/-- The nodes that are reached. -/
theorem reachC_ev (l : List S89) (hw : ∀ x ∈ l, Rg x) (hv : validT l = true) : ∃ r s, [0] <+: r ∧ Inv l.length r s ∧ Cl l r 0 ∧ Ev (fun k => spec_l06Reached.f k [⟨l⟩]) r := by
  obtain ⟨h1, h2, _⟩ := validT_iff.1 hv
  obtain ⟨r, s, p1, p2, p3, p4⟩ := reachC_l0 l hw hv l.length 0 (by omega) [0] _ (Inv.start l.length h1) (by simp)
  refine ⟨r, s, p1, p2, p3, ?_⟩
  have e : (fun k => spec_l06Reached.f k [⟨l⟩]) = fun k => spec_l06Reached.l0 k [⟨l⟩] [0] ((List.replicate l.length false).set (0 : Int).toNat true) ((0 : Nat) : Int) := by
    funext k
    rw [reached_f, if_pos (by omega), if_pos (by omega)]
    rfl
  rw [e]
  exact p4
theorem drop_I (l : List Int) (i : Nat) (h : i < l.length) : l.drop i = rd l (i : Int) :: l.drop (i + 1) := by
  rw [List.drop_eq_getElem_cons h, rd_at l i h]
end Go.Proofs.Ytpfnohdnaocpdaa.Pure
/- The places of the reached nodes. Plain Lean over the printed functions. -/
namespace Go.Proofs.Ytpfnohdnaocpdaa.Pure
open Go.RowKit Go.Proofs.Ytpfnohdnaocpdaa.PT Go.Proofs.YtpfnohdnaocpdaaW.PrintWords Go.Proofs.YtpfnohdnaocpdaaW.PrintLast Go.Proofs.YtpfnohdnaocpdaaW.PrintMore Go.Proofs.YtpfnohdnaocpdaaRP
set_option linter.unusedVariables false
set_option linter.unusedSimpArgs false
theorem rd_set (xs : List Int) (a b v : Int) (a0 : 0 ≤ a) (a1 : a < xs.length) (b0 : 0 ≤ b) : rd (xs.set a.toNat v) b = if a = b then v else rd xs b := by
  by_cases c : a = b
  · subst c
    rw [if_pos rfl]
    simp [rd, List.getD, show a.toNat < xs.length by omega]
  · rw [if_neg c]
    simp [rd, List.getD, List.getElem?_set, show ¬ a.toNat = b.toNat by omega]
theorem i16_small (i : Nat) (h : i ≤ 60) : IntKind.i16.wrap (i : Int) = i := by
  have : ∀ i : Nat, i < 61 → IntKind.i16.wrap (i : Int) = i := by decide
  exact this i (by omega)
theorem tree0 (l : List S89) (r : List Int) (s : List Bool) (hI : Inv l.length r s) (hl : l.length ≤ 60) (d : Nat) : ∀ (i : Nat) (x5 : List Int), i + d = r.length → x5.length = l.length → (∀ j : Nat, j < i → rd x5 (rd r (j : Int)) = j) →
    ∃ x5' : List Int, x5'.length = l.length ∧ (∀ j : Nat, j < r.length → rd x5' (rd r (j : Int)) = j) ∧ ∀ v, Ev (fun k => spec_l06Tree.l1 k [⟨l⟩] r x5' 0 []) v → Ev (fun k => spec_l06Tree.l0 k [⟨l⟩] r x5 (i : Int)) v := by
  have le := hI.le
  induction d with
  | zero =>
    intro i x5 hi h5 hj
    exact ⟨x5, h5, fun j hj' => hj j (by omega), fun v hv => Ev.step (fun k => rfl) (Ev.neg (by omega) hv)⟩
  | succ d ih =>
    intro i x5 hi h5 hj
    have hr := hI.rng _ (rd_memI (show i < r.length by omega))
    obtain ⟨x5', p1, p2, p3⟩ := ih (i + 1) (x5.set (rd r (i : Int)).toNat (i : Int)) (by omega) (by simp [h5]) (by
      intro j hj'
      have hrj := hI.rng _ (rd_memI (show j < r.length by omega))
      rw [rd_set x5 _ _ _ hr.1 (by rw [h5]; exact hr.2) hrj.1]
      by_cases c : j = i
      · subst c; rw [if_pos rfl]
      · rw [if_neg (hI.dup j i (by omega) (by omega)).symm]
        exact hj j (by omega))
    refine ⟨x5', p1, p2, fun v hv => ?_⟩
    refine Ev.step (fun k => rfl) (Ev.pos (by omega) (Ev.pos (by omega) (Ev.pos hr.1 (Ev.pos (by rw [h5]; exact hr.2) ?_))))
    rw [i16_small i (by omega), wnext i (by omega)]
    exact p3 v hv
end Go.Proofs.Ytpfnohdnaocpdaa.Pure
/- The tree of the reached nodes, in the reference's text. Plain Lean over the printed functions. -/
namespace Go.Proofs.Ytpfnohdnaocpdaa.Pure
open Go.RowKit Go.Proofs.Ytpfnohdnaocpdaa.PT Go.Proofs.YtpfnohdnaocpdaaW.PrintWords Go.Proofs.YtpfnohdnaocpdaaW.PrintLast Go.Proofs.YtpfnohdnaocpdaaW.PrintMore Go.Proofs.YtpfnohdnaocpdaaRP
set_option linter.unusedVariables false
set_option linter.unusedSimpArgs false
/-- A node as the new tree has it. -/
def gT (l : List S89) (x5 : List Int) (a : Int) : S89 := if (rd_T89 l a).f0 = 1 then ⟨(rd_T89 l a).f0, (rd_T89 l a).f1, ⟨rd x5 (rd_T89 l a).f2.f0, rd x5 (rd_T89 l a).f2.f1, rd x5 (rd_T89 l a).f2.f2⟩⟩ else ⟨(rd_T89 l a).f0, (rd_T89 l a).f1, ⟨rd x5 (rd_T89 l a).f2.f0, (rd_T89 l a).f2.f1, (rd_T89 l a).f2.f2⟩⟩
theorem ways_of (a b c e f : Int) : spec_l06Ways.f [(⟨a, b, ⟨c, e, f⟩⟩ : S89)] = some (if a = 1 then 3 else 1) := ways_eq _
theorem treeC1 (l : List S89) (hk : okT l = true) (hl : l.length ≤ 60) (R : List Int) (s : List Bool) (hI : Inv l.length R s) (x5 : List Int) (h5 : x5.length = l.length) (d : Nat) : ∀ (i : Nat) (acc : List S89), i + d = R.length → acc.length = i →
    Ev (fun k => spec_l06Tree.l1 k [⟨l⟩] R x5 (i : Int) acc) (acc ++ (R.drop i).map (gT l x5)) := by
  have le := hI.le
  have w01 : wrap64 (0 + 1) = 1 := by unfold wrap64; omega
  have w12 : wrap64 (1 + 1) = 2 := by unfold wrap64; omega
  have w23 : wrap64 (2 + 1) = 3 := by unfold wrap64; omega
  induction d with
  | zero =>
    intro i acc hi ha
    refine Ev.step (fun k => rfl) (Ev.neg (by omega) (Ev.to (Ev.now _) ?_))
    rw [List.drop_of_length_le (by omega)]
    simp
  | succ d ih =>
    intro i acc hi ha
    have hr := hI.rng _ (rd_memI (show i < R.length by omega))
    obtain ⟨hkd, h0, h1, h2⟩ := okT_rd hk _ hr.1 hr.2
    have nx := ih (i + 1) (acc ++ [gT l x5 (rd R (i : Int))]) (by omega) (by simp [ha])
    rw [List.append_assoc, List.singleton_append] at nx
    rw [drop_I R i (by omega), List.map_cons]
    refine Ev.step (fun k => rfl) (Ev.pos (by omega) (Ev.pos (by simp) (Ev.pos (by omega) (Ev.pos hr.1 (Ev.pos hr.2 ?_)))))
    rcases hkd with hx | hx
    · have e : gT l x5 (rd R (i : Int)) = ⟨(rd_T89 l (rd R (i : Int))).f0, (rd_T89 l (rd R (i : Int))).f1, ⟨rd x5 (rd_T89 l (rd R (i : Int))).f2.f0, rd x5 (rd_T89 l (rd R (i : Int))).f2.f1, rd x5 (rd_T89 l (rd R (i : Int))).f2.f2⟩⟩ := by unfold gT; rw [if_pos hx]
      refine Ev.step (fun k => rfl) (Ev.bind (Ev.is (fun _ => (ways_of _ _ _ _ _).trans (congrArg some (if_pos hx)))) (Ev.pos (by omega) (Ev.pos (by omega) (Ev.pos (by omega) (Ev.pos h0.1 (Ev.pos (by rw [h5]; exact h0.2) ?_))))))
      rw [w01]
      refine Ev.step (fun k => rfl) (Ev.bind (Ev.is (fun _ => (ways_of _ _ _ _ _).trans (congrArg some (if_pos hx)))) (Ev.pos (by omega) (Ev.pos (by omega) (Ev.pos (by omega) (Ev.pos h1.1 (Ev.pos (by rw [h5]; exact h1.2) ?_))))))
      rw [w12]
      refine Ev.step (fun k => rfl) (Ev.bind (Ev.is (fun _ => (ways_of _ _ _ _ _).trans (congrArg some (if_pos hx)))) (Ev.pos (by omega) (Ev.pos (by omega) (Ev.pos (by omega) (Ev.pos h2.1 (Ev.pos (by rw [h5]; exact h2.2) ?_))))))
      rw [w23]
      refine Ev.step (fun k => rfl) (Ev.bind (Ev.is (fun _ => (ways_of _ _ _ _ _).trans (congrArg some (if_pos hx)))) (Ev.neg (by omega) (Ev.pos (by omega) ?_)))
      rw [wnext i (by omega)]
      rw [e] at nx ⊢
      exact nx
    · have hx1 : ¬ (rd_T89 l (rd R (i : Int))).f0 = 1 := by omega
      have e : gT l x5 (rd R (i : Int)) = ⟨(rd_T89 l (rd R (i : Int))).f0, (rd_T89 l (rd R (i : Int))).f1, ⟨rd x5 (rd_T89 l (rd R (i : Int))).f2.f0, (rd_T89 l (rd R (i : Int))).f2.f1, (rd_T89 l (rd R (i : Int))).f2.f2⟩⟩ := by unfold gT; rw [if_neg hx1]
      refine Ev.step (fun k => rfl) (Ev.bind (Ev.is (fun _ => (ways_of _ _ _ _ _).trans (congrArg some (if_neg hx1)))) (Ev.pos (by omega) (Ev.pos (by omega) (Ev.pos (by omega) (Ev.pos h0.1 (Ev.pos (by rw [h5]; exact h0.2) ?_))))))
      rw [w01]
      refine Ev.step (fun k => rfl) (Ev.bind (Ev.is (fun _ => (ways_of _ _ _ _ _).trans (congrArg some (if_neg hx1)))) (Ev.neg (by omega) (Ev.pos (by omega) ?_)))
      rw [wnext i (by omega)]
      rw [e] at nx ⊢
      exact nx
theorem treeC_ev (l : List S89) (hk : okT l = true) (hl : l.length ≤ 60) (R : List Int) (s : List Bool) (hI : Inv l.length R s) : ∃ x5 : List Int, x5.length = l.length ∧ (∀ j : Nat, j < R.length → rd x5 (rd R (j : Int)) = j) ∧ Ev (fun k => spec_l06Tree.f k [⟨l⟩] R) (R.map (gT l x5)) := by
  obtain ⟨x5, p1, p2, p3⟩ := tree0 l R s hI hl R.length 0 (List.replicate l.length 0) (by omega) (by simp) (fun j hj => absurd hj (by omega))
  refine ⟨x5, p1, p2, ?_⟩
  have h1 := treeC1 l hk hl R s hI x5 p1 R.length 0 [] (by omega) rfl
  rw [List.nil_append, List.drop_zero] at h1
  have h2 := p3 _ h1
  unfold spec_l06Tree.f
  refine Ev.pos (by simp) (Ev.pos (by omega) (Ev.pos ?_ ?_))
  · change ((l.length : Int)).toNat ≤ _; omega
  · change Ev (fun k => spec_l06Tree.l0 k [⟨l⟩] R (List.replicate ((l.length : Int)).toNat 0) 0) _
    rw [Int.toNat_natCast]
    exact h2
theorem rd_mapG (l : List S89) (x5 R : List Int) (i : Nat) (h : i < R.length) : rd_T89 (R.map (gT l x5)) (i : Int) = gT l x5 (rd R (i : Int)) := by
  rw [rd_at R i h]
  simp [rd_T89, List.getD, h]
end Go.Proofs.Ytpfnohdnaocpdaa.Pure
/- The nodes that are reached, as a plain loop over the nodes found so far. Plain Lean over the printed functions. -/
namespace Go.Proofs.Ytpfnohdnaocpdaa.Pure
open Go.RowKit Go.Proofs.Ytpfnohdnaocpdaa.PT Go.Proofs.YtpfnohdnaocpdaaW.PrintWords Go.Proofs.YtpfnohdnaocpdaaW.PrintLast Go.Proofs.YtpfnohdnaocpdaaW.PrintMore Go.Proofs.YtpfnohdnaocpdaaRP
set_option linter.unusedVariables false
set_option linter.unusedSimpArgs false
def pushI (o : List Int) (a : Int) : List Int := if a ∈ o then o else o ++ [a]
def wysL (x : S89) : List Int := if x.f0 = 1 then [x.f2.f0, x.f2.f1, x.f2.f2] else [x.f2.f0]
def bfs (T : List S89) : Nat → Nat → List Int → Option (List Int)
  | 0, _, _ => none
  | k + 1, i, o => if i < o.length then bfs T k (i + 1) ((wysL (rd_T89 T (rd o (i : Int)))).foldl pushI o) else some o
theorem wysL_len (x : S89) : (wysL x).length = nW x := by unfold wysL nW; split <;> rfl
theorem wysL_rd (x : S89) (j : Nat) (h : j < nW x) : rd [x.f2.f0, x.f2.f1, x.f2.f2] (j : Int) = rd (wysL x) (j : Int) := by
  unfold nW at h
  unfold wysL
  by_cases c : x.f0 = 1
  · rw [if_pos c]
  · rw [if_neg c] at h ⊢
    obtain rfl : j = 0 := by omega
    rfl
theorem drop_rd (l : List Int) (j : Nat) (h : j < l.length) : l.drop j = rd l (j : Int) :: l.drop (j + 1) := by
  rw [List.drop_eq_getElem_cons h, rd_at l j h]
theorem push_pre (o : List Int) (a : Int) : o <+: pushI o a ∧ a ∈ pushI o a := by
  unfold pushI
  split
  · exact ⟨List.prefix_refl _, by assumption⟩
  · exact ⟨List.prefix_append _ _, by simp⟩
theorem fold_pre (r : List Int) : ∀ o, o <+: r.foldl pushI o ∧ ∀ a ∈ r, a ∈ r.foldl pushI o := by
  induction r with
  | nil => intro o; exact ⟨List.prefix_refl _, fun a h => by cases h⟩
  | cons a r ih =>
    intro o
    obtain ⟨h1, h2⟩ := ih (pushI o a)
    obtain ⟨h3, h4⟩ := push_pre o a
    refine ⟨List.IsPrefix.trans h3 h1, fun b hb => ?_⟩
    rcases List.mem_cons.1 hb with rfl | hb
    · exact h1.subset h4
    · exact h2 b hb
theorem Wy.okT {l : List S89} (hk : okT l = true) {a : Int} (a0 : 0 ≤ a) (a1 : a < l.length) : Wy l (rd_T89 l a) := by
  obtain ⟨_, h1, h2, h3⟩ := okT_rd hk a a0 a1
  intro j hj
  rcases (by omega : j = 0 ∨ j = 1 ∨ j = 2) with e | e | e <;> subst e
  · exact h1
  · exact h2
  · exact h3
theorem bfs_in (l : List S89) (hl : l.length ≤ 60) (x : S89) (hx : Wy l x) (i : Nat) (hi : i ≤ 60) (d : Nat) : ∀ j : Nat, j + d = nW x → ∀ out seen, Inv l.length out seen →
    ∃ seen', Inv l.length (((wysL x).drop j).foldl pushI out) seen' ∧ ∀ v, Ev (fun k => spec_l06Reached.l0 k [⟨l⟩] (((wysL x).drop j).foldl pushI out) seen' ((i + 1 : Nat) : Int)) v → Ev (fun k => spec_l06Reached.l1 k [⟨l⟩] out seen (i : Int) [x] (j : Int)) v := by
  have hm := nW_eq x
  have m3 := nW_le x
  induction d with
  | zero =>
    intro j hj out seen hI
    rw [List.drop_eq_nil_of_le (by rw [wysL_len]; omega)]
    refine ⟨seen, hI, fun v hv => ?_⟩
    refine Ev.step (fun k => rfl) (Ev.bind (Ev.is (fun _ => (ways_eq x).trans (congrArg some hm))) ?_)
    refine Ev.neg (by omega) ?_
    rw [wnext i (by omega)]
    exact hv
  | succ d ih =>
    intro j hj out seen hI
    have hw := hx j (by omega)
    have hd := drop_rd (wysL x) j (by rw [wysL_len]; omega)
    rw [← wysL_rd x j (by omega)] at hd
    rw [hd, List.foldl_cons]
    by_cases c : rd [x.f2.f0, x.f2.f1, x.f2.f2] (j : Int) ∈ out
    · rw [show pushI out (rd [x.f2.f0, x.f2.f1, x.f2.f2] (j : Int)) = out by unfold pushI; rw [if_pos c]]
      obtain ⟨seen', p2, p3⟩ := ih (j + 1) (by omega) out seen hI
      refine ⟨seen', p2, fun v hv => ?_⟩
      refine Ev.step (fun k => rfl) (Ev.bind (Ev.is (fun _ => (ways_eq x).trans (congrArg some hm))) ?_)
      refine Ev.pos (by omega) (Ev.pos (by simp) (Ev.pos (by omega) (Ev.pos (by omega) (Ev.pos hw.1 (Ev.pos (by rw [hI.len]; exact hw.2) (Ev.pos ((hI.iff _ hw.1 hw.2).2 c) ?_))))))
      rw [wnext j (by omega)]
      exact p3 v hv
    · rw [show pushI out (rd [x.f2.f0, x.f2.f1, x.f2.f2] (j : Int)) = out ++ [rd [x.f2.f0, x.f2.f1, x.f2.f2] (j : Int)] by unfold pushI; rw [if_neg c]]
      obtain ⟨seen', p2, p3⟩ := ih (j + 1) (by omega) _ _ (hI.push hw.1 hw.2 c)
      refine ⟨seen', p2, fun v hv => ?_⟩
      refine Ev.step (fun k => rfl) (Ev.bind (Ev.is (fun _ => (ways_eq x).trans (congrArg some hm))) ?_)
      have le := hI.le
      refine Ev.pos (by omega) (Ev.pos (by simp) (Ev.pos (by omega) (Ev.pos (by omega) (Ev.pos hw.1 (Ev.pos (by rw [hI.len]; exact hw.2) (Ev.neg (fun z => c ((hI.iff _ hw.1 hw.2).1 z)) (Ev.pos (by omega) ?_)))))))
      rw [wnext j (by omega)]
      exact p3 v hv
/-- What is found holds the ways of its nodes. -/
def ClW (l : List S89) (r : List Int) (i : Nat) : Prop := ∀ p : Nat, i ≤ p → p < r.length → ∀ b ∈ wysL (rd_T89 l (rd r (p : Int))), b ∈ r
theorem bfs_l0 (l : List S89) (hk : okT l = true) (hl : l.length ≤ 60) (d : Nat) : ∀ i : Nat, l.length - i = d → ∀ out seen, Inv l.length out seen → i ≤ out.length →
    ∃ K r seen', bfs l K i out = some r ∧ out <+: r ∧ Inv l.length r seen' ∧ ClW l r i ∧ Ev (fun k => spec_l06Reached.l0 k [⟨l⟩] out seen (i : Int)) r := by
  induction d with
  | zero =>
    intro i hi out seen hI ho
    have := hI.le
    exact ⟨1, out, seen, by unfold bfs; rw [if_neg (by omega)], List.prefix_refl _, hI, fun p h1 h2 => by omega, Ev.step (fun k => rfl) (Ev.neg (by omega) (Ev.now _))⟩
  | succ d ih =>
    intro i hi out seen hI ho
    by_cases c : i < out.length
    · have hr := hI.rng _ (rd_memI c)
      obtain ⟨seen', p2, p3⟩ := bfs_in l hl (rd_T89 l (rd out (i : Int))) (Wy.okT hk hr.1 hr.2) i (by omega) (nW (rd_T89 l (rd out (i : Int)))) 0 (by omega) out seen hI
      rw [List.drop_zero] at p2 p3
      obtain ⟨p1, p4⟩ := fold_pre (wysL (rd_T89 l (rd out (i : Int)))) out
      have := p1.length_le
      obtain ⟨K, r, s2, q0, q1, q2, q4, q3⟩ := ih (i + 1) (by omega) _ seen' p2 (by omega)
      have hpre := List.IsPrefix.trans p1 q1
      refine ⟨K + 1, r, s2, by unfold bfs; rw [if_pos c]; exact q0, hpre, q2, fun p h1 h2 q hq => ?_, Ev.step (fun k => rfl) (Ev.pos (by omega) (Ev.pos (by simp) (Ev.pos (by omega) (Ev.pos hr.1 (Ev.pos hr.2 (p3 r q3))))))⟩
      by_cases e : p = i
      · subst e
        obtain ⟨tl, ht⟩ := hpre
        have hrd : rd r (p : Int) = rd out (p : Int) := by rw [← ht]; exact rd_left _ _ p c
        rw [hrd] at hq
        exact q1.subset (p4 q hq)
      · exact q4 p (by omega) h2 q hq
    · exact ⟨1, out, seen, by unfold bfs; rw [if_neg c], List.prefix_refl _, hI, fun p h1 h2 => by omega, Ev.step (fun k => rfl) (Ev.neg (by omega) (Ev.now _))⟩
/-- The nodes that are reached. -/
theorem bfs_ev (l : List S89) (hk : okT l = true) (h0 : 0 < l.length) (hl : l.length ≤ 60) : ∃ K r s, bfs l K 0 [0] = some r ∧ [0] <+: r ∧ Inv l.length r s ∧ ClW l r 0 ∧ Ev (fun k => spec_l06Reached.f k [⟨l⟩]) r := by
  obtain ⟨K, r, s, p0, p1, p2, p3, p4⟩ := bfs_l0 l hk hl l.length 0 (by omega) [0] _ (Inv.start l.length h0) (by simp)
  refine ⟨K, r, s, p0, p1, p2, p3, ?_⟩
  have e : (fun k => spec_l06Reached.f k [⟨l⟩]) = fun k => spec_l06Reached.l0 k [⟨l⟩] [0] ((List.replicate l.length false).set (0 : Int).toNat true) ((0 : Nat) : Int) := by
    funext k
    rw [reached_f, if_pos (by omega), if_pos (by omega)]
    rfl
  rw [e]
  exact p4
end Go.Proofs.Ytpfnohdnaocpdaa.Pure
/- The kinds of a tree's nodes: the program's classes, and the reference's parts; the least trees of both are the same. Plain Lean. -/
namespace Go.Proofs.Ytpfnohdnaocpdaa.Pure
open Go.RowKit Go.Proofs.Ytpfnohdnaocpdaa.PT Go.Proofs.YtpfnohdnaocpdaaW.PrintWords Go.Proofs.YtpfnohdnaocpdaaW.PrintLast Go.Proofs.YtpfnohdnaocpdaaW.PrintMore Go.Proofs.YtpfnohdnaocpdaaRP
set_option linter.unusedVariables false
set_option linter.unusedSimpArgs false

/-- Two nodes are alike for so many rounds. -/
def E {L : Type} (lab : Nat → L) (ws : Nat → Nat) (nx : Nat → Nat → Nat) : Nat → Nat → Nat → Prop
  | 0, _, _ => True
  | r + 1, i, k => lab i = lab k ∧ ∀ j, j < ws i → E lab ws nx r (nx i j) (nx k j)
theorem E_succ {L : Type} {lab : Nat → L} {ws : Nat → Nat} {nx : Nat → Nat → Nat} {r i k : Nat} : E lab ws nx (r + 1) i k ↔ lab i = lab k ∧ ∀ j, j < ws i → E lab ws nx r (nx i j) (nx k j) := Iff.rfl
theorem E_refl {L : Type} {lab : Nat → L} {ws : Nat → Nat} {nx : Nat → Nat → Nat} (r : Nat) : ∀ i, E lab ws nx r i i := by
  induction r with
  | zero => intro i; trivial
  | succ r ih => intro i; exact ⟨rfl, fun j _ => ih _⟩
theorem E_symm {L : Type} {lab : Nat → L} {ws : Nat → Nat} {nx : Nat → Nat → Nat} (hw : ∀ i k, lab i = lab k → ws i = ws k) (r : Nat) : ∀ i k, E lab ws nx r i k → E lab ws nx r k i := by
  induction r with
  | zero => intro i k _; trivial
  | succ r ih => intro i k h; exact ⟨h.1.symm, fun j hj => ih _ _ (h.2 j (by rw [hw i k h.1]; exact hj))⟩
theorem E_trans {L : Type} {lab : Nat → L} {ws : Nat → Nat} {nx : Nat → Nat → Nat} (hw : ∀ i k, lab i = lab k → ws i = ws k) (r : Nat) : ∀ i k m, E lab ws nx r i k → E lab ws nx r k m → E lab ws nx r i m := by
  induction r with
  | zero => intro i k m _ _; trivial
  | succ r ih => intro i k m h h'; exact ⟨h.1.trans h'.1, fun j hj => ih _ _ _ (h.2 j hj) (h'.2 j (by rw [← hw i k h.1]; exact hj))⟩
theorem E_down {L : Type} {lab : Nat → L} {ws : Nat → Nat} {nx : Nat → Nat → Nat} (r : Nat) : ∀ i k, E lab ws nx (r + 1) i k → E lab ws nx r i k := by
  induction r with
  | zero => intro i k _; trivial
  | succ r ih => intro i k h; exact ⟨h.1, fun j hj => ih _ _ (h.2 j hj)⟩
theorem E_le {L : Type} {lab : Nat → L} {ws : Nat → Nat} {nx : Nat → Nat → Nat} {r s : Nat} (h : r ≤ s) : ∀ i k, E lab ws nx s i k → E lab ws nx r i k := by
  intro i k
  obtain ⟨d, rfl⟩ : ∃ d, s = r + d := ⟨s - r, by omega⟩
  clear h
  induction d with
  | zero => exact id
  | succ d ih => exact fun h => ih (E_down _ _ _ h)
/-- Where one round more makes no difference, none does. -/
theorem E_stays {L : Type} {lab : Nat → L} {ws : Nat → Nat} {nx : Nat → Nat → Nat} {n r : Nat} (hn : ∀ i, i < n → ∀ j, j < ws i → nx i j < n) (hw : ∀ i k, lab i = lab k → ws i = ws k) (h : ∀ i k, i < n → k < n → E lab ws nx r i k → E lab ws nx (r + 1) i k) (d : Nat) : ∀ i k, i < n → k < n → E lab ws nx r i k → E lab ws nx (r + d) i k := by
  induction d with
  | zero => intro i k _ _ h; exact h
  | succ d ih =>
    intro i k hi hk e
    have e1 := h i k hi hk e
    exact ⟨e1.1, fun j hj => ih _ _ (hn i hi j hj) (hn k hk j (by rw [← hw i k e1.1]; exact hj)) (e1.2 j hj)⟩
/-- The first of its kind. -/
def Rep {L : Type} (lab : Nat → L) (ws : Nat → Nat) (nx : Nat → Nat → Nat) (r i : Nat) : Prop := ∀ k, k < i → ¬ E lab ws nx r k i
theorem Rep_up {L : Type} {lab : Nat → L} {ws : Nat → Nat} {nx : Nat → Nat → Nat} {r i : Nat} (h : Rep lab ws nx r i) : Rep lab ws nx (r + 1) i := fun k hk e => h k hk (E_down _ _ _ e)
theorem Rep_zero {L : Type} {lab : Nat → L} {ws : Nat → Nat} {nx : Nat → Nat → Nat} (r : Nat) : Rep lab ws nx r 0 := fun k hk => by omega
theorem rep_of {L : Type} {lab : Nat → L} {ws : Nat → Nat} {nx : Nat → Nat → Nat} (hw : ∀ i k, lab i = lab k → ws i = ws k) (r : Nat) : ∀ i, ∃ a, a ≤ i ∧ Rep lab ws nx r a ∧ E lab ws nx r a i := by
  intro i
  induction i using Nat.strongRecOn with
  | _ i ih =>
    by_cases h : Rep lab ws nx r i
    · exact ⟨i, Nat.le_refl _, h, E_refl r i⟩
    · obtain ⟨k, hk⟩ := Classical.not_forall.1 h
      obtain ⟨hk1, hk2⟩ := Classical.not_imp.1 hk
      have hk2 := Classical.not_not.1 hk2
      obtain ⟨a, h1, h2, h3⟩ := ih k hk1
      exact ⟨a, by omega, h2, E_trans hw r a k i h3 hk2⟩
theorem rep_one {L : Type} {lab : Nat → L} {ws : Nat → Nat} {nx : Nat → Nat → Nat} (hw : ∀ i k, lab i = lab k → ws i = ws k) {r i a b : Nat} (ha : Rep lab ws nx r a) (hb : Rep lab ws nx r b) (ea : E lab ws nx r a i) (eb : E lab ws nx r b i) : a = b := by
  have h1 := E_trans hw r a i b ea (E_symm hw r _ _ eb)
  have h2 := E_symm hw r _ _ h1
  rcases Nat.lt_trichotomy a b with h | h | h
  · exact absurd h1 (hb a h)
  · exact h
  · exact absurd h2 (ha b h)
/-- How many kinds there are among the first ones. -/
noncomputable def cnt {L : Type} (lab : Nat → L) (ws : Nat → Nat) (nx : Nat → Nat → Nat) (r : Nat) : Nat → Nat
  | 0 => 0
  | i + 1 => cnt lab ws nx r i + (@ite Nat (Rep lab ws nx r i) (Classical.propDecidable _) 1 0)
theorem cnt_succ {L : Type} {lab : Nat → L} {ws : Nat → Nat} {nx : Nat → Nat → Nat} (r i : Nat) : cnt lab ws nx r (i + 1) = cnt lab ws nx r i + (@ite Nat (Rep lab ws nx r i) (Classical.propDecidable _) 1 0) := rfl
theorem cnt_le {L : Type} {lab : Nat → L} {ws : Nat → Nat} {nx : Nat → Nat → Nat} (r n : Nat) : cnt lab ws nx r n ≤ n := by
  induction n with
  | zero => exact Nat.le_refl _
  | succ n ih => rw [cnt_succ]; split <;> omega
theorem cnt_up {L : Type} {lab : Nat → L} {ws : Nat → Nat} {nx : Nat → Nat → Nat} (r n : Nat) : cnt lab ws nx r n ≤ cnt lab ws nx (r + 1) n := by
  induction n with
  | zero => exact Nat.le_refl _
  | succ n ih =>
    rw [cnt_succ, cnt_succ]
    by_cases h : Rep lab ws nx r n
    · rw [if_pos h, if_pos (Rep_up h)]; omega
    · rw [if_neg h]; omega
theorem cnt_eq {L : Type} {lab : Nat → L} {ws : Nat → Nat} {nx : Nat → Nat → Nat} {r n : Nat} (h : cnt lab ws nx (r + 1) n = cnt lab ws nx r n) : ∀ i, i < n → Rep lab ws nx (r + 1) i → Rep lab ws nx r i := by
  induction n with
  | zero => intro i hi; omega
  | succ n ih =>
    have h1 := cnt_up (lab := lab) (ws := ws) (nx := nx) r n
    rw [cnt_succ, cnt_succ] at h
    intro i hi hr
    by_cases c : Rep lab ws nx r n
    · rw [if_pos c, if_pos (Rep_up c)] at h
      by_cases e : i = n
      · subst e; exact c
      · exact ih (by omega) i (by omega) hr
    · rw [if_neg c] at h
      by_cases c2 : Rep lab ws nx (r + 1) n
      · rw [if_pos c2] at h; omega
      · rw [if_neg c2] at h
        by_cases e : i = n
        · subst e; exact absurd hr c2
        · exact ih (by omega) i (by omega) hr
theorem cnt_pos {L : Type} {lab : Nat → L} {ws : Nat → Nat} {nx : Nat → Nat → Nat} {r n : Nat} (h : 0 < n) : 0 < cnt lab ws nx r n := by
  induction n with
  | zero => omega
  | succ n ih =>
    rw [cnt_succ]
    by_cases e : n = 0
    · subst e; rw [if_pos (Rep_zero r)]; omega
    · have := ih (by omega); omega
theorem stable {L : Type} {lab : Nat → L} {ws : Nat → Nat} {nx : Nat → Nat → Nat} {r n : Nat} (hw : ∀ i k, lab i = lab k → ws i = ws k) (h : cnt lab ws nx (r + 1) n = cnt lab ws nx r n) : ∀ i k, i < n → k < n → E lab ws nx r i k → E lab ws nx (r + 1) i k := by
  intro i k hi hk e
  obtain ⟨a, a1, a2, a3⟩ := rep_of (nx := nx) hw (r + 1) i
  obtain ⟨b, b1, b2, b3⟩ := rep_of (nx := nx) hw (r + 1) k
  have ra := cnt_eq h a (by omega) a2
  have rb := cnt_eq h b (by omega) b2
  have := rep_one hw ra rb (E_trans hw r _ _ _ (E_down r _ _ a3) e) (E_down r _ _ b3)
  subst this
  exact E_trans hw _ _ _ _ (E_symm hw _ _ _ a3) b3

def ix {α : Type} (eq : α → α → Bool) (xs : List α) (p : α) : Nat := xs.findIdx fun x => eq x p
def fnd {α : Type} (eq : α → α → Bool) (xs : List α) (p : α) : List α := if ix eq xs p < xs.length then xs else xs ++ [p]
/-- All that are found, in order. -/
def fnds {α : Type} (eq : α → α → Bool) (xs : List α) : List α → List α
  | [] => xs
  | p :: r => fnds eq (fnd eq xs p) r
theorem ix_mem {α : Type} {eq : α → α → Bool} (he : ∀ x y, eq x y = true ↔ x = y) {xs : List α} {p : α} : ix eq xs p < xs.length ↔ p ∈ xs := by
  unfold ix
  rw [List.findIdx_lt_length]
  constructor
  · rintro ⟨x, hx, h⟩; rw [(he _ _).1 h] at hx; exact hx
  · intro h; exact ⟨p, h, (he _ _).2 rfl⟩
theorem ix_at {α : Type} {eq : α → α → Bool} (he : ∀ x y, eq x y = true ↔ x = y) {xs : List α} {p : α} (h : ix eq xs p < xs.length) : xs[ix eq xs p] = p := by
  have := List.findIdx_getElem (p := fun x => eq x p) (xs := xs) (w := h)
  exact (he _ _).1 this
theorem ix_inj {α : Type} {eq : α → α → Bool} (he : ∀ x y, eq x y = true ↔ x = y) {xs : List α} {p q : α} (hp : p ∈ xs) (h : ix eq xs p = ix eq xs q) : p = q := by
  have h1 := (ix_mem he).2 hp
  have h2 : ix eq xs q < xs.length := by rw [← h]; exact h1
  have e1 := ix_at he h1
  have e2 := ix_at he h2
  have e3 : xs[ix eq xs p] = xs[ix eq xs q] := by congr 1
  rw [e1, e2] at e3
  exact e3
theorem ix_left {α : Type} {eq : α → α → Bool} (he : ∀ x y, eq x y = true ↔ x = y) {xs ys : List α} {p : α} (h : p ∈ xs) : ix eq (xs ++ ys) p = ix eq xs p := by
  have h1 := (ix_mem he).2 h
  unfold ix at h1 ⊢
  rw [List.findIdx_append, if_pos h1]
theorem ix_new {α : Type} {eq : α → α → Bool} (he : ∀ x y, eq x y = true ↔ x = y) {xs : List α} {p : α} (h : ¬ p ∈ xs) : ix eq xs p = xs.length := by
  have h1 : ¬ ix eq xs p < xs.length := fun c => h ((ix_mem he).1 c)
  have h2 : ix eq xs p ≤ xs.length := List.findIdx_le_length
  omega
theorem fnd_in {α : Type} {eq : α → α → Bool} (he : ∀ x y, eq x y = true ↔ x = y) {xs : List α} {p : α} (h : p ∈ xs) : fnd eq xs p = xs := by unfold fnd; rw [if_pos ((ix_mem he).2 h)]
theorem fnd_new {α : Type} {eq : α → α → Bool} (he : ∀ x y, eq x y = true ↔ x = y) {xs : List α} {p : α} (h : ¬ p ∈ xs) : fnd eq xs p = xs ++ [p] := by unfold fnd; rw [if_neg (fun c => h ((ix_mem he).1 c))]
theorem fnd_pre {α : Type} {eq : α → α → Bool} (he : ∀ x y, eq x y = true ↔ x = y) (xs : List α) (p : α) : xs <+: fnd eq xs p ∧ p ∈ fnd eq xs p := by
  by_cases h : p ∈ xs
  · rw [fnd_in he h]; exact ⟨List.prefix_refl _, h⟩
  · rw [fnd_new he h]; exact ⟨List.prefix_append _ _, by simp⟩
theorem fnd_ix {α : Type} {eq : α → α → Bool} (he : ∀ x y, eq x y = true ↔ x = y) (xs : List α) (p : α) : ix eq (fnd eq xs p) p = ix eq xs p := by
  by_cases h : p ∈ xs
  · rw [fnd_in he h]
  · rw [fnd_new he h, ix_new he h]
    unfold ix
    rw [List.findIdx_append, if_neg (by have := ix_new he h; unfold ix at this; omega)]
    simp [(he p p).2 rfl]
theorem fnds_pre {α : Type} {eq : α → α → Bool} (he : ∀ x y, eq x y = true ↔ x = y) (r : List α) : ∀ xs, xs <+: fnds eq xs r ∧ ∀ p ∈ r, p ∈ fnds eq xs r := by
  induction r with
  | nil => intro xs; exact ⟨List.prefix_refl _, fun p h => by cases h⟩
  | cons p r ih =>
    intro xs
    obtain ⟨h1, h2⟩ := ih (fnd eq xs p)
    obtain ⟨h3, h4⟩ := fnd_pre he xs p
    refine ⟨List.IsPrefix.trans h3 h1, fun q hq => ?_⟩
    rcases List.mem_cons.1 hq with rfl | hq
    · exact h1.subset h4
    · exact h2 q hq
theorem fnds_ix {α : Type} {eq : α → α → Bool} (he : ∀ x y, eq x y = true ↔ x = y) (r : List α) (xs : List α) {p : α} (h : p ∈ xs) : ix eq (fnds eq xs r) p = ix eq xs p := by
  obtain ⟨⟨t, ht⟩, _⟩ := fnds_pre he r xs
  rw [← ht, ix_left he h]
theorem fnds_app {α : Type} {eq : α → α → Bool} (a : List α) : ∀ (xs b : List α), fnds eq xs (a ++ b) = fnds eq (fnds eq xs a) b := by
  induction a with
  | nil => intro xs b; rfl
  | cons p a ih => intro xs b; exact ih _ _
theorem fnds_mem {α : Type} {eq : α → α → Bool} (he : ∀ x y, eq x y = true ↔ x = y) (r : List α) : ∀ xs p, p ∈ fnds eq xs r ↔ p ∈ xs ∨ p ∈ r := by
  induction r with
  | nil => intro xs p; simp [fnds]
  | cons q r ih =>
    intro xs p
    show p ∈ fnds eq (fnd eq xs q) r ↔ _
    rw [ih]
    by_cases h : q ∈ xs
    · rw [fnd_in he h, List.mem_cons]
      constructor
      · rintro (h' | h'); exact .inl h'; exact .inr (.inr h')
      · rintro (h' | rfl | h'); exact .inl h'; exact .inl h; exact .inr h'
    · rw [fnd_new he h, List.mem_append, List.mem_singleton, List.mem_cons]
      constructor
      · rintro ((h' | h') | h'); exact .inl h'; exact .inr (.inl h'); exact .inr (.inr h')
      · rintro (h' | h' | h'); exact .inl (.inl h'); exact .inl (.inr h'); exact .inr h'

/-- A node whose ways go through a function. -/
def gG (g : Int → Int) (x : S89) : S89 := if x.f0 = 1 then ⟨x.f0, x.f1, ⟨g x.f2.f0, g x.f2.f1, g x.f2.f2⟩⟩ else ⟨x.f0, x.f1, ⟨g x.f2.f0, x.f2.f1, x.f2.f2⟩⟩
/-- Trees whose ways are nodes, and whose other ways are 0. -/
def okM (M : List S89) : Prop := ∀ x ∈ M, (0 ≤ x.f2.f0 ∧ x.f2.f0 < M.length) ∧ (x.f0 = 1 → (0 ≤ x.f2.f1 ∧ x.f2.f1 < M.length) ∧ (0 ≤ x.f2.f2 ∧ x.f2.f2 < M.length)) ∧ (x.f0 ≠ 1 → x.f2.f1 = 0 ∧ x.f2.f2 = 0)
def nd (M : List S89) (i : Nat) : S89 := rd_T89 M (i : Int)
def lab (M : List S89) (i : Nat) : Int × Int := ((nd M i).f0, (nd M i).f1)
def wsN (M : List S89) (i : Nat) : Nat := if (nd M i).f0 = 1 then 3 else 1
def nxN (M : List S89) (i j : Nat) : Nat := (rd [(nd M i).f2.f0, (nd M i).f2.f1, (nd M i).f2.f2] (j : Int)).toNat
abbrev EM (M : List S89) := E (lab M) (wsN M) (nxN M)
theorem hwM (M : List S89) : ∀ i k, lab M i = lab M k → wsN M i = wsN M k := by
  intro i k h
  have : (nd M i).f0 = (nd M k).f0 := congrArg Prod.fst h
  unfold wsN; rw [this]
theorem nd_mem {M : List S89} {i : Nat} (h : i < M.length) : nd M i ∈ M := by
  unfold nd rd_T89
  rw [show ((i : Int)).toNat = i by omega, List.getD_eq_getElem?_getD, List.getElem?_eq_getElem h]
  exact List.getElem_mem h
theorem nxM {M : List S89} (ok : okM M) : ∀ i, i < M.length → ∀ j, j < wsN M i → nxN M i j < M.length := by
  intro i hi j hj
  obtain ⟨h0, h1, _⟩ := ok _ (nd_mem hi)
  unfold wsN at hj
  unfold nxN
  by_cases c : (nd M i).f0 = 1
  · rw [if_pos c] at hj
    obtain ⟨h1, h2⟩ := h1 c
    rcases (by omega : j = 0 ∨ j = 1 ∨ j = 2) with rfl | rfl | rfl
    · show ((nd M i).f2.f0).toNat < _; omega
    · show ((nd M i).f2.f1).toNat < _; omega
    · show ((nd M i).f2.f2).toNat < _; omega
  · rw [if_neg c] at hj
    obtain rfl : j = 0 := by omega
    show ((nd M i).f2.f0).toNat < _
    omega
/-- Numbers that tell the same as so many rounds. -/
def Tells (M : List S89) (r : Nat) (p : List Int) : Prop := p.length = M.length ∧ ∀ i k, i < M.length → k < M.length → (rd p (i : Int) = rd p (k : Int) ↔ EM M r i k)
theorem key_iff {M : List S89} (ok : okM M) {r : Nat} {p : List Int} (hp : Tells M r p) {i k : Nat} (hi : i < M.length) (hk : k < M.length) : gG (rd p) (nd M i) = gG (rd p) (nd M k) ↔ EM M (r + 1) i k := by
  obtain ⟨a0, a1, a2⟩ := ok _ (nd_mem hi)
  obtain ⟨b0, b1, b2⟩ := ok _ (nd_mem hk)
  have hn := nxM ok
  have q : ∀ j, j < wsN M i → j < wsN M k → (rd p ((nxN M i j : Nat) : Int) = rd p ((nxN M k j : Nat) : Int) ↔ EM M r (nxN M i j) (nxN M k j)) := fun j h1 h2 => hp.2 _ _ (hn i hi j h1) (hn k hk j h2)
  have n0 : ∀ i : Nat, nxN M i 0 = ((nd M i).f2.f0).toNat := fun _ => rfl
  have n1 : ∀ i : Nat, nxN M i 1 = ((nd M i).f2.f1).toNat := fun _ => rfl
  have n2 : ∀ i : Nat, nxN M i 2 = ((nd M i).f2.f2).toNat := fun _ => rfl
  constructor
  · intro h
    have l0 : (nd M i).f0 = (nd M k).f0 := by
      have := congrArg S89.f0 h
      unfold gG at this
      split at this <;> split at this <;> exact this
    have l1 : (nd M i).f1 = (nd M k).f1 := by
      have := congrArg S89.f1 h
      unfold gG at this
      split at this <;> split at this <;> exact this
    refine ⟨by unfold lab; rw [l0, l1], fun j hj => ?_⟩
    have hw : wsN M i = wsN M k := by unfold wsN; rw [l0]
    refine (q j hj (by rw [← hw]; exact hj)).1 ?_
    by_cases c : (nd M i).f0 = 1
    · have c' : (nd M k).f0 = 1 := by rw [← l0]; exact c
      unfold gG at h
      rw [if_pos c, if_pos c'] at h
      simp only [S89.mk.injEq, S87.mk.injEq] at h
      obtain ⟨_, _, e0, e1, e2⟩ := h
      have w3 : wsN M i = 3 := by unfold wsN; rw [if_pos c]
      obtain ⟨a3, a4⟩ := a1 c
      obtain ⟨b3, b4⟩ := b1 c'
      rcases (by omega : j = 0 ∨ j = 1 ∨ j = 2) with rfl | rfl | rfl
      · rw [n0, n0, Int.toNat_of_nonneg a0.1, Int.toNat_of_nonneg b0.1]; exact e0
      · rw [n1, n1, Int.toNat_of_nonneg a3.1, Int.toNat_of_nonneg b3.1]; exact e1
      · rw [n2, n2, Int.toNat_of_nonneg a4.1, Int.toNat_of_nonneg b4.1]; exact e2
    · have c' : ¬ (nd M k).f0 = 1 := by rw [← l0]; exact c
      unfold gG at h
      rw [if_neg c, if_neg c'] at h
      simp only [S89.mk.injEq, S87.mk.injEq] at h
      have w1 : wsN M i = 1 := by unfold wsN; rw [if_neg c]
      obtain rfl : j = 0 := by omega
      rw [n0, n0, Int.toNat_of_nonneg a0.1, Int.toNat_of_nonneg b0.1]
      exact h.2.2.1
  · intro h
    obtain ⟨hl, hj⟩ := h
    have l0 : (nd M i).f0 = (nd M k).f0 := congrArg Prod.fst hl
    have l1 : (nd M i).f1 = (nd M k).f1 := congrArg Prod.snd hl
    have hw : wsN M i = wsN M k := by unfold wsN; rw [l0]
    have g0 := (q 0 (by unfold wsN; split <;> omega) (by unfold wsN; split <;> omega)).2 (hj 0 (by unfold wsN; split <;> omega))
    rw [n0, n0, Int.toNat_of_nonneg a0.1, Int.toNat_of_nonneg b0.1] at g0
    unfold gG
    by_cases c : (nd M i).f0 = 1
    · have c' : (nd M k).f0 = 1 := by rw [← l0]; exact c
      have w3 : wsN M i = 3 := by unfold wsN; rw [if_pos c]
      obtain ⟨a3, a4⟩ := a1 c
      obtain ⟨b3, b4⟩ := b1 c'
      have g1 := (q 1 (by omega) (by omega)).2 (hj 1 (by omega))
      have g2 := (q 2 (by omega) (by omega)).2 (hj 2 (by omega))
      rw [n1, n1, Int.toNat_of_nonneg a3.1, Int.toNat_of_nonneg b3.1] at g1
      rw [n2, n2, Int.toNat_of_nonneg a4.1, Int.toNat_of_nonneg b4.1] at g2
      rw [if_pos c, if_pos c', l0, l1, g0, g1, g2]
    · have c' : ¬ (nd M k).f0 = 1 := by rw [← l0]; exact c
      obtain ⟨a5, a6⟩ := a2 c
      obtain ⟨b5, b6⟩ := b2 c'
      rw [if_neg c, if_neg c', l0, l1, g0, a5, a6, b5, b6]
theorem tells_zero (M : List S89) : Tells M 0 (List.replicate M.length 0) := by
  refine ⟨by simp, fun i k hi hk => ⟨fun _ => trivial, fun _ => ?_⟩⟩
  have : ∀ i : Nat, i < M.length → rd (List.replicate M.length (0 : Int)) (i : Int) = 0 := fun i hi => by simp [rd, List.getD, hi]
  rw [this i hi, this k hk]
/-! ### the program's rounds -/
def eqS (x y : S89) : Bool := eqP x y
theorem eqS_iff : ∀ x y, eqS x y = true ↔ x = y := fun x y => eqP_iff
def keys (M : List S89) (p : List Int) : List S89 := M.map (gG (rd p))
def foundF (M : List S89) (p : List Int) : List S89 := fnds eqS [] (keys M p)
def nextF (M : List S89) (p : List Int) : List Int := (keys M p).map fun x => ((ix eqS (foundF M p) x : Nat) : Int)
theorem rd_mapN {α : Type} (xs : List α) (f : α → Int) (i : Nat) (h : i < xs.length) : rd (xs.map f) (i : Int) = f xs[i] := by
  simp [rd, List.getD, h]
theorem keys_at {M : List S89} {p : List Int} {i : Nat} (h : i < M.length) : (keys M p)[i]'(by simp [keys, h]) = gG (rd p) (nd M i) := by
  simp [keys, nd, rd_T89, List.getD, h]
theorem tells_next {M : List S89} (ok : okM M) {r : Nat} {p : List Int} (hp : Tells M r p) : Tells M (r + 1) (nextF M p) := by
  refine ⟨by simp [nextF, keys], fun i k hi hk => ?_⟩
  have li : i < (keys M p).length := by simp [keys, hi]
  have lk : k < (keys M p).length := by simp [keys, hk]
  unfold nextF
  rw [rd_mapN _ _ i li, rd_mapN _ _ k lk, keys_at hi, keys_at hk, ← key_iff ok hp hi hk]
  constructor
  · intro h
    refine ix_inj eqS_iff ((fnds_mem eqS_iff _ _ _).2 (.inr ?_)) (by exact_mod_cast h)
    exact List.mem_map.2 ⟨_, nd_mem hi, rfl⟩
  · intro h; rw [h]
/-- How many are found: as many as there are kinds. -/
theorem found_len {M : List S89} (ok : okM M) {r : Nat} {p : List Int} (hp : Tells M r p) (n : Nat) : n ≤ M.length → (fnds eqS [] ((keys M p).take n)).length = cnt (lab M) (wsN M) (nxN M) (r + 1) n := by
  induction n with
  | zero => intro _; rfl
  | succ n ih =>
    intro hn
    have ln : n < (keys M p).length := by simp [keys]; omega
    rw [List.take_succ_eq_append_getElem ln, fnds_app, cnt_succ, ← ih (by omega)]
    show (fnd eqS (fnds eqS [] ((keys M p).take n)) ((keys M p)[n])).length = _
    have hm : (keys M p)[n] ∈ fnds eqS [] ((keys M p).take n) ↔ ¬ Rep (lab M) (wsN M) (nxN M) (r + 1) n := by
      rw [fnds_mem eqS_iff]
      constructor
      · rintro (h | h)
        · cases h
        · obtain ⟨k, hk, e⟩ := List.getElem_of_mem h
          rw [List.length_take] at hk
          rw [List.getElem_take, keys_at (by omega), keys_at (by omega)] at e
          exact fun hr => hr k (by omega) ((key_iff ok hp (by omega) (by omega)).1 e)
      · intro h
        obtain ⟨k, hk⟩ := Classical.not_forall.1 h
        obtain ⟨h1, h2⟩ := Classical.not_imp.1 hk
        have h2 := (key_iff ok hp (by omega) (by omega)).2 (Classical.not_not.1 h2)
        refine .inr ?_
        rw [keys_at (by omega), ← h2, ← keys_at (M := M) (p := p) (by omega)]
        refine List.mem_iff_getElem.2 ⟨k, by rw [List.length_take]; omega, ?_⟩
        rw [List.getElem_take]
    by_cases c : Rep (lab M) (wsN M) (nxN M) (r + 1) n
    · rw [if_pos c, fnd_new eqS_iff (fun h => hm.1 h c), List.length_append, List.length_singleton]
    · rw [if_neg c, fnd_in eqS_iff (hm.2 c)]; rfl
theorem foundF_len {M : List S89} (ok : okM M) {r : Nat} {p : List Int} (hp : Tells M r p) : (foundF M p).length = cnt (lab M) (wsN M) (nxN M) (r + 1) M.length := by
  have := found_len ok hp M.length (Nat.le_refl _)
  rw [List.take_of_length_le (by simp [keys])] at this
  exact this
/-- The program's loop. -/
def clsL (M : List S89) : Nat → List Int → Nat → Option (List Int)
  | 0, _, _ => none
  | k + 1, p, c => if (foundF M p).length = c then some (nextF M p) else clsL M k (nextF M p) (foundF M p).length
theorem cls_stop {M : List S89} (ok : okM M) {r : Nat} {p : List Int} {c : Nat} (hp : Tells M r p) (hc : c = cnt (lab M) (wsN M) (nxN M) r M.length) (hr : r ≤ c) (st : (foundF M p).length = c) : ∀ s, M.length + 1 ≤ s → Tells M s (nextF M p) := by
  intro s hs
  have hn := tells_next ok hp
  have hf := foundF_len ok hp
  have hle := cnt_le (lab := lab M) (ws := wsN M) (nx := nxN M) r M.length
  have hst := stable (nx := nxN M) (hwM M) (r := r) (n := M.length) (by omega)
  refine ⟨hn.1, fun i k hi hk => ?_⟩
  rw [hn.2 i k hi hk]
  constructor
  · intro h
    have h2 := E_stays (nxM ok) (hwM M) hst (s - r) i k hi hk (E_down r i k h)
    rw [show r + (s - r) = s by omega] at h2
    exact h2
  · intro h; exact E_le (by omega) i k h
theorem clsL_on {M : List S89} (ok : okM M) (d : Nat) : ∀ (r : Nat) (p : List Int) (c : Nat), Tells M r p → c = cnt (lab M) (wsN M) (nxN M) r M.length → r ≤ c → M.length ≤ c + d → ∃ K q, clsL M K p c = some q ∧ ∀ s, M.length + 1 ≤ s → Tells M s q := by
  induction d with
  | zero =>
    intro r p c hp hc hr hd
    have hf := foundF_len ok hp
    have hu := cnt_up (lab := lab M) (ws := wsN M) (nx := nxN M) r M.length
    have hle := cnt_le (lab := lab M) (ws := wsN M) (nx := nxN M) (r + 1) M.length
    have st : (foundF M p).length = c := by omega
    exact ⟨1, nextF M p, by rw [clsL, if_pos st], cls_stop ok hp hc hr st⟩
  | succ d ih =>
    intro r p c hp hc hr hd
    have hf := foundF_len ok hp
    by_cases st : (foundF M p).length = c
    · exact ⟨1, nextF M p, by rw [clsL, if_pos st], cls_stop ok hp hc hr st⟩
    · have hu := cnt_up (lab := lab M) (ws := wsN M) (nx := nxN M) r M.length
      obtain ⟨K, q, h1, h2⟩ := ih (r + 1) (nextF M p) (foundF M p).length (tells_next ok hp) hf (by omega) (by omega)
      exact ⟨K + 1, q, by rw [clsL, if_neg st]; exact h1, h2⟩
/-- The program's loop ends, and tells what more rounds than nodes tell. -/
theorem clsL_ok {M : List S89} (ok : okM M) (h0 : 0 < M.length) : ∃ K q, clsL M K (List.replicate M.length 0) 0 = some q ∧ ∀ s, M.length + 1 ≤ s → Tells M s q := by
  have hp := tells_zero M
  have hf := foundF_len ok hp
  have hpos := cnt_pos (lab := lab M) (ws := wsN M) (nx := nxN M) (r := 0 + 1) h0
  obtain ⟨K, q, h1, h2⟩ := clsL_on ok M.length 1 _ _ (tells_next ok hp) hf (by omega) (by omega)
  exact ⟨K + 1, q, by rw [clsL, if_neg (by omega)]; exact h1, h2⟩
/-! ### the reference's rounds -/
def alikeB (M : List S89) (p : List Int) (i k : Nat) : Bool := eqS (gG (rd p) (nd M i)) (gG (rd p) (nd M k))
/-- A row that tells of each node the first of its kind. -/
def Firsts (M : List S89) (r : Nat) (p : List Int) : Prop := p.length = M.length ∧ ∀ i, i < M.length → ∃ a : Nat, a ≤ i ∧ rd p (i : Int) = (a : Int) ∧ Rep (lab M) (wsN M) (nxN M) r a ∧ EM M r a i
theorem Firsts.tells {M : List S89} {r : Nat} {p : List Int} (h : Firsts M r p) : Tells M r p := by
  refine ⟨h.1, fun i k hi hk => ?_⟩
  obtain ⟨a, a1, a2, a3, a4⟩ := h.2 i hi
  obtain ⟨b, b1, b2, b3, b4⟩ := h.2 k hk
  rw [a2, b2]
  constructor
  · intro e
    have e : a = b := by exact_mod_cast e
    subst e
    exact E_trans (hwM M) r _ _ _ (E_symm (hwM M) r _ _ a4) b4
  · intro e
    rw [rep_one (hwM M) a3 b3 (E_trans (hwM M) r _ _ _ a4 e) b4]
def nextS (M : List S89) (p : List Int) : Nat → List Int
  | 0 => []
  | i + 1 => nextS M p i ++ [match (List.range i).find? (fun (k : Nat) => rd p (k : Int) == rd p (i : Int) && alikeB M p k i) with | some k => rd (nextS M p i) (k : Int) | none => (i : Int)]
theorem nextS_len (M : List S89) (p : List Int) (i : Nat) : (nextS M p i).length = i := by
  induction i with
  | zero => rfl
  | succ i ih => rw [nextS, List.length_append, ih]; rfl
theorem rd_appL (a b : List Int) (i : Nat) (h : i < a.length) : rd (a ++ b) (i : Int) = rd a (i : Int) := by
  simp [rd, List.getD, List.getElem?_append_left h]
theorem rd_appR (a : List Int) (x : Int) : rd (a ++ [x]) (a.length : Int) = x := by simp [rd, List.getD]
theorem nextS_firsts {M : List S89} (ok : okM M) {r : Nat} {p : List Int} (hp : Tells M r p) (n : Nat) : n ≤ M.length → ∀ i, i < n → ∃ a : Nat, a ≤ i ∧ rd (nextS M p n) (i : Int) = (a : Int) ∧ Rep (lab M) (wsN M) (nxN M) (r + 1) a ∧ EM M (r + 1) a i := by
  induction n with
  | zero => intro _ i hi; omega
  | succ n ih =>
    intro hn i hi
    have hl := nextS_len M p n
    by_cases c : i < n
    · obtain ⟨a, a1, a2, a3⟩ := ih (by omega) i c
      exact ⟨a, a1, by rw [nextS, rd_appL _ _ i (by omega)]; exact a2, a3⟩
    · obtain rfl : i = n := by omega
      have hr : rd (nextS M p (i + 1)) (i : Int) = match (List.range i).find? (fun (k : Nat) => rd p (k : Int) == rd p (i : Int) && alikeB M p k i) with | some k => rd (nextS M p i) (k : Int) | none => (i : Int) := by
        have := rd_appR (nextS M p i) (match (List.range i).find? (fun (k : Nat) => rd p (k : Int) == rd p (i : Int) && alikeB M p k i) with | some k => rd (nextS M p i) (k : Int) | none => (i : Int))
        rw [hl] at this
        exact this
      have test : ∀ k, k < i → ((rd p (k : Int) == rd p (i : Int) && alikeB M p k i) = true ↔ EM M (r + 1) k i) := by
        intro k hk
        unfold alikeB
        rw [Bool.and_eq_true, beq_iff_eq, eqS_iff, key_iff ok hp (by omega) (by omega)]
        exact ⟨fun h => h.2, fun h => ⟨(hp.2 k i (by omega) (by omega)).2 (E_down _ _ _ h), h⟩⟩
      cases hf : (List.range i).find? (fun (k : Nat) => rd p (k : Int) == rd p (i : Int) && alikeB M p k i) with
      | some k =>
        have hk : k < i := List.mem_range.1 (List.mem_of_find?_eq_some hf)
        have hfs := List.find?_some hf
        have he := (test k hk).1 hfs
        obtain ⟨a, a1, a2, a3, a4⟩ := ih (by omega) k hk
        exact ⟨a, by omega, by rw [hr, hf]; exact a2, a3, E_trans (hwM M) _ _ _ _ a4 he⟩
      | none =>
        refine ⟨i, Nat.le_refl _, by rw [hr, hf], fun k hk e => ?_, E_refl _ _⟩
        have := List.find?_eq_none.1 hf k (List.mem_range.2 hk)
        exact this ((test k hk).2 e)
theorem firsts_next {M : List S89} (ok : okM M) {r : Nat} {p : List Int} (hp : Tells M r p) : Firsts M (r + 1) (nextS M p M.length) := ⟨nextS_len _ _ _, nextS_firsts ok hp M.length (Nat.le_refl _)⟩
def partS (M : List S89) : Nat → List Int → List Int
  | 0, p => p
  | t + 1, p => partS M t (nextS M p M.length)
theorem partS_ok {M : List S89} (ok : okM M) (t : Nat) : ∀ (r : Nat) (p : List Int), Tells M r p → Firsts M (r + (t + 1)) (partS M (t + 1) p) := by
  induction t with
  | zero => intro r p hp; exact firsts_next ok hp
  | succ t ih =>
    intro r p hp
    have := ih (r + 1) _ (firsts_next ok hp).tells
    rw [show r + (t + 1 + 1) = r + 1 + (t + 1) by omega]
    exact this
/-- The reference's rounds: the first of each kind. -/
theorem part_ok {M : List S89} (ok : okM M) : Firsts M (M.length + 1) (partS M (M.length + 1) (List.replicate M.length 0)) := by
  have := partS_ok ok M.length 0 _ (tells_zero M)
  rw [Nat.zero_add] at this
  exact this

/-! ### the nodes that are reached -/
def renL (T : List S89) (R : List Int) (g : Int → Int) : List S89 := R.map fun a => gG g (rd_T89 T a)
def Dom (U : List S89) (a : Int) : Prop := 0 ≤ a ∧ a < U.length
/-- One tree lies in another one. -/
structure Emb (U V : List S89) (φ : Int → Int) : Prop where
  inj : ∀ a b, Dom U a → Dom U b → φ a = φ b → a = b
  way : ∀ a, Dom U a → ∀ b ∈ wysL (rd_T89 U a), Dom U b
  node : ∀ a, Dom U a → rd_T89 V (φ a) = gG φ (rd_T89 U a)
theorem wysL_gG (φ : Int → Int) (x : S89) : wysL (gG φ x) = (wysL x).map φ := by
  unfold wysL gG
  by_cases c : x.f0 = 1
  · rw [if_pos c, if_pos c]
    simp only [List.map]
    rw [if_pos c]
    rfl
  · rw [if_neg c, if_neg c]
    simp only [List.map]
    rw [if_neg c]
    rfl
theorem push_map {U V : List S89} {φ : Int → Int} (h : Emb U V φ) {o : List Int} (ho : ∀ a ∈ o, Dom U a) {a : Int} (ha : Dom U a) : pushI (o.map φ) (φ a) = (pushI o a).map φ ∧ ∀ b ∈ pushI o a, Dom U b := by
  have e : φ a ∈ o.map φ ↔ a ∈ o := by
    constructor
    · intro hm
      obtain ⟨b, hb, e⟩ := List.mem_map.1 hm
      rw [← h.inj b a (ho b hb) ha e]; exact hb
    · exact List.mem_map_of_mem
  unfold pushI
  by_cases c : a ∈ o
  · rw [if_pos (e.2 c), if_pos c]; exact ⟨rfl, ho⟩
  · rw [if_neg (fun x => c (e.1 x)), if_neg c]
    refine ⟨by simp, fun b hb => ?_⟩
    rcases List.mem_append.1 hb with hb | hb
    · exact ho b hb
    · rw [List.mem_singleton] at hb; subst hb; exact ha
theorem fold_map {U V : List S89} {φ : Int → Int} (h : Emb U V φ) (ws : List Int) : ∀ o : List Int, (∀ a ∈ o, Dom U a) → (∀ a ∈ ws, Dom U a) → (ws.map φ).foldl pushI (o.map φ) = (ws.foldl pushI o).map φ ∧ ∀ b ∈ ws.foldl pushI o, Dom U b := by
  induction ws with
  | nil => intro o ho _; exact ⟨rfl, ho⟩
  | cons w ws ih =>
    intro o ho hw
    obtain ⟨p1, p2⟩ := push_map h ho (hw w (List.mem_cons_self ..))
    obtain ⟨q1, q2⟩ := ih (pushI o w) p2 (fun a ha => hw a (List.mem_cons_of_mem _ ha))
    refine ⟨?_, q2⟩
    show (ws.map φ).foldl pushI (pushI (o.map φ) (φ w)) = _
    rw [p1]; exact q1
theorem rd_map_ {φ : Int → Int} {o : List Int} {i : Nat} (h : i < o.length) : rd (o.map φ) (i : Int) = φ (rd o (i : Int)) := by simp [rd, List.getD, h]
theorem rd_mem_ {o : List Int} {i : Nat} (h : i < o.length) : rd o (i : Int) ∈ o := by
  rw [show rd o (i : Int) = o[i] by simp [rd, List.getD, h]]
  exact List.getElem_mem h
theorem bfs_map {U V : List S89} {φ : Int → Int} (h : Emb U V φ) (k : Nat) : ∀ (i : Nat) (o R : List Int), (∀ a ∈ o, Dom U a) → bfs U k i o = some R → bfs V k i (o.map φ) = some (R.map φ) ∧ ∀ a ∈ R, Dom U a := by
  induction k with
  | zero => intro i o R _ e; exact absurd e (by simp [bfs])
  | succ k ih =>
    intro i o R ho e
    rw [bfs] at e ⊢
    rw [List.length_map]
    by_cases c : i < o.length
    · rw [if_pos c] at e ⊢
      have hm := ho _ (rd_mem_ c)
      obtain ⟨q1, q2⟩ := fold_map h (wysL (rd_T89 U (rd o (i : Int)))) o ho (h.way _ hm)
      rw [rd_map_ c, h.node _ hm, wysL_gG, q1]
      exact ih (i + 1) _ R q2 e
    · rw [if_neg c] at e ⊢
      obtain rfl := Option.some.inj e
      exact ⟨rfl, ho⟩
theorem ixI_map {U V : List S89} {φ : Int → Int} (h : Emb U V φ) {R : List Int} (hR : ∀ a ∈ R, Dom U a) {b : Int} (hb : Dom U b) : ixI (R.map φ) (φ b) = ixI R b := by
  have e : φ b ∈ R.map φ ↔ b ∈ R := by
    constructor
    · intro hm
      obtain ⟨a, ha, e⟩ := List.mem_map.1 hm
      rw [← h.inj a b (hR a ha) hb e]; exact ha
    · exact List.mem_map_of_mem
  have f : (R.map φ).findIdx (fun x => x == φ b) = R.findIdx (fun x => x == b) := by
    rw [List.findIdx_map]
    clear e
    induction R with
    | nil => rfl
    | cons a R ih =>
      rw [List.findIdx_cons, List.findIdx_cons]
      have : ((fun x => x == φ b) ∘ φ) a = (a == b) := by
        have := h.inj a b (hR a (List.mem_cons_self ..)) hb
        by_cases c : a = b
        · subst c; simp
        · have c2 : ¬ φ a = φ b := fun e => c (this e)
          show (φ a == φ b) = (a == b)
          rw [beq_eq_false_iff_ne.2 c2, beq_eq_false_iff_ne.2 c]
      rw [this, ih (fun a ha => hR a (List.mem_cons_of_mem _ ha))]
  unfold ixI
  rw [f]
  by_cases c : b ∈ R
  · rw [if_pos c, if_pos (e.2 c)]
  · rw [if_neg c, if_neg (fun x => c (e.1 x))]
theorem gG_gG (g φ : Int → Int) (x : S89) : gG g (gG φ x) = gG (fun a => g (φ a)) x := by
  unfold gG
  by_cases c : x.f0 = 1
  · rw [if_pos c, if_pos c]; dsimp only; rw [if_pos c]
  · rw [if_neg c, if_neg c]; dsimp only; rw [if_neg c]
theorem gG_congr {g g' : Int → Int} {x : S89} (h : ∀ b ∈ wysL x, g b = g' b) : gG g x = gG g' x := by
  unfold wysL at h
  unfold gG
  by_cases c : x.f0 = 1
  · rw [if_pos c] at h ⊢
    rw [if_pos c, h _ (by simp), h x.f2.f1 (by simp), h x.f2.f2 (by simp)]
  · rw [if_neg c] at h ⊢
    rw [if_neg c, h _ (by simp)]
/-- The trees of the reached nodes are the same. -/
theorem tree_map {U V : List S89} {φ : Int → Int} (h : Emb U V φ) (h0 : φ 0 = 0) (hU : 0 < U.length) {k : Nat} {R : List Int} (hR : bfs U k 0 [0] = some R) : bfs V k 0 [0] = some (R.map φ) ∧ renL V (R.map φ) (ixI (R.map φ)) = renL U R (ixI R) := by
  obtain ⟨q1, q2⟩ := bfs_map h k 0 [0] R (fun a ha => by rw [List.mem_singleton] at ha; subst ha; exact ⟨by omega, by omega⟩) hR
  rw [show ([0] : List Int).map φ = [0] by simp [h0]] at q1
  refine ⟨q1, ?_⟩
  unfold renL
  rw [List.map_map]
  refine List.map_congr_left fun a ha => ?_
  show gG (ixI (R.map φ)) (rd_T89 V (φ a)) = gG (ixI R) (rd_T89 U a)
  rw [h.node a (q2 a ha), gG_gG]
  exact gG_congr (fun b hb => ixI_map h q2 (h.way a (q2 a ha) b hb))

theorem ixI_at {xs : List Int} {v : Int} (h : v ∈ xs) : ∃ j : Nat, j < xs.length ∧ ixI xs v = (j : Int) ∧ rd xs (j : Int) = v := by
  unfold ixI
  rw [if_pos h]
  have hl : xs.findIdx (fun x => x == v) < xs.length := List.findIdx_lt_length.2 ⟨v, h, by simp⟩
  refine ⟨_, hl, rfl, ?_⟩
  have := List.findIdx_getElem (p := fun x => x == v) (xs := xs) (w := hl)
  rw [show rd xs ((xs.findIdx (fun x => x == v) : Nat) : Int) = xs[xs.findIdx (fun x => x == v)] by simp [rd, List.getD, hl]]
  simpa using this
theorem ixI_first {xs : List Int} {i a : Nat} (hi : i < xs.length) (ha : a < xs.length) (e : rd xs (a : Int) = rd xs (i : Int)) (hn : ∀ k, k < a → rd xs (k : Int) ≠ rd xs (i : Int)) : ixI xs (rd xs (i : Int)) = (a : Int) := by
  have hm : rd xs (i : Int) ∈ xs := rd_mem_ hi
  unfold ixI
  rw [if_pos hm]
  have g : ∀ k (h : k < xs.length), xs[k] = rd xs (k : Int) := fun k h => by simp [rd, List.getD, h]
  have hl : xs.findIdx (fun x => x == rd xs (i : Int)) < xs.length := List.findIdx_lt_length.2 ⟨_, hm, by simp⟩
  have h1 := List.findIdx_getElem (p := fun x => x == rd xs (i : Int)) (xs := xs) (w := hl)
  rw [g _ hl] at h1
  have h1 : rd xs ((xs.findIdx (fun x => x == rd xs (i : Int)) : Nat) : Int) = rd xs (i : Int) := by simpa using h1
  rcases Nat.lt_trichotomy (xs.findIdx (fun x => x == rd xs (i : Int))) a with h | h | h
  · exact absurd h1 (hn _ h)
  · rw [h]
  · exfalso
    have := List.not_of_lt_findIdx h
    rw [g a ha] at this
    simp [e] at this
/-- What the program's classes tell first is the reference's part. -/
theorem first_part {M : List S89} {s : Nat} {p q : List Int} (hp : Firsts M s p) (hq : Tells M s q) {i : Nat} (hi : i < M.length) : ixI q (rd q (i : Int)) = rd p (i : Int) := by
  obtain ⟨a, a1, a2, a3, a4⟩ := hp.2 i hi
  rw [a2]
  have hl := hq.1
  refine ixI_first (by omega) (by omega) ((hq.2 a i (by omega) hi).2 a4) (fun k hk e => ?_)
  have e1 := (hq.2 k i (by omega) hi).1 e
  exact a3 k hk (E_trans (hwM M) s _ _ _ e1 (E_symm (hwM M) s _ _ a4))
def lstI (q : List Int) : List Int := ((List.range q.length).map Int.ofNat).filter fun i => ixI q (rd q i) == i
theorem lst_mem {M : List S89} {s : Nat} {p q : List Int} (hp : Firsts M s p) (hq : Tells M s q) (b : Int) : b ∈ lstI q ↔ ∃ i : Nat, b = (i : Int) ∧ i < M.length ∧ rd p (i : Int) = (i : Int) := by
  unfold lstI
  rw [List.mem_filter, List.mem_map]
  constructor
  · rintro ⟨⟨i, hi, rfl⟩, h⟩
    rw [List.mem_range, hq.1] at hi
    refine ⟨i, rfl, hi, ?_⟩
    rw [← first_part hp hq hi]
    simpa using h
  · rintro ⟨i, rfl, hi, h⟩
    refine ⟨⟨i, List.mem_range.2 (by rw [hq.1]; exact hi), rfl⟩, ?_⟩
    rw [first_part hp hq hi, h]
    simp
theorem part_mem {M : List S89} {s : Nat} {p q : List Int} (hp : Firsts M s p) (hq : Tells M s q) {i : Nat} (hi : i < M.length) : rd p (i : Int) ∈ lstI q := by
  obtain ⟨a, a1, a2, a3, a4⟩ := hp.2 i hi
  refine (lst_mem hp hq _).2 ⟨a, a2, by omega, ?_⟩
  obtain ⟨b, b1, b2, b3, b4⟩ := hp.2 a (by omega)
  rw [b2, rep_one (hwM M) b3 a3 b4 (E_refl _ _)]
theorem lst_nodup (q : List Int) : (lstI q).Nodup := by
  refine List.Pairwise.filter _ ?_
  refine List.Pairwise.map _ (fun a b h e => h (Int.ofNat.inj e)) List.nodup_range
theorem rd_inj {xs : List Int} (h : xs.Nodup) {i j : Nat} (hi : i < xs.length) (hj : j < xs.length) (e : rd xs (i : Int) = rd xs (j : Int)) : i = j := by
  have g : ∀ k (h : k < xs.length), rd xs (k : Int) = xs[k] := fun k h => by simp [rd, List.getD, h]
  rw [g i hi, g j hj] at e
  have hp := List.pairwise_iff_getElem.1 h
  rcases Nat.lt_trichotomy i j with c | c | c
  · exact absurd e (hp i j hi hj c)
  · exact c
  · exact absurd e.symm (hp j i hj hi c)
theorem lst_zero {M : List S89} {s : Nat} {p q : List Int} (hp : Firsts M s p) (hq : Tells M s q) (h0 : 0 < M.length) : ∃ t, lstI q = 0 :: t := by
  obtain ⟨n, hn⟩ : ∃ n, q.length = n + 1 := ⟨q.length - 1, by rw [hq.1]; omega⟩
  have h1 : rd p ((0 : Nat) : Int) = 0 := by
    obtain ⟨a, a1, a2, _⟩ := hp.2 0 h0
    obtain rfl : a = 0 := by omega
    exact a2
  have h2 := first_part hp hq h0
  unfold lstI
  rw [hn, List.range_succ_eq_map, List.map_cons, List.filter_cons, if_pos (by rw [show (Int.ofNat 0) = ((0 : Nat) : Int) from rfl, h2, h1]; rfl)]
  exact ⟨_, rfl⟩
/-- The program's tree of the first ones, and the reference's. -/
def outI (M : List S89) (q : List Int) : List S89 := renL M (lstI q) fun k => ixI (lstI q) (ixI q (rd q k))
def outS (M : List S89) (p : List Int) : List S89 := M.map (gG (rd p))
theorem ways_dom {M : List S89} (ok : okM M) {i : Nat} (hi : i < M.length) {b : Int} (hb : b ∈ wysL (nd M i)) : 0 ≤ b ∧ b < M.length := by
  obtain ⟨h0, h1, _⟩ := ok _ (nd_mem hi)
  unfold wysL at hb
  by_cases c : (nd M i).f0 = 1
  · rw [if_pos c] at hb
    obtain ⟨h1, h2⟩ := h1 c
    simp only [List.mem_cons, List.not_mem_nil, or_false] at hb
    rcases hb with rfl | rfl | rfl
    · exact h0
    · exact h1
    · exact h2
  · rw [if_neg c] at hb
    rw [List.mem_singleton] at hb
    subst hb
    exact h0
theorem emb {M : List S89} (ok : okM M) (h0 : 0 < M.length) {s : Nat} {p q : List Int} (hp : Firsts M s p) (hq : Tells M s q) : Emb (outI M q) (outS M p) (rd (lstI q)) ∧ rd (lstI q) 0 = 0 ∧ 0 < (outI M q).length := by
  have hlen : (outI M q).length = (lstI q).length := by simp [outI, renL]
  obtain ⟨t, ht⟩ := lst_zero hp hq h0
  have el : ∀ a, Dom (outI M q) a → ∃ i j : Nat, a = (j : Int) ∧ j < (lstI q).length ∧ rd (lstI q) a = (i : Int) ∧ i < M.length ∧ rd p (i : Int) = (i : Int) ∧ rd_T89 (outI M q) a = gG (fun k => ixI (lstI q) (ixI q (rd q k))) (nd M i) := by
    intro a ha
    obtain ⟨j, rfl⟩ : ∃ j : Nat, a = (j : Int) := ⟨a.toNat, by have := ha.1; omega⟩
    have hj : j < (lstI q).length := by have := ha.2; omega
    obtain ⟨i, e, hi, hpi⟩ := (lst_mem hp hq _).1 (rd_mem_ hj)
    refine ⟨i, j, rfl, hj, e, hi, hpi, ?_⟩
    have : rd_T89 (outI M q) (j : Int) = gG (fun k => ixI (lstI q) (ixI q (rd q k))) (rd_T89 M (rd (lstI q) (j : Int))) := by
      simp [outI, renL, rd_T89, rd, List.getD, hj]
    rw [this, e]
    rfl
  have pos : ∀ i, i < M.length → ∀ b ∈ wysL (nd M i), ∃ j : Nat, j < (lstI q).length ∧ ixI (lstI q) (ixI q (rd q b)) = (j : Int) ∧ rd (lstI q) (j : Int) = rd p b := by
    intro i hi b hb
    obtain ⟨b0, b1⟩ := ways_dom ok hi hb
    obtain ⟨c, rfl⟩ : ∃ c : Nat, b = (c : Int) := ⟨b.toNat, by omega⟩
    rw [first_part hp hq (by omega)]
    exact ixI_at (part_mem hp hq (by omega))
  refine ⟨⟨fun a b ha hb e => ?_, fun a ha b hb => ?_, fun a ha => ?_⟩, by rw [ht]; rfl, by rw [hlen, ht]; simp⟩
  · obtain ⟨i, j, rfl, hj, _⟩ := el a ha
    obtain ⟨i', j', rfl, hj', _⟩ := el b hb
    rw [rd_inj (lst_nodup q) hj hj' e]
  · obtain ⟨i, j, rfl, hj, hr, hi, hpi, hn⟩ := el a ha
    rw [hn, wysL_gG] at hb
    obtain ⟨c, hc, rfl⟩ := List.mem_map.1 hb
    obtain ⟨m, h1, h2, _⟩ := pos i hi c hc
    rw [h2]
    exact ⟨by omega, by omega⟩
  · obtain ⟨i, j, rfl, hj, hr, hi, hpi, hn⟩ := el a ha
    rw [hn, hr, gG_gG]
    have : rd_T89 (outS M p) (i : Int) = gG (rd p) (nd M i) := by simp [outS, nd, rd_T89, List.getD, hi]
    rw [this]
    refine gG_congr (fun b hb => ?_)
    obtain ⟨m, h1, h2, h3⟩ := pos i hi b hb
    rw [h2, h3]
/-- Both least trees are the same. -/
theorem least_same {M : List S89} (ok : okM M) (h0 : 0 < M.length) {s : Nat} {p q : List Int} (hp : Firsts M s p) (hq : Tells M s q) {k : Nat} {R : List Int} (hR : bfs (outI M q) k 0 [0] = some R) : bfs (outS M p) k 0 [0] = some (R.map (rd (lstI q))) ∧ renL (outS M p) (R.map (rd (lstI q))) (ixI (R.map (rd (lstI q)))) = renL (outI M q) R (ixI R) := by
  obtain ⟨he, hz, hl⟩ := emb ok h0 hp hq
  exact tree_map he hz hl hR

end Go.Proofs.Ytpfnohdnaocpdaa.Pure
/- Trees whose nodes are as a valid tree's: the nodes that are reached, in both texts, and the tree of these. Plain Lean over the printed functions. -/
namespace Go.Proofs.Ytpfnohdnaocpdaa.Pure
open Go.RowKit Go.Proofs.Ytpfnohdnaocpdaa.PT Go.Proofs.YtpfnohdnaocpdaaW.PrintWords Go.Proofs.YtpfnohdnaocpdaaW.PrintLast Go.Proofs.YtpfnohdnaocpdaaW.PrintMore Go.Proofs.YtpfnohdnaocpdaaRP
set_option linter.unusedVariables false
set_option linter.unusedSimpArgs false
/-- A node of a valid tree of n nodes, whose digit may be any int8. -/
structure VN (n : Nat) (x : S89) : Prop where
  kind : x.f0 = 1 ∨ x.f0 = 2
  dig : -128 ≤ x.f1 ∧ x.f1 ≤ 127
  way : ∀ b ∈ wysL x, 0 ≤ b ∧ b < (n : Int)
  zero : x.f0 = 2 → x.f2.f1 = 0 ∧ x.f2.f2 = 0
structure VT (T : List S89) : Prop where
  pos : 0 < T.length
  len : T.length ≤ 60
  node : ∀ x ∈ T, VN T.length x
theorem VN.ways {n : Nat} {x : S89} (h : VN n x) (hn : 0 < n) : (0 ≤ x.f2.f0 ∧ x.f2.f0 < (n : Int)) ∧ (0 ≤ x.f2.f1 ∧ x.f2.f1 < (n : Int)) ∧ (0 ≤ x.f2.f2 ∧ x.f2.f2 < (n : Int)) := by
  have hw := h.way
  unfold wysL at hw
  rcases h.kind with c | c
  · rw [if_pos c] at hw
    exact ⟨hw _ (by simp), hw _ (by simp), hw _ (by simp)⟩
  · rw [if_neg (by omega)] at hw
    obtain ⟨z1, z2⟩ := h.zero c
    exact ⟨hw _ (by simp), by omega, by omega⟩
theorem VT.nod {T : List S89} (h : VT T) {a : Int} (ha : Dom T a) : VN T.length (rd_T89 T a) := h.node _ (rd89_mem ha.1 ha.2)
theorem VT.okT {T : List S89} (h : VT T) : okT T = true := by
  unfold PT.okT
  refine List.all_eq_true.2 fun x hx => ?_
  have hn := h.node x hx
  obtain ⟨h0, h1, h2⟩ := hn.ways h.pos
  have := hn.kind
  simp only [okN, Bool.and_eq_true, Bool.or_eq_true, beq_iff_eq, decide_eq_true_eq]
  exact ⟨⟨⟨this, h0⟩, h1⟩, h2⟩
theorem VT.okM {T : List S89} (h : VT T) : okM T := by
  intro x hx
  have hn := h.node x hx
  obtain ⟨h0, h1, h2⟩ := hn.ways h.pos
  exact ⟨h0, fun _ => ⟨h1, h2⟩, fun c => hn.zero (by rcases hn.kind with k | k; exact absurd k c; exact k)⟩
theorem VT.chkM {T : List S89} (h : VT T) : chkM T = true := by
  unfold PT.chkM
  rw [Bool.and_eq_true]
  exact ⟨h.okT, List.all_eq_true.2 fun x hx => decide_eq_true (h.node x hx).dig⟩
theorem VN.gG {n m : Nat} {x : S89} (h : VN n x) {g : Int → Int} (hg : ∀ b ∈ wysL x, 0 ≤ g b ∧ g b < (m : Int)) : VN m (gG g x) := by
  refine ⟨?_, ?_, ?_, ?_⟩
  · unfold Pure.gG; split <;> exact h.kind
  · unfold Pure.gG; split <;> exact h.dig
  · intro b hb
    rw [wysL_gG] at hb
    obtain ⟨c, hc, rfl⟩ := List.mem_map.1 hb
    exact hg c hc
  · intro hk
    have hk2 : x.f0 = 2 := by
      revert hk
      unfold Pure.gG
      split
      · intro k; exact k
      · intro k; exact k
    unfold Pure.gG
    rw [if_neg (by omega)]
    exact h.zero hk2
theorem VN.ren {n : Nat} {x : S89} (h : VN n x) (g : Int → Int) : renN g x = Pure.gG g x := by
  unfold renN Pure.gG
  rcases h.kind with c | c
  · rw [if_neg (by omega), if_pos c]
  · rw [if_pos c, if_neg (by omega)]
theorem VT.renT {T : List S89} (h : VT T) {R : List Int} (hR : ∀ a ∈ R, Dom T a) (g : Int → Int) : renT T R g = renL T R g :=
  List.map_congr_left fun a ha => (h.nod (hR a ha)).ren g
theorem VT.renL {T : List S89} (h : VT T) {R : List Int} (hR : ∀ a ∈ R, Dom T a) (h0 : 0 < R.length) (hl : R.length ≤ 60) {g : Int → Int} (hg : ∀ a ∈ R, ∀ b ∈ wysL (rd_T89 T a), 0 ≤ g b ∧ g b < (R.length : Int)) : VT (renL T R g) := by
  have e : (Pure.renL T R g).length = R.length := by simp [Pure.renL]
  refine ⟨by omega, by omega, fun x hx => ?_⟩
  rw [e]
  obtain ⟨a, ha, rfl⟩ := List.mem_map.1 hx
  exact (h.nod (hR a ha)).gG (hg a ha)
theorem chkR_iff {l : List S89} {R : List Int} (h0 : 0 < R.length) (h1 : R.length ≤ 60) (hR : ∀ a ∈ R, Dom l a) : chkR l R = true := by
  unfold chkR
  rw [Bool.and_eq_true]
  exact ⟨decide_eq_true ⟨h0, h1⟩, List.all_eq_true.2 fun a ha => decide_eq_true (hR a ha)⟩
theorem bfs_up (T : List S89) : ∀ (k i : Nat) (o R : List Int), bfs T k i o = some R → ∀ d, bfs T (k + d) i o = some R := by
  intro k
  induction k with
  | zero => intro i o R h; exact absurd h (by simp [bfs])
  | succ k ih =>
    intro i o R h d
    rw [show k + 1 + d = (k + d) + 1 by omega]
    rw [bfs] at h ⊢
    by_cases c : i < o.length
    · rw [if_pos c] at h ⊢
      exact ih _ _ _ h d
    · rw [if_neg c] at h ⊢
      exact h
theorem bfs_one {T : List S89} {k k' i : Nat} {o R R' : List Int} (h : bfs T k i o = some R) (h' : bfs T k' i o = some R') : R = R' := by
  have h1 := bfs_up T k i o R h k'
  have h2 := bfs_up T k' i o R' h' k
  rw [Nat.add_comm k' k, h1] at h2
  exact Option.some.inj h2
/-- The nodes that are reached, and the tree of these. -/
theorem reach_all (T : List S89) (h : VT T) : ∃ K R, bfs T K 0 [0] = some R ∧ 0 < R.length ∧ R.length ≤ T.length ∧ (∀ a ∈ R, Dom T a) ∧ Ev (fun k => impl_found.f k T) R ∧ Ev (fun k => spec_l06Reached.f k [⟨T⟩]) R ∧ Ev (fun k => spec_l06Tree.f k [⟨T⟩] R) (Pure.renL T R (ixI R)) ∧ VT (Pure.renL T R (ixI R)) := by
  obtain ⟨K, R, s, p0, p1, p2, p3, p4⟩ := bfs_ev T h.okT h.pos h.len
  have hl := p1.length_le
  have hdom : ∀ a ∈ R, Dom T a := p2.rng
  have le := p2.le
  have pos : 0 < R.length := by simp at hl; omega
  have hf : Ev (fun k => impl_found.f k T) R := by
    unfold impl_found.f
    exact Ev.pos h.okT p4
  have hcl : ∀ a ∈ R, ∀ b ∈ wysL (rd_T89 T a), b ∈ R := by
    intro a ha b hb
    obtain ⟨i, hi, rfl⟩ := List.mem_iff_getElem.1 ha
    refine p3 i (Nat.zero_le _) hi b ?_
    rw [rd_at R i hi]
    exact hb
  have hix : ∀ b ∈ R, ∃ j : Nat, j < R.length ∧ ixI R b = (j : Int) ∧ rd R (j : Int) = b := fun b hb => ixI_at hb
  obtain ⟨x5, q1, q2, q3⟩ := treeC_ev T h.okT h.len R s p2
  have e : R.map (gT T x5) = Pure.renL T R (ixI R) := by
    unfold Pure.renL
    refine List.map_congr_left fun a ha => ?_
    have hw : ∀ b ∈ wysL (rd_T89 T a), rd x5 b = ixI R b := by
      intro b hb
      obtain ⟨j, j0, j1, j2⟩ := hix b (hcl a ha b hb)
      rw [j1, ← j2]
      exact q2 j j0
    have : gT T x5 a = Pure.gG (rd x5) (rd_T89 T a) := rfl
    rw [this]
    exact gG_congr hw
  refine ⟨K, R, p0, pos, le, hdom, hf, p4, e ▸ q3, ?_⟩
  refine h.renL hdom pos (by have := h.len; omega) (fun a ha b hb => ?_)
  obtain ⟨j, j0, j1, j2⟩ := hix b (hcl a ha b hb)
  rw [j1]
  omega
end Go.Proofs.Ytpfnohdnaocpdaa.Pure
/- Trees that are equal. Plain Lean over the printed functions. -/
namespace Go.Proofs.Ytpfnohdnaocpdaa.Pure
open Go.RowKit Go.Proofs.Ytpfnohdnaocpdaa.PT Go.Proofs.YtpfnohdnaocpdaaW.PrintWords Go.Proofs.YtpfnohdnaocpdaaW.PrintLast Go.Proofs.YtpfnohdnaocpdaaW.PrintMore Go.Proofs.YtpfnohdnaocpdaaRP
set_option linter.unusedVariables false
set_option linter.unusedSimpArgs false
theorem rd89_mid (d : List S89) (x : S89) (r : List S89) : rd_T89 (d ++ x :: r) (d.length : Int) = x := by
  simp [rd_T89, List.getD]
theorem eqA3_ev (a b c : Int) : Ev (fun k => laws_eqInt16A3.f k a b c a b c) true := by
  unfold laws_eqInt16A3.f
  have e0 : wrap64 ((0 : Int) + 1) = 1 := by unfold wrap64; omega
  have e1 : wrap64 ((1 : Int) + 1) = 2 := by unfold wrap64; omega
  have e2 : wrap64 ((2 : Int) + 1) = 3 := by unfold wrap64; omega
  refine Ev.step (fun k => rfl) ?_
  refine Ev.pos (by decide) (Ev.pos (by decide) (Ev.pos rfl ?_))
  rw [e0]
  refine Ev.step (fun k => rfl) ?_
  refine Ev.pos (by decide) (Ev.pos (by decide) (Ev.pos rfl ?_))
  rw [e1]
  refine Ev.step (fun k => rfl) ?_
  refine Ev.pos (by decide) (Ev.pos (by decide) (Ev.pos rfl ?_))
  rw [e2]
  refine Ev.step (fun k => rfl) ?_
  exact Ev.neg (by decide) (Ev.now _)
theorem eqFork_ev (x : S89) : Ev (fun k => laws_eqFork.f k x.f0 x.f1 x.f2.f0 x.f2.f1 x.f2.f2 x.f0 x.f1 x.f2.f0 x.f2.f1 x.f2.f2) true := by
  unfold laws_eqFork.f
  exact Ev.pos rfl (Ev.pos rfl (Ev.bind (eqA3_ev _ _ _) (Ev.pos rfl (Ev.now _))))
theorem eqForkS_loop (a : List S89) (hn : a.length ≤ 140737488355327) (d : Nat) : ∀ (i : Nat), i + d = a.length → Ev (fun k => laws_eqForkS.l0 k a a (i : Int)) true := by
  induction d with
  | zero =>
    intro i hi
    refine Ev.step (fun k => rfl) ?_
    simp only [laws_eqForkS.l0]
    exact Ev.neg (by omega) (Ev.now _)
  | succ d ih =>
    intro i hi
    refine Ev.step (fun k => rfl) ?_
    simp only [laws_eqForkS.l0]
    refine Ev.pos (by omega) (Ev.pos (by omega) (Ev.pos (by omega) (Ev.bind (eqFork_ev _) (Ev.pos rfl ?_))))
    rw [wnext i (by omega)]
    exact ih (i + 1) (by omega)
theorem eqTree_ev (a : List S89) (hn : a.length ≤ 140737488355327) : Ev (fun k => laws_eqTree.f k a a) true := by
  unfold laws_eqTree.f laws_eqForkS.f
  exact Ev.bind (Ev.pos rfl (eqForkS_loop a hn a.length 0 (by omega))) (Ev.pos rfl (Ev.now _))
end Go.Proofs.Ytpfnohdnaocpdaa.Pure
/- The least tree in the reference's text: the rounds, the names of the firsts, the tree of the reached ones. Plain Lean over the printed functions. -/
namespace Go.Proofs.Ytpfnohdnaocpdaa.Pure
open Go.RowKit Go.Proofs.Ytpfnohdnaocpdaa.PT Go.Proofs.YtpfnohdnaocpdaaW.PrintWords Go.Proofs.YtpfnohdnaocpdaaW.PrintLast Go.Proofs.YtpfnohdnaocpdaaW.PrintMore Go.Proofs.YtpfnohdnaocpdaaRP
set_option linter.unusedVariables false
set_option linter.unusedSimpArgs false
theorem w3_ : wrap64 (0 + 1) = 1 ∧ wrap64 (1 + 1) = 2 ∧ wrap64 (2 + 1) = 3 := by unfold wrap64; omega
theorem aj_true (p : List Int) (X Y : List S89) : Ev (fun n => spec_l06Alike.j0 n p X Y true) false := Ev.step (fun k => rfl) ⟨0, fun _ _ => rfl⟩
theorem aj_false {p : List Int} {X Y : List S89} {v : Bool} (h : Ev (fun n => spec_l06Alike.l0 n p X Y 0) v) : Ev (fun n => spec_l06Alike.j0 n p X Y false) v := Ev.step (fun k => rfl) h
theorem alike_ev (T : List S89) (h : VT T) (p : List Int) (hp : p.length = T.length) (i k : Nat) (hi : i < T.length) (hk : k < T.length) : Ev (fun n => spec_l06Alike.f n [⟨T⟩] p (i : Int) (k : Int)) (alikeB T p i k) := by
  have hx := h.nod (a := (i : Int)) ⟨by omega, by omega⟩
  have hy := h.nod (a := (k : Int)) ⟨by omega, by omega⟩
  have wx := hx.ways h.pos
  have wy := hy.ways h.pos
  obtain ⟨w01, w12, w23⟩ := w3_
  unfold alikeB nd
  refine Ev.pos (by simp) (Ev.pos (by omega) (Ev.pos (show (i : Int) < (T.length : Int) by omega) (Ev.pos (by omega) (Ev.pos (show (k : Int) < (T.length : Int) by omega) (Ev.pos (by simp) (Ev.pos (by simp) ?_))))))
  change Ev (fun n => if (rd_T89 T (i : Int)).f0 = (rd_T89 T (k : Int)).f0 then spec_l06Alike.j0 n p [rd_T89 T (i : Int)] [rd_T89 T (k : Int)] ((rd_T89 T (i : Int)).f1 != (rd_T89 T (k : Int)).f1) else spec_l06Alike.j0 n p [rd_T89 T (i : Int)] [rd_T89 T (k : Int)] true) _
  generalize rd_T89 T (i : Int) = x at hx wx ⊢
  generalize rd_T89 T (k : Int) = y at hy wy ⊢
  have gf0 : ∀ z : S89, (gG (rd p) z).f0 = z.f0 := fun z => by unfold gG; split <;> rfl
  have gf1 : ∀ z : S89, (gG (rd p) z).f1 = z.f1 := fun z => by unfold gG; split <;> rfl
  have no : ∀ {b : Bool}, ¬ b = true → b = false := fun hb => Bool.eq_false_iff.mpr hb
  by_cases c0 : x.f0 = y.f0
  case neg =>
    refine Ev.neg c0 (Ev.to (aj_true _ _ _) (Eq.symm (no fun e => ?_)))
    have := congrArg S89.f0 ((eqS_iff _ _).1 e)
    rw [gf0, gf0] at this
    exact c0 this
  refine Ev.pos c0 ?_
  by_cases c1 : x.f1 = y.f1
  case neg =>
    have e1 : (x.f1 != y.f1) = true := by simp [c1]
    rw [e1]
    refine Ev.to (aj_true _ _ _) (Eq.symm (no fun e => ?_))
    have := congrArg S89.f1 ((eqS_iff _ _).1 e)
    rw [gf1, gf1] at this
    exact c1 this
  have e1 : (x.f1 != y.f1) = false := by simp [c1]
  rw [e1]
  refine aj_false ?_
  rcases hx.kind with hk1 | hk2
  · have hyk : y.f0 = 1 := by omega
    have ex : gG (rd p) x = ⟨x.f0, x.f1, ⟨rd p x.f2.f0, rd p x.f2.f1, rd p x.f2.f2⟩⟩ := by unfold gG; rw [if_pos hk1]
    have ey : gG (rd p) y = ⟨y.f0, y.f1, ⟨rd p y.f2.f0, rd p y.f2.f1, rd p y.f2.f2⟩⟩ := by unfold gG; rw [if_pos hyk]
    rw [ex, ey]
    refine Ev.step (fun k => rfl) (Ev.bind (Ev.is (fun _ => (ways_eq x).trans (congrArg some (if_pos hk1)))) (Ev.pos (by omega) (Ev.pos (by simp) (Ev.pos (by omega) (Ev.pos (by omega) (Ev.pos wx.1.1 (Ev.pos (by rw [hp]; exact wx.1.2) (Ev.pos (by simp) (Ev.pos wy.1.1 (Ev.pos (by rw [hp]; exact wy.1.2) ?_))))))))))
    by_cases d0 : rd p x.f2.f0 = rd p y.f2.f0
    case neg => exact Ev.neg d0 (Ev.to (Ev.now _) (Eq.symm (no fun e => d0 (congrArg (fun z : S89 => z.f2.f0) ((eqS_iff _ _).1 e)))))
    refine Ev.pos d0 ?_
    rw [w01]
    refine Ev.step (fun k => rfl) (Ev.bind (Ev.is (fun _ => (ways_eq x).trans (congrArg some (if_pos hk1)))) (Ev.pos (by omega) (Ev.pos (by simp) (Ev.pos (by omega) (Ev.pos (by omega) (Ev.pos wx.2.1.1 (Ev.pos (by rw [hp]; exact wx.2.1.2) (Ev.pos (by simp) (Ev.pos wy.2.1.1 (Ev.pos (by rw [hp]; exact wy.2.1.2) ?_))))))))))
    by_cases d1 : rd p x.f2.f1 = rd p y.f2.f1
    case neg => exact Ev.neg d1 (Ev.to (Ev.now _) (Eq.symm (no fun e => d1 (congrArg (fun z : S89 => z.f2.f1) ((eqS_iff _ _).1 e)))))
    refine Ev.pos d1 ?_
    rw [w12]
    refine Ev.step (fun k => rfl) (Ev.bind (Ev.is (fun _ => (ways_eq x).trans (congrArg some (if_pos hk1)))) (Ev.pos (by omega) (Ev.pos (by simp) (Ev.pos (by omega) (Ev.pos (by omega) (Ev.pos wx.2.2.1 (Ev.pos (by rw [hp]; exact wx.2.2.2) (Ev.pos (by simp) (Ev.pos wy.2.2.1 (Ev.pos (by rw [hp]; exact wy.2.2.2) ?_))))))))))
    by_cases d2 : rd p x.f2.f2 = rd p y.f2.f2
    case neg => exact Ev.neg d2 (Ev.to (Ev.now _) (Eq.symm (no fun e => d2 (congrArg (fun z : S89 => z.f2.f2) ((eqS_iff _ _).1 e)))))
    refine Ev.pos d2 ?_
    rw [w23]
    refine Ev.step (fun k => rfl) (Ev.bind (Ev.is (fun _ => (ways_eq x).trans (congrArg some (if_pos hk1)))) (Ev.neg (by omega) (Ev.to (Ev.now _) (Eq.symm ((eqS_iff _ _).2 ?_)))))
    rw [c0, c1, d0, d1, d2]
  · have hk1 : ¬ x.f0 = 1 := by omega
    have hyk : ¬ y.f0 = 1 := by omega
    have ex : gG (rd p) x = ⟨x.f0, x.f1, ⟨rd p x.f2.f0, x.f2.f1, x.f2.f2⟩⟩ := by unfold gG; rw [if_neg hk1]
    have ey : gG (rd p) y = ⟨y.f0, y.f1, ⟨rd p y.f2.f0, y.f2.f1, y.f2.f2⟩⟩ := by unfold gG; rw [if_neg hyk]
    rw [ex, ey]
    obtain ⟨z1, z2⟩ := hx.zero hk2
    obtain ⟨z3, z4⟩ := hy.zero (by omega)
    refine Ev.step (fun k => rfl) (Ev.bind (Ev.is (fun _ => (ways_eq x).trans (congrArg some (if_neg hk1)))) (Ev.pos (by omega) (Ev.pos (by simp) (Ev.pos (by omega) (Ev.pos (by omega) (Ev.pos wx.1.1 (Ev.pos (by rw [hp]; exact wx.1.2) (Ev.pos (by simp) (Ev.pos wy.1.1 (Ev.pos (by rw [hp]; exact wy.1.2) ?_))))))))))
    by_cases d0 : rd p x.f2.f0 = rd p y.f2.f0
    case neg => exact Ev.neg d0 (Ev.to (Ev.now _) (Eq.symm (no fun e => d0 (congrArg (fun z : S89 => z.f2.f0) ((eqS_iff _ _).1 e)))))
    refine Ev.pos d0 ?_
    rw [w01]
    refine Ev.step (fun k => rfl) (Ev.bind (Ev.is (fun _ => (ways_eq x).trans (congrArg some (if_neg hk1)))) (Ev.neg (by omega) (Ev.to (Ev.now _) (Eq.symm ((eqS_iff _ _).2 ?_)))))
    rw [c0, c1, d0, z1, z2, z3, z4]
theorem rd_take {xs ys : List Int} {i j : Nat} (h : xs.take i = ys) (hj : j < i) : rd xs (j : Int) = rd ys (j : Int) := by
  subst h
  simp [rd, List.getD, List.getElem?_take, hj]
theorem take_set_ {xs ys : List Int} {i : Nat} (hi : i < xs.length) (h : xs.take i = ys) (v : Int) : (xs.set i v).take (i + 1) = ys ++ [v] := by
  rw [List.take_add_one, List.take_set, List.set_eq_of_length_le (by simp; omega), h, List.getElem?_set_self hi]
  rfl
/-- What a round tells of one node. -/
def nxt (M : List S89) (p : List Int) (i : Nat) : Int := match (List.range i).find? (fun (k : Nat) => rd p (k : Int) == rd p (i : Int) && alikeB M p k i) with | some k => rd (nextS M p i) (k : Int) | none => (i : Int)
theorem nextS_nxt (M : List S89) (p : List Int) (i : Nat) : nextS M p (i + 1) = nextS M p i ++ [nxt M p i] := rfl
theorem sl2_ev (T : List S89) (h : VT T) (p : List Int) (hp : p.length = T.length) (t : Int) (i : Nat) (hi : i < T.length) (r : List S89) (d : Nat) : ∀ (j : Nat) (x6 : List Int), j + d = i → x6.length = T.length → x6.take i = nextS T p i → rd x6 (i : Int) = (i : Int) → (∀ k, k < j → (rd p (k : Int) == rd p (i : Int) && alikeB T p k i) = false) →
    (∀ y : List Int, y.length = T.length → y.take (i + 1) = nextS T p (i + 1) → Ev (fun n => spec_l06Least.l1 n p t y ((i + 1 : Nat) : Int) T) r) → Ev (fun n => spec_l06Least.l2 n p t x6 (i : Int) (j : Int) T) r := by
  have hl := h.len
  induction d with
  | zero =>
    intro j x6 hj h6 ht hv hn go
    refine Ev.step (fun k => rfl) (Ev.neg (by omega) ?_)
    rw [wnext i (by omega)]
    refine go x6 h6 ?_
    have hf : (List.range i).find? (fun (k : Nat) => rd p (k : Int) == rd p (i : Int) && alikeB T p k i) = none := by
      refine List.find?_eq_none.2 fun k hk e => ?_
      rw [hn k (by have := List.mem_range.1 hk; omega)] at e
      exact absurd e (by decide)
    rw [nextS_nxt, nxt, hf, List.take_add_one, ht]
    congr 1
    rw [List.getElem?_eq_getElem (by omega)]
    rw [rd_at x6 i (by omega)] at hv
    simp [hv]
  | succ d ih =>
    intro j x6 hj h6 ht hv hn go
    refine Ev.step (fun k => rfl) (Ev.pos (by omega) (Ev.pos (by omega) (Ev.pos (by omega) (Ev.pos (by omega) (Ev.pos (by omega) ?_)))))
    by_cases c : rd p (j : Int) = rd p (i : Int)
    case neg =>
      refine Ev.neg c ?_
      rw [wnext j (by omega)]
      refine ih (j + 1) x6 (by omega) h6 ht hv (fun k hk => ?_) go
      by_cases e : k = j
      · subst e; rw [beq_eq_false_iff_ne.mpr c, Bool.false_and]
      · exact hn k (by omega)
    refine Ev.pos c (Ev.bind (alike_ev T h p hp j i (by omega) hi) ?_)
    by_cases a : alikeB T p j i = true
    case neg =>
      refine Ev.neg a ?_
      rw [wnext j (by omega)]
      refine ih (j + 1) x6 (by omega) h6 ht hv (fun k hk => ?_) go
      by_cases e : k = j
      · subst e; rw [Bool.eq_false_iff.mpr a, Bool.and_false]
      · exact hn k (by omega)
    refine Ev.pos a (Ev.pos (by omega) (Ev.pos (by omega) ?_))
    rw [wnext i (by omega), Int.toNat_natCast]
    refine go _ (by rw [List.length_set]; exact h6) ?_
    have hf : (List.range i).find? (fun (k : Nat) => rd p (k : Int) == rd p (i : Int) && alikeB T p k i) = some j := by
      rw [List.find?_range_eq_some]
      refine ⟨by rw [beq_iff_eq.mpr c, a]; rfl, List.mem_range.2 (by omega), fun k hk => ?_⟩
      rw [hn k hk]; rfl
    rw [nextS_nxt, nxt, hf, take_set_ (by omega) ht, rd_take ht (by omega)]
theorem sl1_ev (T : List S89) (h : VT T) (p : List Int) (hp : p.length = T.length) (t : Int) (r : List S89) (d : Nat) : ∀ (i : Nat) (x6 : List Int), i + d = T.length → x6.length = T.length → x6.take i = nextS T p i →
    Ev (fun n => spec_l06Least.l0 n (nextS T p T.length) (wrap64 (t + 1)) T) r → Ev (fun n => spec_l06Least.l1 n p t x6 (i : Int) T) r := by
  have hl := h.len
  induction d with
  | zero =>
    intro i x6 hi h6 ht go
    refine Ev.step (fun k => rfl) (Ev.neg (by omega) ?_)
    obtain rfl : i = T.length := by omega
    rw [List.take_of_length_le (by omega)] at ht
    rw [ht]
    exact go
  | succ d ih =>
    intro i x6 hi h6 ht go
    refine Ev.step (fun k => rfl) (Ev.pos (by omega) (Ev.pos (by omega) (Ev.pos (by omega) ?_)))
    rw [Int.toNat_natCast]
    refine sl2_ev T h p hp t i (by omega) r i 0 (x6.set i (i : Int)) (by omega) (by rw [List.length_set]; exact h6) (by rw [List.take_set, List.set_eq_of_length_le (by simp; omega)]; exact ht) ?_ (fun k hk => by omega) (fun y hy hyt => ih (i + 1) y (by omega) hy hyt go)
    rw [rd_at _ i (by rw [List.length_set]; omega), List.getElem_set_self]
theorem sl0_ev (T : List S89) (h : VT T) (r : List S89) (d : Nat) : ∀ (t : Nat) (p : List Int), t + d = T.length + 1 → p.length = T.length →
    Ev (fun n => spec_l06Least.l3 n (partS T d p) 0 T) r → Ev (fun n => spec_l06Least.l0 n p (t : Int) T) r := by
  have hl := h.len
  induction d with
  | zero =>
    intro t p ht hp go
    exact Ev.step (fun k => rfl) (Ev.neg (by omega) go)
  | succ d ih =>
    intro t p ht hp go
    refine Ev.step (fun k => rfl) (Ev.pos (by omega) (Ev.pos (by omega) (Ev.pos (by rw [Int.toNat_natCast]; omega) ?_)))
    refine sl1_ev T h p hp t r T.length 0 _ (by omega) (by rw [List.length_replicate]; omega) rfl ?_
    rw [wnext t (by omega)]
    exact ih (t + 1) (nextS T p T.length) (by omega) (nextS_len _ _ _) go
theorem toNat_len (d : List S89) : ((d.length : Int)).toNat = d.length := Int.toNat_natCast _
/-- The names of the firsts, node for node. -/
theorem sl3_ev (M : List S89) (h : VT M) (p : List Int) (hp : p.length = M.length) (hv : ∀ a, Dom M a → 0 ≤ rd p a ∧ rd p a < (M.length : Int)) (r : List S89) (x : List S89) : ∀ d : List S89, M = d ++ x →
    Ev (fun n => spec_l06Least.l3 n p (M.length : Int) (outS M p)) r → Ev (fun n => spec_l06Least.l3 n p (d.length : Int) (d.map (gG (rd p)) ++ x)) r := by
  have hl := h.len
  obtain ⟨w01, w12, w23⟩ := w3_
  induction x with
  | nil =>
    intro d hd go
    rw [List.append_nil] at hd
    subst hd
    rw [List.append_nil]
    exact go
  | cons a x ih =>
    intro d hd go
    have hM : M.length = d.length + (x.length + 1) := by rw [hd, List.length_append, List.length_cons]
    have hn : VN M.length a := h.node a (by rw [hd]; simp)
    have hw := hn.ways h.pos
    have nx := ih (d ++ [a]) (by rw [hd]; simp) go
    have ln : ((d.map (gG (rd p)) ++ a :: x).length : Int) = (M.length : Int) := by rw [List.length_append, List.length_cons, List.length_map, hM]
    have ld : (d.length : Int) = (((d.map (gG (rd p))).length : Nat) : Int) := by rw [List.length_map]
    have mid : ∀ z : S89, rd_T89 (d.map (gG (rd p)) ++ z :: x) (d.length : Int) = z := fun z => by rw [ld]; exact rd89_mid _ _ _
    have put : ∀ y z : S89, (d.map (gG (rd p)) ++ z :: x).set ((d.length : Int)).toNat y = d.map (gG (rd p)) ++ y :: x := fun y z => by
      rw [show ((d.length : Int)).toNat = (d.map (gG (rd p))).length by simp]
      simp
    have lz : ∀ z : S89, ((d.map (gG (rd p)) ++ z :: x).length : Int) = (M.length : Int) := fun z => by rw [List.length_append, List.length_cons, List.length_map, hM]
    have wr : ∀ b, Dom M b → IntKind.i16.wrap (rd p b) = rd p b := fun b hb => by
      obtain ⟨v0, v1⟩ := hv b hb
      have := i16_small (rd p b).toNat (by omega)
      rw [show (((rd p b).toNat : Nat) : Int) = rd p b by omega] at this
      exact this
    rw [List.map_append, List.append_assoc] at nx
    simp only [List.map_cons, List.map_nil, List.singleton_append, List.length_append, List.length_singleton] at nx
    obtain ⟨a0, a1, ⟨b0, b1, b2⟩⟩ := a
    simp only at hw
    refine Ev.step (fun k => rfl) (Ev.pos (by rw [lz]; omega) ?_)
    rcases hn.kind with hk | hk
    · simp only at hk
      have e : gG (rd p) ⟨a0, a1, ⟨b0, b1, b2⟩⟩ = ⟨a0, a1, ⟨rd p b0, rd p b1, rd p b2⟩⟩ := by unfold gG; exact if_pos hk
      rw [e] at nx
      refine Ev.step (fun k => rfl) (Ev.pos (by omega) (Ev.pos (by rw [lz]; omega) ?_))
      simp only [mid]
      refine Ev.bind (Ev.is (fun _ => (ways_of _ _ _ _ _).trans (congrArg some (if_pos hk)))) (Ev.pos (by omega) (Ev.pos (by omega) (Ev.pos (by omega) (Ev.pos hw.1.1 (Ev.pos (by rw [hp]; exact hw.1.2) ?_)))))
      rw [w01, put]
      change Ev (fun n => spec_l06Least.l4 n p (d.length : Int) 1 (d.map (gG (rd p)) ++ (⟨a0, a1, ⟨IntKind.i16.wrap (rd p b0), b1, b2⟩⟩ : S89) :: x)) r
      rw [wr b0 hw.1]
      refine Ev.step (fun k => rfl) (Ev.pos (by omega) (Ev.pos (by rw [lz]; omega) ?_))
      simp only [mid]
      refine Ev.bind (Ev.is (fun _ => (ways_of _ _ _ _ _).trans (congrArg some (if_pos hk)))) (Ev.pos (by omega) (Ev.pos (by omega) (Ev.pos (by omega) (Ev.pos hw.2.1.1 (Ev.pos (by rw [hp]; exact hw.2.1.2) ?_)))))
      rw [w12, put]
      change Ev (fun n => spec_l06Least.l4 n p (d.length : Int) 2 (d.map (gG (rd p)) ++ (⟨a0, a1, ⟨rd p b0, IntKind.i16.wrap (rd p b1), b2⟩⟩ : S89) :: x)) r
      rw [wr b1 hw.2.1]
      refine Ev.step (fun k => rfl) (Ev.pos (by omega) (Ev.pos (by rw [lz]; omega) ?_))
      simp only [mid]
      refine Ev.bind (Ev.is (fun _ => (ways_of _ _ _ _ _).trans (congrArg some (if_pos hk)))) (Ev.pos (by omega) (Ev.pos (by omega) (Ev.pos (by omega) (Ev.pos hw.2.2.1 (Ev.pos (by rw [hp]; exact hw.2.2.2) ?_)))))
      rw [w23, put]
      change Ev (fun n => spec_l06Least.l4 n p (d.length : Int) 3 (d.map (gG (rd p)) ++ (⟨a0, a1, ⟨rd p b0, rd p b1, IntKind.i16.wrap (rd p b2)⟩⟩ : S89) :: x)) r
      rw [wr b2 hw.2.2]
      refine Ev.step (fun k => rfl) (Ev.pos (by omega) (Ev.pos (by rw [lz]; omega) ?_))
      simp only [mid]
      refine Ev.bind (Ev.is (fun _ => (ways_of _ _ _ _ _).trans (congrArg some (if_pos hk)))) (Ev.neg (by omega) ?_)
      rw [wnext d.length (by omega)]
      exact nx
    · simp only at hk
      have hk1 : ¬ a0 = 1 := by omega
      have e : gG (rd p) ⟨a0, a1, ⟨b0, b1, b2⟩⟩ = ⟨a0, a1, ⟨rd p b0, b1, b2⟩⟩ := by unfold gG; exact if_neg hk1
      rw [e] at nx
      refine Ev.step (fun k => rfl) (Ev.pos (by omega) (Ev.pos (by rw [lz]; omega) ?_))
      simp only [mid]
      refine Ev.bind (Ev.is (fun _ => (ways_of _ _ _ _ _).trans (congrArg some (if_neg hk1)))) (Ev.pos (by omega) (Ev.pos (by omega) (Ev.pos (by omega) (Ev.pos hw.1.1 (Ev.pos (by rw [hp]; exact hw.1.2) ?_)))))
      rw [w01, put]
      change Ev (fun n => spec_l06Least.l4 n p (d.length : Int) 1 (d.map (gG (rd p)) ++ (⟨a0, a1, ⟨IntKind.i16.wrap (rd p b0), b1, b2⟩⟩ : S89) :: x)) r
      rw [wr b0 hw.1]
      refine Ev.step (fun k => rfl) (Ev.pos (by omega) (Ev.pos (by rw [lz]; omega) ?_))
      simp only [mid]
      refine Ev.bind (Ev.is (fun _ => (ways_of _ _ _ _ _).trans (congrArg some (if_neg hk1)))) (Ev.neg (by omega) ?_)
      rw [wnext d.length (by omega)]
      exact nx
theorem VT.outS {M : List S89} (h : VT M) {p : List Int} (hv : ∀ a, Dom M a → 0 ≤ rd p a ∧ rd p a < (M.length : Int)) : VT (outS M p) := by
  have e : (Pure.outS M p).length = M.length := by simp [Pure.outS]
  refine ⟨by rw [e]; exact h.pos, by rw [e]; exact h.len, fun x hx => ?_⟩
  rw [e]
  obtain ⟨a, ha, rfl⟩ := List.mem_map.1 hx
  have hn := h.node a ha
  exact hn.gG fun b hb => hv b (hn.way b hb)
/-- The reference's least tree. -/
theorem sleast_ev (T : List S89) (h : VT T) (R : List Int) (hR : Ev (fun k => spec_l06Reached.f k [⟨T⟩]) R) (M : List S89) (hM : Ev (fun k => spec_l06Tree.f k [⟨T⟩] R) M) (hV : VT M) (p : List Int) (hp : p = partS M (M.length + 1) (List.replicate M.length 0)) :
    ∃ K R', bfs (outS M p) K 0 [0] = some R' ∧ VT (outS M p) ∧ Ev (fun k => spec_l06Least.f k [⟨T⟩]) (renL (outS M p) R' (ixI R')) ∧ (renL (outS M p) R' (ixI R')).length ≤ 60 := by
  have hF := part_ok hV.okM
  rw [← hp] at hF
  have hv : ∀ a, Dom M a → 0 ≤ rd p a ∧ rd p a < (M.length : Int) := by
    intro a ha
    obtain ⟨n, rfl⟩ : ∃ n : Nat, a = (n : Int) := ⟨a.toNat, by have := ha.1; omega⟩
    have hn : n < M.length := by have := ha.2; omega
    obtain ⟨b, b1, b2, _⟩ := hF.2 n hn
    rw [b2]
    omega
  have hU := hV.outS hv
  have hl := hV.len
  obtain ⟨K, R', q1, q2, q3, q4, q5, q6, q7, q8⟩ := reach_all (outS M p) hU
  refine ⟨K, R', q1, hU, ?_, q8.len⟩
  unfold spec_l06Least.f
  refine Ev.bind hR (Ev.bind hM (Ev.pos (by omega) (Ev.pos (by rw [Int.toNat_natCast]; omega) ?_)))
  rw [Int.toNat_natCast]
  refine sl0_ev M hV _ (M.length + 1) 0 (List.replicate M.length 0) (by omega) (by simp) ?_
  rw [← hp]
  refine sl3_ev M hV p hF.1 hv _ M [] rfl ?_
  have e : (outS M p).length = M.length := by simp [outS]
  exact Ev.step (fun k => rfl) (Ev.neg (by rw [e]; omega) (Ev.bind q6 (Ev.bind q7 (Ev.now _))))
end Go.Proofs.Ytpfnohdnaocpdaa.Pure
/- The least tree: both texts' answers. Plain Lean over the printed functions. -/
namespace Go.Proofs.Ytpfnohdnaocpdaa.Pure
open Go.RowKit Go.Proofs.Ytpfnohdnaocpdaa.PT Go.Proofs.YtpfnohdnaocpdaaW.PrintWords Go.Proofs.YtpfnohdnaocpdaaW.PrintLast Go.Proofs.YtpfnohdnaocpdaaW.PrintMore Go.Proofs.YtpfnohdnaocpdaaRP
set_option linter.unusedVariables false
set_option linter.unusedSimpArgs false
theorem VT.of {l : List S89} (hw : ∀ x ∈ l, Rg x) (hv : validT l = true) : VT l := by
  obtain ⟨h1, h2, h3⟩ := validT_iff.1 hv
  refine ⟨h1, h2, fun x hx => ?_⟩
  obtain ⟨a, b, c, d⟩ := (forkB_iff (hw x hx)).1 (h3 x hx)
  refine ⟨by rcases d with d | d; exact .inl d.1; exact .inr d.1, by rcases d with d | d <;> omega, fun z hz => ?_, fun k => by rcases d with d | d; exact absurd d.1 (by omega); exact d.2.2.2⟩
  unfold wysL at hz
  split at hz
  · simp only [List.mem_cons, List.not_mem_nil, or_false] at hz
    rcases hz with rfl | rfl | rfl
    · exact a
    · exact b
    · exact c
  · simp only [List.mem_singleton] at hz
    subst hz
    exact a
theorem fndsL_fnds (r : List S89) : ∀ xs, fndsL xs r = fnds eqS xs r := by
  induction r with
  | nil => intro xs; rfl
  | cons a r ih => intro xs; exact ih _
theorem kyW_keys {M : List S89} (h : VT M) (p : List Int) : kyW M p = keys M p := by
  unfold kyW keys
  exact List.map_congr_left fun x hx => (h.node x hx).ren _
theorem foW_found {M : List S89} (h : VT M) (p : List Int) : foW M p = foundF M p := by
  unfold foW foundF
  rw [kyW_keys h, fndsL_fnds]
theorem neW_next {M : List S89} (h : VT M) (p : List Int) : neW M p = nextF M p := by
  unfold neW nextF
  rw [kyW_keys h, foW_found h]
  rfl
theorem clsW_clsL {M : List S89} (h : VT M) : ∀ (k : Nat) (p : List Int) (c : Nat), clsW M k p c = clsL M k p c := by
  intro k
  induction k with
  | zero => intro p c; rfl
  | succ k ih => intro p c; rw [clsW, clsL, foW_found h, neW_next h, ih]
/-- The program's tree of the first ones is as a valid tree. -/
theorem VT.outI {M : List S89} (h : VT M) {s : Nat} {p q : List Int} (hp : Firsts M s p) (hq : Tells M s q) : VT (outI M q) ∧ (∀ a ∈ Pure.lstI q, Dom M a) ∧ 0 < (Pure.lstI q).length ∧ (Pure.lstI q).length ≤ 60 := by
  have hd : ∀ a ∈ Pure.lstI q, Dom M a := by
    intro a ha
    obtain ⟨i, rfl, hi, _⟩ := (lst_mem hp hq a).1 ha
    exact ⟨by omega, by omega⟩
  obtain ⟨t, ht⟩ := lst_zero hp hq h.pos
  have h0 : 0 < (Pure.lstI q).length := by rw [ht]; simp
  have hl : (Pure.lstI q).length ≤ 60 := by
    unfold Pure.lstI
    have := List.length_filter_le (fun i => ixI q (rd q i) == i) ((List.range q.length).map Int.ofNat)
    rw [List.length_map, List.length_range] at this
    have := h.len
    have := hq.1
    omega
  refine ⟨?_, hd, h0, hl⟩
  unfold Pure.outI
  refine h.renL hd h0 hl (fun a ha b hb => ?_)
  have hb' := (h.nod (hd a ha)).way b hb
  obtain ⟨c, rfl⟩ : ∃ c : Nat, b = (c : Int) := ⟨b.toNat, by omega⟩
  rw [first_part hp hq (by omega)]
  obtain ⟨j, j0, j1, _⟩ := ixI_at (part_mem hp hq (i := c) (by omega))
  rw [j1]
  omega
/-- Both least trees. -/
theorem least_ev (l : List S89) (h : VT l) : ∃ r, Ev (fun k => impl_least.f k l) r ∧ Ev (fun k => spec_l06Least.f k [⟨l⟩]) r ∧ r.length ≤ 60 := by
  obtain ⟨K, R, p0, p1, p2, p3, p4, p5, p6, p7⟩ := reach_all l h
  have eM := h.renT p3 (ixI R)
  have hl := h.len
  obtain ⟨M, hM⟩ : ∃ M, M = renL l R (ixI R) := ⟨_, rfl⟩
  rw [← hM] at eM p6 p7
  obtain ⟨K1, q, hq, hT⟩ := clsL_ok p7.okM p7.pos
  obtain ⟨pp, hpp⟩ : ∃ pp, pp = partS M (M.length + 1) (List.replicate M.length 0) := ⟨_, rfl⟩
  have hF := part_ok p7.okM
  rw [← hpp] at hF
  have hT1 := hT (M.length + 1) (Nat.le_refl _)
  obtain ⟨v1, v2, v3, v4⟩ := p7.outI hF hT1
  obtain ⟨K2, R2, s0, s1, s2, s3, s4, s5, s6, s7⟩ := reach_all (outI M q) v1
  obtain ⟨K3, R3, u0, u1, u2, u3⟩ := sleast_ev l h R p5 M p6 p7 pp hpp
  obtain ⟨e1, e2⟩ := least_same p7.okM p7.pos hF hT1 s0
  obtain rfl := bfs_one u0 e1
  rw [e2] at u2 u3
  refine ⟨_, ?_, u2, u3⟩
  have eO : (renT M (PT.lstI q) fun v => ixI (PT.lstI q) (ixI q (rd q v))) = outI M q := p7.renT v2 _
  have hc : Ev (fun k => clsW M k (List.replicate M.length 0) 0) q := Ev.of (fun k => clsW_mono M k _ _) (k := K1) (by rw [clsW_clsL p7]; exact hq)
  unfold impl_least.f
  refine Ev.bind p4 (Ev.pos (chkR_iff p1 (by omega) p3) ?_)
  rw [eM]
  refine Ev.pos p7.chkM (Ev.bind hc (Ev.pos (chkR_iff (R := PT.lstI q) v3 v4 v2) ?_))
  rw [eO]
  refine Ev.bind s4 (Ev.pos (chkR_iff s1 (by have := v1.len; omega) s3) ?_)
  rw [v1.renT s3]
  exact Ev.now _
end Go.Proofs.Ytpfnohdnaocpdaa.Pure
/- Trees that come in: their sizes, copies, equality. Plain Lean over the printed functions. -/
namespace Go.Proofs.Ytpfnohdnaocpdaa.Pure
open Go.RowKit Go.Proofs.Ytpfnohdnaocpdaa.PT Go.Proofs.YtpfnohdnaocpdaaW.PrintWords Go.Proofs.YtpfnohdnaocpdaaW.PrintLast Go.Proofs.YtpfnohdnaocpdaaW.PrintMore Go.Proofs.YtpfnohdnaocpdaaRP
set_option linter.unusedVariables false
set_option linter.unusedSimpArgs false
theorem szTree_some (l : List S158) (c : Int) : ∃ r, laws_szTree.f l c = some r := by
  unfold laws_szTree.f laws_szForkS.f
  repeat' split
  all_goals simp only [Option.bind_some]
  all_goals repeat' split
  all_goals exact ⟨_, rfl⟩
def convF (x : S158) : S89 := ⟨x.f0, x.f1, x.f2⟩
theorem wsmall {i : Int} (h0 : 0 ≤ i) (h : i ≤ 100) : wrap64 (i + 1) = i + 1 := by unfold wrap64; omega
theorem toA3_ev (a b c : Int) : Ev (fun k => laws_toInt16A3.f k a b c) (a, b, c) := by
  unfold laws_toInt16A3.f
  have e0 : wrap64 ((0 : Int) + 1) = 1 := by unfold wrap64; omega
  have e1 : wrap64 ((1 : Int) + 1) = 2 := by unfold wrap64; omega
  have e2 : wrap64 ((2 : Int) + 1) = 3 := by unfold wrap64; omega
  refine Ev.step (fun k => rfl) ?_
  refine Ev.pos (by decide) (Ev.pos (by decide) ?_)
  rw [e0]
  refine Ev.step (fun k => rfl) ?_
  refine Ev.pos (by decide) (Ev.pos (by decide) ?_)
  rw [e1]
  refine Ev.step (fun k => rfl) ?_
  refine Ev.pos (by decide) (Ev.pos (by decide) ?_)
  rw [e2]
  refine Ev.step (fun k => rfl) ?_
  refine Ev.neg (by decide) (Ev.to (Ev.now _) ?_)
  rfl
theorem rd158_mid (d : List S158) (x : S158) (r : List S158) : rd_T158 (d ++ x :: r) (d.length : Int) = x := by
  simp [rd_T158, List.getD]
theorem toForkS_loop (r : List S158) : ∀ (d : List S158) (y : List S89), d.length + r.length ≤ 140737488355327 → y.length = r.length → Ev (fun k => laws_toForkS.l0 k (d ++ r) (d.map convF ++ y) (d.length : Int)) ((d ++ r).map convF) := by
  induction r with
  | nil =>
    intro d y h hy
    obtain rfl := List.eq_nil_of_length_eq_zero hy
    refine Ev.step (fun k => rfl) ?_
    simp only [laws_toForkS.l0]
    exact Ev.neg (by simp) (Ev.to (Ev.now _) (by simp))
  | cons x r ih =>
    intro d y h hy
    match y, hy with
    | y0 :: y, hy =>
      simp only [List.length_cons] at h hy
      refine Ev.step (fun k => rfl) ?_
      simp only [laws_toForkS.l0]
      refine Ev.pos (by simp; omega) (Ev.pos (by omega) ?_)
      rw [rd158_mid]
      refine Ev.bind (Ev.bind (toA3_ev _ _ _) (Ev.now _)) (Ev.pos (by simp; omega) ?_)
      rw [wnext d.length (by omega)]
      have hq := ih (d ++ [x]) y (by simp; omega) (by omega)
      have hs : (d.map convF ++ y0 :: y).set ((d.length : Int)).toNat (convF x) = (d ++ [x]).map convF ++ y := by
        have := set_mid (d.map convF) y0 (convF x) y
        rw [List.length_map] at this
        rw [this]; simp
      rw [List.append_assoc] at hq
      simp only [List.length_append, List.length_cons, List.length_nil, List.cons_append, List.nil_append, Nat.zero_add] at hq
      exact Ev.congr (fun k => by rw [← hs]; rfl) hq
theorem toTree_ev (l : List S158) (h : l.length ≤ 35184372088832) : Ev (fun k => laws_toTree.f k l) (l.map convF) := by
  unfold laws_toTree.f laws_toForkS.f
  refine Ev.bind (Ev.pos (by omega) (Ev.pos (by omega) ?_)) (Ev.now _)
  have := toForkS_loop l [] (List.replicate l.length z89) (by simp; omega) (by simp)
  simpa using this
end Go.Proofs.Ytpfnohdnaocpdaa.Pure
/- DoTheSame: the program's answer is the reference's, for all two trees; it leaves its arguments as they were. Plain Lean over the printed functions. -/
namespace Go.Proofs.Ytpfnohdnaocpdaa.Pure
open Go.RowKit Go.Proofs.Ytpfnohdnaocpdaa.PT Go.Proofs.YtpfnohdnaocpdaaW.PrintWords Go.Proofs.YtpfnohdnaocpdaaW.PrintLast Go.Proofs.YtpfnohdnaocpdaaW.PrintMore Go.Proofs.YtpfnohdnaocpdaaRP
set_option linter.unusedVariables false
set_option linter.unusedSimpArgs false
theorem Rg_convD {xs : List S158} (h : GL22 xs) : ∀ x ∈ xs.map convF, Rg x := by
  intro x hx
  obtain ⟨y, hy, rfl⟩ := List.mem_map.1 hx
  have g := (h.1 y hy).2.2
  exact ⟨Go.bounds_i16 g.1, Go.bounds_i16 g.2.1, Go.bounds_i16 g.2.2⟩
/-- Two rows of nodes, in both texts. -/
theorem same_both (a b : List S89) (hl : b.length = a.length) (hn : a.length ≤ 1000) (d : Nat) : ∀ i : Nat, i + d = a.length → ∃ B, Ev (fun k => spec_l06Same.l0 k [⟨a⟩] [⟨b⟩] (i : Int)) B ∧ Ev (fun k => impl_Fork_122.l0 k a b (a.length : Int) (i : Int)) B := by
  induction d with
  | zero =>
    intro i hi
    exact ⟨true, Ev.step (fun k => rfl) (Ev.pos (by simp) (Ev.neg (show ¬ (i : Int) < (a.length : Int) by omega) (Ev.now _))), Ev.step (fun k => rfl) (Ev.neg (by omega) (Ev.now _))⟩
  | succ d ih =>
    intro i hi
    obtain ⟨B, h1, h2⟩ := ih (i + 1) (by omega)
    rw [← wnext i (by omega)] at h1 h2
    by_cases c : (!((rd_T89 a (i : Int)).f0 == (rd_T89 b (i : Int)).f0) || (!((rd_T89 a (i : Int)).f1 == (rd_T89 b (i : Int)).f1) || ((!((rd_T89 a (i : Int)).f2.f0 == (rd_T89 b (i : Int)).f2.f0) || (!((rd_T89 a (i : Int)).f2.f1 == (rd_T89 b (i : Int)).f2.f1) || (!((rd_T89 a (i : Int)).f2.f2 == (rd_T89 b (i : Int)).f2.f2))))))) = true
    · exact ⟨false, Ev.step (fun k => rfl) (Ev.pos (by simp) (Ev.pos (show (i : Int) < (a.length : Int) by omega) (Ev.pos (by omega) (Ev.pos (by simp) (Ev.pos (show (i : Int) < (b.length : Int) by omega) (Ev.pos c (Ev.now _))))))), Ev.step (fun k => rfl) (Ev.pos (by omega) (Ev.pos (by omega) (Ev.pos (by omega) (Ev.pos (by omega) (Ev.pos c (Ev.now _))))))⟩
    · exact ⟨B, Ev.step (fun k => rfl) (Ev.pos (by simp) (Ev.pos (show (i : Int) < (a.length : Int) by omega) (Ev.pos (by omega) (Ev.pos (by simp) (Ev.pos (show (i : Int) < (b.length : Int) by omega) (Ev.neg c h1)))))), Ev.step (fun k => rfl) (Ev.pos (by omega) (Ev.pos (by omega) (Ev.pos (by omega) (Ev.pos (by omega) (Ev.neg c h2)))))⟩
theorem same_ev (a b : List S89) (hn : a.length ≤ 1000) : ∃ B, Ev (fun k => spec_l06Same.f k [⟨a⟩] [⟨b⟩]) B ∧ Ev (fun k => impl_SameTree.f k a b) B := by
  by_cases c : b.length = a.length
  · obtain ⟨B, h1, h2⟩ := same_both a b c hn a.length 0 (by omega)
    exact ⟨B, Ev.pos (by simp) (Ev.pos (by simp) (Ev.pos (show (a.length : Int) = (b.length : Int) by omega) h1)), Ev.bind (Ev.pos (show (a.length : Int) = (b.length : Int) by omega) h2) (Ev.now _)⟩
  · exact ⟨false, Ev.pos (by simp) (Ev.pos (by simp) (Ev.neg (show ¬ (a.length : Int) = (b.length : Int) by omega) (Ev.now _))), Ev.bind (Ev.neg (show ¬ (a.length : Int) = (b.length : Int) by omega) (Ev.now _)) (Ev.now _)⟩
theorem dosameE (l m : List S89) (hw : ∀ x ∈ l, Rg x) (hl : l.length ≤ 140737488355327) (hwm : ∀ x ∈ m, Rg x) (hm : m.length ≤ 140737488355327) : ∃ A : Bool × Int, Ev (fun k => spec_DoTheSame.f k l m) A ∧ Ev (fun k => impl_DoTheSame.f k l m) A := by
  have s := sokT_ev l hw hl
  have i : Ev (fun k => impl_ValidTree.f l) (validT l) := Ev.is (fun _ => ivalidT_eq l)
  have s' := sokT_ev m hwm hm
  have i' : Ev (fun k => impl_ValidTree.f m) (validT m) := Ev.is (fun _ => ivalidT_eq m)
  have st : Ev (fun k => spec_DoTheSame.j0 k true l m) (false, 1) := Ev.step (fun k => rfl) ⟨0, fun _ _ => rfl⟩
  have it : Ev (fun k => impl_DoTheSame.j0 k true l m) (false, 1) := Ev.step (fun k => rfl) ⟨0, fun _ _ => rfl⟩
  unfold spec_DoTheSame.f impl_DoTheSame.f
  by_cases v : validT l = true
  case neg => exact ⟨(false, 1), Ev.bind s (Ev.neg v st), Ev.bind i (Ev.neg v it)⟩
  by_cases v' : validT m = true
  case neg =>
    rw [Bool.eq_false_iff.mpr v'] at s' i'
    exact ⟨(false, 1), Ev.bind s (Ev.pos v (Ev.bind s' st)), Ev.bind i (Ev.pos v (Ev.bind i' it))⟩
  rw [v'] at s' i'
  obtain ⟨r, r1, r2, r3⟩ := least_ev l (VT.of hw v)
  obtain ⟨q, q1, q2, q3⟩ := least_ev m (VT.of hwm v')
  obtain ⟨B, b1, b2⟩ := same_ev r q (by omega)
  refine ⟨(B, 0), Ev.bind s (Ev.pos v (Ev.bind s' ?_)), Ev.bind i (Ev.pos v (Ev.bind i' ?_))⟩
  · exact Ev.step (f := fun k => (spec_l06Least.f k [(⟨l⟩ : S34)]).bind fun t303 => ((spec_l06Least.f k [(⟨m⟩ : S34)]).bind fun t308 => ((spec_l06Same.f k [(⟨t303⟩ : S34)] [(⟨t308⟩ : S34)]).bind fun t314 => (some (t314, 0))))) (fun k => rfl) (Ev.bind r2 (Ev.bind q2 (Ev.bind b1 (Ev.now _))))
  · exact Ev.step (f := fun k => (impl_least.f k l).bind fun t324 => ((impl_least.f k m).bind fun t327 => ((impl_SameTree.f k t324 t327).bind fun t330 => (some (t330, 0))))) (fun k => rfl) (Ev.bind r1 (Ev.bind q1 (Ev.bind b2 (Ev.now _))))
/-- What the law needs: for every two trees. -/
theorem FnExactDoTheSame (t u : S24) (gt : G24 t) (gu : G24 u) : ∃ k, laws_FnExactDoTheSame.f k t.f0 u.f0 = some true := by
  have ht : t.f0.length ≤ 17592186044000 := by have := gt.2; omega
  have hu : u.f0.length ≤ 17592186044000 := by have := gu.2; omega
  have hw := Rg_convD gt
  have hwu := Rg_convD gu
  refine Ev.rounds (g := fun k => laws_FnExactDoTheSame.f k t.f0 u.f0) ?_
  unfold laws_FnExactDoTheSame.f
  obtain ⟨r0, hr0⟩ := szTree_some t.f0 1048576
  simp only [hr0, Option.bind_some]
  by_cases c0 : r0 < 0
  · exact Ev.pos c0 (Ev.now _)
  obtain ⟨r1, hr1⟩ := szTree_some u.f0 r0
  simp only [hr1, Option.bind_some]
  by_cases c1 : r1 < 0
  · exact Ev.neg c0 (Ev.pos c1 (Ev.now _))
  have tT := toTree_ev t.f0 (by omega)
  have tU := toTree_ev u.f0 (by omega)
  have lT : (t.f0.map convF).length = t.f0.length := by simp
  have lU : (u.f0.map convF).length = u.f0.length := by simp
  have eT := eqTree_ev (t.f0.map convF) (by omega)
  have eU := eqTree_ev (u.f0.map convF) (by omega)
  generalize t.f0.map convF = T at hw tT lT eT
  generalize u.f0.map convF = U at hwu tU lU eU
  obtain ⟨A, sp, im⟩ := dosameE T U hw (by omega) hwu (by omega)
  refine Ev.neg c0 (Ev.neg c1 (Ev.bind tT (Ev.bind tU (Ev.bind sp (Ev.bind tT (Ev.bind tU (Ev.bind im (Ev.neg (by simp) (Ev.step (fun k => rfl) ?_)))))))))
  simp only [laws_FnExactDoTheSame.j0]
  exact Ev.neg (by simp) (Ev.bind tT (Ev.bind eT (Ev.pos (by first | rfl | trivial) (Ev.bind tU (Ev.bind eU (Ev.pos (by first | rfl | trivial) (Ev.now _)))))))
end Go.Proofs.Ytpfnohdnaocpdaa.Pure

/- How many digits are asked for, level by level, in the reference's text: in step with the marks of productive nodes. Plain Lean over the printed functions. -/
import Derived.Test.YtpfnohdnaocpdaaPTx6
import Derived.Test.YtpfnohdnaocpdaaPureTreeC
import Derived.Test.YtpfnohdnaocpdaaPTcount
namespace Go.Proofs.Ytpfnohdnaocpdaa.Pure
open Go.RowKit Go.Proofs.Ytpfnohdnaocpdaa.PT Go.Proofs.YtpfnohdnaocpdaaW.PrintWords Go.Proofs.YtpfnohdnaocpdaaW.PrintLast Go.Proofs.YtpfnohdnaocpdaaW.PrintMore Go.Proofs.YtpfnohdnaocpdaaRP
set_option linter.unusedVariables false
set_option linter.unusedSimpArgs false
def ls (most : Bool) (v be : Int) (ok : Bool) : Int × Bool := if v < 0 then (be, ok && !most) else if be < 0 then (v, ok) else if most = true then (if v > be then (v, ok) else (be, ok)) else (if v < be then (v, ok) else (be, ok))
def pick (most : Bool) (b v : Int) : Int := if most = true then (if v > b then v else b) else (if v < b then v else b)
theorem ls_first (most : Bool) (v : Int) (h : 0 ≤ v) : ls most v (-1) true = (v, true) := by unfold ls; rw [if_neg (by omega), if_pos (by omega)]
theorem ls_next (most : Bool) (v be : Int) (h : 0 ≤ v) (h2 : 0 ≤ be) : ls most v be true = (pick most be v, true) := by
  unfold ls pick
  rw [if_neg (by omega), if_neg (by omega)]
  cases most <;> simp only [if_true, Bool.false_eq_true, if_false] <;> split <;> rfl
theorem pick_le (most : Bool) (b v M : Int) (h : b ≤ M) (h2 : v ≤ M) : pick most b v ≤ M := by unfold pick; split <;> split <;> assumption
theorem pick_nn (most : Bool) (b v : Int) (h : 0 ≤ b) (h2 : 0 ≤ v) : 0 ≤ pick most b v := by unfold pick; split <;> split <;> assumption
theorem best_pick (most : Bool) (b v : Int) : best most (b + 1) (v + 1) = pick most b v + 1 := by
  unfold best pick
  by_cases c : b < v
  · have e1 : decide (b + 1 < v + 1) = true := decide_eq_true (by omega)
    have e2 : (v + 1 != b + 1) = true := bne_iff_ne.mpr (by omega)
    rw [e1, e2]
    cases most
    · simp only [Bool.false_eq_true, if_false]; rw [if_neg (by decide), if_neg (by omega)]
    · simp only [if_true]; rw [if_pos (by decide), if_pos (by omega)]
  · have e1 : decide (b + 1 < v + 1) = false := decide_eq_false (by omega)
    rw [e1]
    by_cases c2 : v = b
    · subst c2
      have e2 : (v + 1 != v + 1) = false := bne_eq_false_iff_eq.mpr rfl
      rw [e2, Bool.and_false, if_neg (by decide)]
      cases most
      · simp only [Bool.false_eq_true, if_false]; rw [if_neg (by omega)]
      · simp only [if_true]; rw [if_neg (by omega)]
    · have e2 : (v + 1 != b + 1) = true := bne_iff_ne.mpr (by omega)
      rw [e2]
      cases most
      · simp only [Bool.false_eq_true, if_false]; rw [if_pos (by decide), if_pos (by omega)]
      · simp only [if_true]; rw [if_neg (by decide), if_neg (by omega)]
theorem w_small {v : Int} (h : 0 ≤ v) (h2 : v ≤ 1000000) : wrap64 (v + 1) = v + 1 := by unfold wrap64; omega
theorem lev_l3_s (k : Nat) (L : List S89) (b : List Int) (most : Bool) (o : List Int) (r i : Int) (x : S89) (be : Int) (ok : Bool) (j m : Int) (j0 : 0 ≤ j) (j1 : j < 3) (hm : rd [x.f2.f0, x.f2.f1, x.f2.f2] j = m) (m0 : 0 ≤ m) (m1 : m < o.length) :
    spec_l06Level.l3 (k + 1) [⟨L⟩] b most o r i [x] be ok j = spec_l06Level.l3 k [⟨L⟩] b most o r i [x] (ls most (rd o m) be ok).1 (ls most (rd o m) be ok).2 (wrap64 (j + 1)) := by
  have e : rd_T89 [x] 0 = x := rfl
  simp only [spec_l06Level.l3, e]
  rw [if_pos j1, if_pos (by simp), if_pos j0, hm, if_pos m0, if_pos m1]
  unfold ls
  by_cases c1 : rd o m < 0
  · rw [if_pos c1, if_pos c1]
    cases ok
    · rw [if_neg (by simp)]; rfl
    · rw [if_pos rfl]; rfl
  · rw [if_neg c1, if_neg c1]
    by_cases c2 : be < 0
    · rw [if_pos c2, if_pos c2]
    · rw [if_neg c2, if_neg c2]
      by_cases c3 : most = true
      · rw [if_pos c3, if_pos c3]
        by_cases c4 : rd o m > be
        · rw [if_pos c4, if_pos c4]
        · rw [if_neg c4, if_neg c4]
      · rw [if_neg c3, if_neg c3]
        by_cases c4 : rd o m < be
        · rw [if_pos c4, if_pos c4]
        · rw [if_neg c4, if_neg c4]
theorem rdB_set (xs : List Bool) (a b : Int) (v : Bool) (a0 : 0 ≤ a) (a1 : a < xs.length) (b0 : 0 ≤ b) : rdOf false (xs.set a.toNat v) b = if a = b then v else rdOf false xs b := by
  by_cases c : a = b
  · subst c
    rw [if_pos rfl]
    simp [rdOf, List.getD, show a.toNat < xs.length by omega]
  · rw [if_neg c]
    simp [rdOf, List.getD, List.getElem?_set, show ¬ a.toNat = b.toNat by omega]
/-- What is known of a level when so many steps are done. -/
structure Lv (l : List S89) (R : List Int) (most : Bool) (n : Int) (B : Int) (g : List Bool) (o : List Int) : Prop where
  len : o.length = R.length
  ok : ∀ j : Nat, j < R.length → rdOf false g (rd R (j : Int)) = true → 0 ≤ rd o (j : Int) ∧ rd o (j : Int) ≤ B ∧ ∃ k, cnt l most k (rd R (j : Int)) (n + 1) = some (rd o (j : Int))
theorem child (l : List S89) (hk : okT l = true) (hl : l.length ≤ 60) (R : List Int) (s : List Bool) (hI : Inv l.length R s) (hC : Cl l R 0) (x5 : List Int) (h5 : ∀ j : Nat, j < R.length → rd x5 (rd R (j : Int)) = j) (most : Bool) (n : Int) (hn : 0 ≤ n) (B0 : Int) (b : List Int) (hb : b.length = R.length) (hB : ∀ j : Nat, j < R.length → 0 ≤ rd b (j : Int) ∧ rd b (j : Int) ≤ B0 ∧ ∃ k, cnt l most k (rd R (j : Int)) n = some (rd b (j : Int))) (i : Nat) (hi : i < R.length) (q : Nat) (hq : q < nW (rd_T89 l (rd R (i : Int)))) : ∃ p : Nat, p < R.length ∧ rd x5 (rd [(rd_T89 l (rd R (i : Int))).f2.f0, (rd_T89 l (rd R (i : Int))).f2.f1, (rd_T89 l (rd R (i : Int))).f2.f2] (q : Int)) = p ∧ rd R (p : Int) = rd [(rd_T89 l (rd R (i : Int))).f2.f0, (rd_T89 l (rd R (i : Int))).f2.f1, (rd_T89 l (rd R (i : Int))).f2.f2] (q : Int) := by
  have hm := hC i (Nat.zero_le _) hi q hq
  obtain ⟨p, hp, he⟩ := List.getElem_of_mem hm
  have hr : rd R (p : Int) = rd [(rd_T89 l (rd R (i : Int))).f2.f0, (rd_T89 l (rd R (i : Int))).f2.f1, (rd_T89 l (rd R (i : Int))).f2.f2] (q : Int) := by rw [rd_at R p hp, he]
  exact ⟨p, hp, by rw [← hr]; exact h5 p hp, hr⟩
theorem lev_step (l : List S89) (hk : okT l = true) (hl : l.length ≤ 60) (R : List Int) (s : List Bool) (hI : Inv l.length R s) (hC : Cl l R 0) (x5 : List Int) (h5 : ∀ j : Nat, j < R.length → rd x5 (rd R (j : Int)) = j) (most : Bool) (n : Int) (hn : 0 ≤ n) (B0 : Int) (b : List Int) (hb : b.length = R.length) (hB : ∀ j : Nat, j < R.length → 0 ≤ rd b (j : Int) ∧ rd b (j : Int) ≤ B0 ∧ ∃ k, cnt l most k (rd R (j : Int)) n = some (rd b (j : Int))) (r : Nat) (hr : r ≤ 60) (B : Int) (hB0 : B0 ≤ B) (hBs : 0 ≤ B ∧ B ≤ 900000) (i : Nat) (hi : i < R.length) (g : List Bool) (hg : g.length = l.length) (o : List Int) (h : Lv l R most n B g o) :
    ∃ o1, Lv l R most n (B + 1) (gstep l R g i) o1 ∧ ∀ v, Ev (fun k => spec_l06Level.l2 k [⟨R.map (gT l x5)⟩] b most o1 (r : Int) ((i + 1 : Nat) : Int)) v → Ev (fun k => spec_l06Level.l2 k [⟨R.map (gT l x5)⟩] b most o (r : Int) (i : Int)) v := by
  have hle := hI.le
  have hri := hI.rng _ (rd_memI hi)
  obtain ⟨hkd, h0, h1, h2⟩ := okT_rd hk _ hri.1 hri.2
  have ol := h.len
  have w01 : wrap64 (0 + 1) = 1 := by unfold wrap64; omega
  have w12 : wrap64 (1 + 1) = 2 := by unfold wrap64; omega
  have w23 : wrap64 (2 + 1) = 3 := by unfold wrap64; omega
  -- other nodes are as they were
  have other : ∀ (o1 : List Int) (y : Int), (o1 = o.set i y ∨ o1 = o) → ∀ j : Nat, j < R.length → j ≠ i → rdOf false (gstep l R g i) (rd R (j : Int)) = true → 0 ≤ rd o1 (j : Int) ∧ rd o1 (j : Int) ≤ B + 1 ∧ ∃ k, cnt l most k (rd R (j : Int)) (n + 1) = some (rd o1 (j : Int)) := by
    intro o1 y ho j hj hji hgj
    have hne : rd R (i : Int) ≠ rd R (j : Int) := by
      rcases Nat.lt_or_ge i j with q | q
      · exact hI.dup i j q hj
      · exact (hI.dup j i (by omega) hi).symm
    have hrj := hI.rng _ (rd_memI hj)
    unfold gstep at hgj
    rw [rdB_set g _ _ _ hri.1 (by rw [hg]; exact hri.2) hrj.1, if_neg hne] at hgj
    obtain ⟨q0, q1, q2⟩ := h.ok j hj hgj
    have e : rd o1 (j : Int) = rd o (j : Int) := by
      rcases ho with ho | ho
      · rw [ho, show o.set i y = o.set ((i : Int)).toNat y by rw [Int.toNat_natCast], rd_set o _ _ _ (by omega) (by omega) (by omega), if_neg (by omega)]
      · rw [ho]
    rw [e]
    exact ⟨q0, by omega, q2⟩
  have self : rdOf false (gstep l R g i) (rd R (i : Int)) = nodeB (rd_T89 l (rd R (i : Int))) g := by
    unfold gstep
    rw [rdB_set g _ _ _ hri.1 (by rw [hg]; exact hri.2) hri.1, if_pos rfl]
  have here : ∀ y : Int, rd (o.set i y) (i : Int) = y := by
    intro y
    rw [show o.set i y = o.set ((i : Int)).toNat y by rw [Int.toNat_natCast], rd_set o _ _ _ (by omega) (by omega) (by omega), if_pos rfl]
  have hL := rd_mapG l x5 R i hi
  rcases hkd with hx | hx
  · -- a node that asks
    have hg3 : gT l x5 (rd R (i : Int)) = ⟨(rd_T89 l (rd R (i : Int))).f0, (rd_T89 l (rd R (i : Int))).f1, ⟨rd x5 (rd_T89 l (rd R (i : Int))).f2.f0, rd x5 (rd_T89 l (rd R (i : Int))).f2.f1, rd x5 (rd_T89 l (rd R (i : Int))).f2.f2⟩⟩ := by unfold gT; rw [if_pos hx]
    have hw3 : nW (rd_T89 l (rd R (i : Int))) = 3 := by unfold nW; rw [if_pos hx]
    obtain ⟨p0, l0, e0, c0⟩ := child l hk hl R s hI hC x5 h5 most n hn B0 b hb hB i hi 0 (by omega)
    obtain ⟨p1, l1, e1, c1⟩ := child l hk hl R s hI hC x5 h5 most n hn B0 b hb hB i hi 1 (by omega)
    obtain ⟨p2, l2, e2, c2⟩ := child l hk hl R s hI hC x5 h5 most n hn B0 b hb hB i hi 2 (by omega)
    replace e0 : rd x5 (rd_T89 l (rd R (i : Int))).f2.f0 = p0 := e0
    replace e1 : rd x5 (rd_T89 l (rd R (i : Int))).f2.f1 = p1 := e1
    replace e2 : rd x5 (rd_T89 l (rd R (i : Int))).f2.f2 = p2 := e2
    replace c0 : rd R (p0 : Int) = (rd_T89 l (rd R (i : Int))).f2.f0 := c0
    replace c1 : rd R (p1 : Int) = (rd_T89 l (rd R (i : Int))).f2.f1 := c1
    replace c2 : rd R (p2 : Int) = (rd_T89 l (rd R (i : Int))).f2.f2 := c2
    rw [e0, e1, e2] at hg3
    obtain ⟨y, hy⟩ : ∃ y, y = gT l x5 (rd R (i : Int)) := ⟨_, rfl⟩
    rw [← hy] at hg3 hL
    obtain ⟨q, hq⟩ : ∃ q : Int × Bool, q = ls most (rd o (p2 : Int)) (ls most (rd o (p1 : Int)) (ls most (rd o (p0 : Int)) (-1) true).1 (ls most (rd o (p0 : Int)) (-1) true).2).1 (ls most (rd o (p1 : Int)) (ls most (rd o (p0 : Int)) (-1) true).1 (ls most (rd o (p0 : Int)) (-1) true).2).2 := ⟨_, rfl⟩
    obtain ⟨o1, ho1⟩ : ∃ o1, o1 = if q.2 = true ∧ q.1 ≥ 0 then o.set i (wrap64 (q.1 + 1)) else o := ⟨_, rfl⟩
    refine ⟨o1, ⟨?_, ?_⟩, ?_⟩
    · rw [ho1]; split
      · rw [List.length_set]; exact ol
      · exact ol
    · intro j hj hgj
      by_cases hji : j = i
      · subst hji
        rw [self, nodeB_1 _ g hx] at hgj
        simp only [Bool.true_and, Bool.and_eq_true] at hgj
        obtain ⟨a0, b0, k0, d0⟩ := h.ok p0 l0 (by rw [c0]; exact hgj.1.1)
        obtain ⟨a1, b1, k1, d1⟩ := h.ok p1 l1 (by rw [c1]; exact hgj.1.2)
        obtain ⟨a2, b2, k2, d2⟩ := h.ok p2 l2 (by rw [c2]; exact hgj.2)
        rw [c0] at d0
        rw [c1] at d1
        rw [c2] at d2
        have hq2 : q = (pick most (pick most (rd o (p0 : Int)) (rd o (p1 : Int))) (rd o (p2 : Int)), true) := by
          rw [hq, ls_first most _ a0]
          simp only
          rw [ls_next most _ _ a1 a0]
          simp only
          rw [ls_next most _ _ a2 (pick_nn most _ _ a0 a1)]
        have n1 := pick_nn most _ _ a0 a1
        have n2 := pick_nn most _ _ n1 a2
        have u1 := pick_le most _ _ B b0 b1
        have u2 := pick_le most _ _ B u1 b2
        have hw : wrap64 (q.1 + 1) = pick most (pick most (rd o (p0 : Int)) (rd o (p1 : Int))) (rd o (p2 : Int)) + 1 := by
          rw [hq2]
          exact w_small n2 (by omega)
        have ho2 : o1 = o.set j (wrap64 (q.1 + 1)) := by rw [ho1, if_pos ⟨by rw [hq2], by rw [hq2]; exact n2⟩]
        rw [ho2, here, hw]
        refine ⟨by omega, by omega, k0 + k1 + k2 + 1, ?_⟩
        have f0 := cnt_up l most k0 (k1 + k2) _ _ _ d0
        have f1 := cnt_up l most k1 (k0 + k2) _ _ _ d1
        have f2 := cnt_up l most k2 (k0 + k1) _ _ _ d2
        rw [show k0 + (k1 + k2) = k0 + k1 + k2 by omega] at f0
        rw [show k1 + (k0 + k2) = k0 + k1 + k2 by omega] at f1
        rw [show k2 + (k0 + k1) = k0 + k1 + k2 by omega] at f2
        rw [cnt_succ, if_neg (by omega), if_neg (by omega), f0, f1, f2]
        simp only [Option.bind_some]
        rw [w_small a0 (by omega), w_small a1 (by omega), w_small a2 (by omega), best_pick, best_pick]
      · refine other o1 (wrap64 (q.1 + 1)) ?_ j hj hji hgj
        rw [ho1]; split
        · exact Or.inl rfl
        · exact Or.inr rfl
    · intro v hv
      refine Ev.step (fun k => rfl) (Ev.pos (by omega) (Ev.pos (by simp) (Ev.pos (by omega) (Ev.pos ?_ (Ev.pos (by simp) ?_)))))
      · change (i : Int) < ((R.map (gT l x5)).length : Int)
        rw [List.length_map]; omega
      change Ev (fun k => if (rd_T89 (R.map (gT l x5)) (i : Int)).f0 = 2 then _ else spec_l06Level.l3 k [⟨R.map (gT l x5)⟩] b most o (r : Int) (i : Int) [rd_T89 (R.map (gT l x5)) (i : Int)] (-1) true 0) v
      rw [hL]
      refine Ev.neg (by rw [hg3]; show ¬ (rd_T89 l (rd R (i : Int))).f0 = 2; omega) ?_
      have r0 : rd [y.f2.f0, y.f2.f1, y.f2.f2] 0 = (p0 : Int) := by rw [hg3]; rfl
      have r1 : rd [y.f2.f0, y.f2.f1, y.f2.f2] 1 = (p1 : Int) := by rw [hg3]; rfl
      have r2 : rd [y.f2.f0, y.f2.f1, y.f2.f2] 2 = (p2 : Int) := by rw [hg3]; rfl
      refine Ev.step (fun k => lev_l3_s k _ b most o r i y (-1) true 0 p0 (by omega) (by omega) r0 (by omega) (by omega)) ?_
      rw [w01]
      refine Ev.step (fun k => lev_l3_s k _ b most o r i y _ _ 1 p1 (by omega) (by omega) r1 (by omega) (by omega)) ?_
      rw [w12]
      refine Ev.step (fun k => lev_l3_s k _ b most o r i y _ _ 2 p2 (by omega) (by omega) r2 (by omega) (by omega)) ?_
      rw [w23, ← hq]
      refine Ev.step (fun k => rfl) (Ev.neg (by omega) ?_)
      rw [wnext i (by omega)]
      by_cases c3 : q.2 = true
      · refine Ev.pos c3 ?_
        by_cases c4 : q.1 ≥ 0
        · refine Ev.pos c4 (Ev.pos (by omega) (Ev.pos (by omega) ?_))
          rw [ho1, if_pos ⟨c3, c4⟩] at hv
          rw [Int.toNat_natCast]
          exact hv
        · refine Ev.neg c4 ?_
          rw [ho1, if_neg (fun h => c4 h.2)] at hv
          exact hv
      · refine Ev.neg c3 ?_
        rw [ho1, if_neg (fun h => c3 h.1)] at hv
        exact hv
  · -- a node that tells
    have hx1 : ¬ (rd_T89 l (rd R (i : Int))).f0 = 1 := by omega
    have hg3 : gT l x5 (rd R (i : Int)) = ⟨(rd_T89 l (rd R (i : Int))).f0, (rd_T89 l (rd R (i : Int))).f1, ⟨rd x5 (rd_T89 l (rd R (i : Int))).f2.f0, (rd_T89 l (rd R (i : Int))).f2.f1, (rd_T89 l (rd R (i : Int))).f2.f2⟩⟩ := by unfold gT; rw [if_neg hx1]
    have hw1 : nW (rd_T89 l (rd R (i : Int))) = 1 := by unfold nW; rw [if_neg hx1]
    obtain ⟨p0, l0, e0, c0⟩ := child l hk hl R s hI hC x5 h5 most n hn B0 b hb hB i hi 0 (by omega)
    replace e0 : rd x5 (rd_T89 l (rd R (i : Int))).f2.f0 = p0 := e0
    replace c0 : rd R (p0 : Int) = (rd_T89 l (rd R (i : Int))).f2.f0 := c0
    rw [e0] at hg3
    obtain ⟨y, hy⟩ : ∃ y, y = gT l x5 (rd R (i : Int)) := ⟨_, rfl⟩
    rw [← hy] at hg3 hL
    obtain ⟨a0, b0, k0, d0⟩ := hB p0 l0
    rw [c0] at d0
    refine ⟨o.set i (rd b (p0 : Int)), ⟨by rw [List.length_set]; exact ol, ?_⟩, ?_⟩
    · intro j hj hgj
      by_cases hji : j = i
      · subst hji
        rw [here]
        refine ⟨a0, by omega, k0 + 1, ?_⟩
        rw [cnt_succ, if_neg (by omega), if_pos hx, show n + 1 - 1 = n by omega]
        exact d0
      · exact other _ (rd b (p0 : Int)) (Or.inl rfl) j hj hji hgj
    · intro v hv
      refine Ev.step (fun k => rfl) (Ev.pos (by omega) (Ev.pos (by simp) (Ev.pos (by omega) (Ev.pos ?_ (Ev.pos (by simp) ?_)))))
      · change (i : Int) < ((R.map (gT l x5)).length : Int)
        rw [List.length_map]; omega
      have f0 : (rd_T89 (R.map (gT l x5)) (i : Int)).f2.f0 = (p0 : Int) := by rw [hL, hg3]
      refine Ev.pos (show (rd_T89 (R.map (gT l x5)) (i : Int)).f0 = 2 by rw [hL, hg3]; exact hx) (Ev.pos (show 0 ≤ (rd_T89 (R.map (gT l x5)) (i : Int)).f2.f0 by rw [f0]; omega) (Ev.pos (show (rd_T89 (R.map (gT l x5)) (i : Int)).f2.f0 < b.length by rw [f0]; omega) ?_))
      change Ev (fun k => spec_l06Level.l2 k [⟨R.map (gT l x5)⟩] b most (o.set ((i : Int)).toNat (rd b (rd_T89 (R.map (gT l x5)) (i : Int)).f2.f0)) (r : Int) (wrap64 ((i : Int) + 1))) v
      rw [f0, wnext i (by omega), Int.toNat_natCast]
      exact hv
end Go.Proofs.Ytpfnohdnaocpdaa.Pure

/- Productive trees, in the reference's text, as rounds of steps. Plain Lean over the printed functions. -/
import Derived.Test.YtpfnohdnaocpdaaPTx3
import Derived.Test.YtpfnohdnaocpdaaPureReachC
import Derived.Test.YtpfnohdnaocpdaaPTprod
namespace Go.Proofs.Ytpfnohdnaocpdaa.Pure
open Go.RowKit Go.Proofs.Ytpfnohdnaocpdaa.PT Go.Proofs.YtpfnohdnaocpdaaW.PrintWords Go.Proofs.YtpfnohdnaocpdaaW.PrintLast Go.Proofs.YtpfnohdnaocpdaaW.PrintMore Go.Proofs.YtpfnohdnaocpdaaRP
set_option linter.unusedVariables false
set_option linter.unusedSimpArgs false
def gstep (l : List S89) (R : List Int) (g : List Bool) (i : Nat) : List Bool := g.set (rd R (i : Int)).toNat (nodeB (rd_T89 l (rd R (i : Int))) g)
def gp (l : List S89) (R : List Int) : Nat → Nat → List Bool → List Bool
  | 0, _, g => g
  | d + 1, i, g => gp l R d (i + 1) (gstep l R g i)
def gr (l : List S89) (R : List Int) : Nat → List Bool → List Bool
  | 0, g => g
  | t + 1, g => gr l R t (gp l R R.length 0 g)
theorem gp_len (l : List S89) (R : List Int) : ∀ (d i : Nat) (g : List Bool), (gp l R d i g).length = g.length := by
  intro d
  induction d with
  | zero => intro i g; rfl
  | succ d ih => intro i g; rw [gp, ih, gstep, List.length_set]
theorem gr_len (l : List S89) (R : List Int) : ∀ (d : Nat) (g : List Bool), (gr l R d g).length = g.length := by
  intro d
  induction d with
  | zero => intro g; rfl
  | succ d ih => intro g; rw [gr, ih, gp_len]
theorem drop_I (l : List Int) (i : Nat) (h : i < l.length) : l.drop i = rd l (i : Int) :: l.drop (i + 1) := by
  rw [List.drop_eq_getElem_cons h, rd_at l i h]
theorem sprod_l1 (l : List S89) (hk : okT l = true) (hl : l.length ≤ 60) (R : List Int) (s : List Bool) (hI : Inv l.length R s) (t : Nat) (ht : t ≤ 60) (d : Nat) : ∀ (i : Nat) (g : List Bool), i + d = R.length → g.length = l.length → ∀ v, Ev (fun k => spec_l06Productive.l0 k [⟨l⟩] R (gp l R d i g) ((t + 1 : Nat) : Int)) v → Ev (fun k => spec_l06Productive.l1 k [⟨l⟩] R g (t : Int) (i : Int)) v := by
  have hle := hI.le
  induction d with
  | zero =>
    intro i g hi hg v hv
    refine Ev.step (fun k => rfl) (Ev.neg (by omega) ?_)
    rw [wnext t (by omega)]
    exact hv
  | succ d ih =>
    intro i g hi hg v hv
    have hr := hI.rng _ (rd_memI (show i < R.length by omega))
    obtain ⟨hkd, h0, h1, h2⟩ := okT_rd hk _ hr.1 hr.2
    have key : Ev (fun k => spec_l06Productive.l1 k [⟨l⟩] R (g.set (rd R (i : Int)).toNat (nodeB (rd_T89 l (rd R (i : Int))) g)) (t : Int) (wrap64 ((i : Int) + 1))) v := by
      rw [wnext i (by omega)]
      exact ih (i + 1) (gstep l R g i) (by omega) (by rw [gstep, List.length_set]; exact hg) v hv
    refine Ev.step (fun k => rfl) (Ev.pos (by omega) (Ev.pos (by simp) (Ev.pos (by omega) (Ev.pos hr.1 (Ev.pos hr.2 ?_)))))
    change Ev (fun k => spec_l06Productive.l2 k [⟨l⟩] R g (t : Int) (i : Int) [rd_T89 l (rd R (i : Int))] true 0) v
    generalize rd_T89 l (rd R (i : Int)) = x at hkd h0 h1 h2 key ⊢
    rcases hkd with hx | hx
    · refine Ev.step (fun k => prod_l2_s k l R g t i x true hx 0 x.f2.f0 (by omega) (by omega) rfl h0.1 (by omega)) ?_
      rw [show wrap64 (0 + 1) = 1 by unfold wrap64; omega]
      refine Ev.step (fun k => prod_l2_s k l R g t i x _ hx 1 x.f2.f1 (by omega) (by omega) rfl h1.1 (by omega)) ?_
      rw [show wrap64 (1 + 1) = 2 by unfold wrap64; omega]
      refine Ev.step (fun k => prod_l2_s k l R g t i x _ hx 2 x.f2.f2 (by omega) (by omega) rfl h2.1 (by omega)) ?_
      rw [show wrap64 (2 + 1) = 3 by unfold wrap64; omega]
      refine Ev.step (fun k => prod_l2_3 k l R g t i x _) (Ev.pos (by omega) (Ev.pos (by omega) (Ev.pos hr.1 (Ev.pos (by have := hr.2; omega) ?_))))
      rw [← nodeB_1 x g hx]
      exact key
    · refine Ev.step (fun k => prod_l2_2 k l R g t i x true (by omega)) (Ev.pos (by omega) (Ev.pos (by omega) (Ev.pos hr.1 (Ev.pos (by have := hr.2; omega) ?_))))
      rw [← nodeB_2 x g hx]
      exact key
theorem sprod_l0 (l : List S89) (hk : okT l = true) (hl : l.length ≤ 60) (R : List Int) (s : List Bool) (hI : Inv l.length R s) (d : Nat) : ∀ (t : Nat) (g : List Bool), t + d = R.length → g.length = l.length → ∀ v, Ev (fun k => spec_l06Productive.l3 k R (gr l R d g) 0) v → Ev (fun k => spec_l06Productive.l0 k [⟨l⟩] R g (t : Int)) v := by
  have hle := hI.le
  induction d with
  | zero =>
    intro t g ht hg v hv
    exact Ev.step (fun k => rfl) (Ev.neg (by omega) hv)
  | succ d ih =>
    intro t g ht hg v hv
    refine Ev.step (fun k => rfl) (Ev.pos (by omega) ?_)
    exact sprod_l1 l hk hl R s hI t (by omega) R.length 0 g (by omega) hg v (ih (t + 1) _ (by omega) (by rw [gp_len]; exact hg) v hv)
theorem sprod_l3 (l : List S89) (hk : okT l = true) (hl : l.length ≤ 60) (R : List Int) (s : List Bool) (hI : Inv l.length R s) (g : List Bool) (hg : g.length = l.length) (d : Nat) : ∀ i : Nat, i + d = R.length → Ev (fun k => spec_l06Productive.l3 k R g (i : Int)) ((R.drop i).all fun n => rdOf false g n) := by
  have hle := hI.le
  induction d with
  | zero =>
    intro i hi
    refine Ev.step (fun k => rfl) (Ev.neg (by omega) (Ev.to (Ev.now _) ?_))
    rw [List.drop_of_length_le (by omega)]; rfl
  | succ d ih =>
    intro i hi
    have hr := hI.rng _ (rd_memI (show i < R.length by omega))
    rw [drop_I R i (by omega), List.all_cons]
    refine Ev.step (fun k => rfl) (Ev.pos (by omega) (Ev.pos (by omega) (Ev.pos hr.1 (Ev.pos (by rw [hg]; exact hr.2) ?_))))
    by_cases c : rdOf false g (rd R (i : Int)) = true
    · refine Ev.pos c ?_
      rw [wnext i (by omega), c, Bool.true_and]
      exact ih (i + 1) (by omega)
    · refine Ev.neg c (Ev.to (Ev.now _) ?_)
      rw [Bool.eq_false_iff.mpr c, Bool.false_and]
def marksG (l : List S89) (R : List Int) : List Bool := gr l R R.length (List.replicate l.length false)
def prodB (l : List S89) (R : List Int) : Bool := R.all fun n => rdOf false (marksG l R) n
theorem sprod_ev (l : List S89) (hk : okT l = true) (hl : l.length ≤ 60) (R : List Int) (s : List Bool) (hI : Inv l.length R s) (hR : Ev (fun k => spec_l06Reached.f k [⟨l⟩]) R) : Ev (fun k => spec_l06Productive.f k [⟨l⟩]) (prodB l R) := by
  have e : (fun k => spec_l06Productive.f k [⟨l⟩]) = fun k => (spec_l06Reached.f k [⟨l⟩]).bind fun R => if l.length ≤ 281474976710656 then spec_l06Productive.l0 k [⟨l⟩] R (List.replicate l.length false) 0 else none := by
    funext k; exact prod_f k l
  rw [e]
  refine Ev.bind hR (Ev.pos (by omega) ?_)
  refine sprod_l0 l hk hl R s hI R.length 0 _ (by omega) (by simp) _ ?_
  exact sprod_l3 l hk hl R s hI _ (by rw [gr_len]; simp) R.length 0 (by omega)
theorem iprod_ev (l : List S89) (hk : okT l = true) (hl : l.length ≤ 60) (R : List Int) (s : List Bool) (hI : Inv l.length R s) (hR : Ev (fun k => spec_l06Reached.f k [⟨l⟩]) R) : Ev (fun k => impl_productive.f k l) (prodB l R) := by
  have e : (fun k => impl_productive.f k l) = fun k => spec_l06Productive.f k [⟨l⟩] := by funext k; unfold impl_productive.f; rw [if_pos hk]
  rw [e]
  exact sprod_ev l hk hl R s hI hR
end Go.Proofs.Ytpfnohdnaocpdaa.Pure

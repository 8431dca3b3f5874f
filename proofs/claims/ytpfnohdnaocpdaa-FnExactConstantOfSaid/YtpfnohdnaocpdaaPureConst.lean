/- The stream that a tree tells by itself, in both texts. Plain Lean over the printed functions. -/
import Derived.Test.YtpfnohdnaocpdaaPTx13
import Derived.Test.YtpfnohdnaocpdaaPTx8
import Derived.Test.YtpfnohdnaocpdaaPureReach
import Derived.Test.YtpfnohdnaocpdaaPureNormal
namespace Go.Proofs.Ytpfnohdnaocpdaa.Pure
open Go.RowKit Go.Proofs.Ytpfnohdnaocpdaa.PT Go.Proofs.YtpfnohdnaocpdaaW.PrintWords Go.Proofs.YtpfnohdnaocpdaaW.PrintLast Go.Proofs.YtpfnohdnaocpdaaW.PrintMore Go.Proofs.YtpfnohdnaocpdaaRP
set_option linter.unusedVariables false
set_option linter.unusedSimpArgs false
/-- The digits of nodes. -/
def dg (l : List S89) (c : List Int) : List Int := c.map fun a => (rd_T89 l a).f1
theorem dg_len (l : List S89) (c : List Int) : (dg l c).length = c.length := by simp [dg]
theorem dg_push (l : List S89) (c : List Int) (a : Int) : dg l (c ++ [a]) = dg l c ++ [(rd_T89 l a).f1] := by simp [dg]
theorem index_loop (c : List Int) (a : Int) (h : c.length ≤ 60) (d : Nat) : ∀ i : Nat, i + d = c.length → (∃ x : Nat, x < c.length ∧ rd c (x : Int) = a ∧ Ev (fun k => slices_Index_int16_int16.l0 k c a (c.length : Int) (i : Int)) (x : Int)) ∨ (a ∉ c.drop i ∧ Ev (fun k => slices_Index_int16_int16.l0 k c a (c.length : Int) (i : Int)) (-1)) := by
  induction d with
  | zero =>
    intro i hi
    refine .inr ⟨by rw [List.drop_of_length_le (by omega)]; simp, Ev.step (fun k => rfl) (Ev.neg (by omega) (Ev.now _))⟩
  | succ d ih =>
    intro i hi
    by_cases c0 : a = rd c (i : Int)
    · exact .inl ⟨i, by omega, c0.symm, Ev.step (fun k => rfl) (Ev.pos (by omega) (Ev.pos (by omega) (Ev.pos (by omega) (Ev.pos c0 (Ev.now _)))))⟩
    · have nx : ∀ v, Ev (fun k => slices_Index_int16_int16.l0 k c a (c.length : Int) ((i + 1 : Nat) : Int)) v → Ev (fun k => slices_Index_int16_int16.l0 k c a (c.length : Int) (i : Int)) v := by
        intro v hv
        refine Ev.step (fun k => rfl) (Ev.pos (by omega) (Ev.pos (by omega) (Ev.pos (by omega) (Ev.neg c0 ?_))))
        rw [wnext i (by omega)]
        exact hv
      rcases ih (i + 1) (by omega) with ⟨x, x1, x2, x3⟩ | ⟨x1, x2⟩
      · exact .inl ⟨x, x1, x2, nx _ x3⟩
      · refine .inr ⟨?_, nx _ x2⟩
        rw [dropI c i (by omega)]
        intro z
        rcases List.mem_cons.1 z with z | z
        · exact c0 z
        · exact x1 z
theorem index_ev (c : List Int) (a : Int) (h : c.length ≤ 60) : (a ∈ c → ∃ x : Nat, x < c.length ∧ rd c (x : Int) = a ∧ Ev (fun k => slices_Index_int16_int16.f k c a) (x : Int)) ∧ (a ∉ c → Ev (fun k => slices_Index_int16_int16.f k c a) (-1)) := by
  rcases index_loop c a h c.length 0 (by omega) with ⟨x, x1, x2, x3⟩ | ⟨x1, x2⟩
  · exact ⟨fun _ => ⟨x, x1, x2, x3⟩, fun z => absurd (x2 ▸ rd_memI x1) z⟩
  · rw [List.drop_zero] at x1
    exact ⟨fun z => absurd z x1, fun _ => x2⟩
/-- What is told behind the shortest form. -/
def cfin (q : List Int × List Int) : List Int × List Int × Int := if okS q.1 q.2 = true then (q.1, q.2, 0) else ([], [], 3)
theorem fin_ev (h L : List Int) (hL : 1 ≤ L.length) (hL' : L.length ≤ 60) (hh : h.length ≤ 60) : ∃ q : List Int × List Int, q.1.length ≤ 60 ∧ q.2.length ≤ 60 ∧
    Ev (fun k => (spec_l03Normal.f k h L).bind fun bt => (spec_l03Ok.f k [(⟨bt.1, bt.2⟩ : S36)]).bind fun t => if t = true then some (bt.1, bt.2, (0 : Int)) else some ([], [], 3)) (cfin q) ∧
    Ev (fun k => (impl_normal.f k h L).bind fun bt => (impl_ValidStream.f bt.1 bt.2).bind fun t => if t = true then some (bt.1, bt.2, (0 : Int)) else some ([], [], 3)) (cfin q) := by
  obtain ⟨q, q1, q2, qs, qi⟩ := normal_ev h L hL hL' hh
  have last : Ev (fun _ => if okS q.1 q.2 = true then some (q.1, q.2, (0 : Int)) else some ([], [], 3)) (cfin q) := by
    unfold cfin
    by_cases c : okS q.1 q.2 = true
    · exact Ev.to (Ev.pos c (Ev.now _)) (by rw [if_pos c])
    · exact Ev.to (Ev.neg c (Ev.now _)) (by rw [if_neg c])
  refine ⟨q, q1, q2, Ev.bind qs (Ev.bind (sok_ev q.1 q.2 (by omega) (by omega)) last), Ev.bind qi (Ev.bind (Ev.is (fun _ => ivalidS_eq q.1 q.2)) last)⟩
theorem reach_one (l : List S89) (hl : l.length ≤ 60) (x : S89) (hx : Wy l x) (i : Nat) (hi : i ≤ 60) (hk : ¬ x.f0 = 1) (out : List Int) (seen : List Bool) (hI : Inv l.length out seen) :
    (x.f2.f0 ∈ out → ∀ v, Ev (fun k => spec_l06Reached.l0 k [⟨l⟩] out seen ((i + 1 : Nat) : Int)) v → Ev (fun k => spec_l06Reached.l1 k [⟨l⟩] out seen (i : Int) [x] 0) v) ∧
    (x.f2.f0 ∉ out → ∀ v, Ev (fun k => spec_l06Reached.l0 k [⟨l⟩] (out ++ [x.f2.f0]) (seen.set x.f2.f0.toNat true) ((i + 1 : Nat) : Int)) v → Ev (fun k => spec_l06Reached.l1 k [⟨l⟩] out seen (i : Int) [x] 0) v) := by
  have w1 : spec_l06Ways.f [x] = some 1 := by rw [ways_eq, if_neg hk]
  have last : ∀ o s v, Ev (fun k => spec_l06Reached.l0 k [⟨l⟩] o s ((i + 1 : Nat) : Int)) v → Ev (fun k => spec_l06Reached.l1 k [⟨l⟩] o s (i : Int) [x] (wrap64 (0 + 1))) v := by
    intro o s v hv
    refine Ev.step (fun k => rfl) (Ev.bind (Ev.is (fun _ => w1)) (Ev.neg (by unfold wrap64; omega) ?_))
    rw [wnext i (by omega)]
    exact hv
  have h0 := hx 0 (by omega)
  have h0' : 0 ≤ x.f2.f0 ∧ x.f2.f0 < (l.length : Int) := h0
  have le := hI.le
  constructor
  · intro c v hv
    exact Ev.step (fun k => rfl) (Ev.bind (Ev.is (fun _ => w1)) (Ev.pos (by omega) (Ev.pos (by simp) (Ev.pos (by omega) (Ev.pos (by omega) (Ev.pos h0.1 (Ev.pos (by rw [hI.len]; exact h0.2) (Ev.pos ((hI.iff _ h0.1 h0.2).2 c) (last _ _ _ hv)))))))))
  · intro c v hv
    exact Ev.step (fun k => rfl) (Ev.bind (Ev.is (fun _ => w1)) (Ev.pos (by omega) (Ev.pos (by simp) (Ev.pos (by omega) (Ev.pos (by omega) (Ev.pos h0.1 (Ev.pos (by rw [hI.len]; exact h0.2) (Ev.neg (fun z => c ((hI.iff _ h0'.1 h0'.2).1 z)) (Ev.pos (by omega) (last _ _ _ hv))))))))))
theorem chain (l : List S89) (hw : ∀ x ∈ l, Rg x) (hv : validT l = true) (d : Nat) : ∀ (c : List Int) (a : Int) (seen : List Bool), l.length - c.length = d → Inv l.length (c ++ [a]) seen → (∀ y ∈ c, ¬ (rd_T89 l y).f0 = 1) →
    (∃ (r : List Int) (x : Nat) (seen' : List Bool), Inv l.length r seen' ∧ x < r.length ∧ (∀ y ∈ r, ¬ (rd_T89 l y).f0 = 1) ∧ (rd_T89 l (rd r ((r.length - 1 : Nat) : Int))).f2.f0 = rd r (x : Int) ∧ Ev (fun k => spec_l06Reached.l0 k [⟨l⟩] (c ++ [a]) seen (c.length : Int)) r ∧
      ∀ v, Ev (fun k => (impl_normal.f k ((dg l r).take x) ((dg l r).drop x)).bind fun bt => (impl_ValidStream.f bt.1 bt.2).bind fun t => if t = true then some (bt.1, bt.2, (0 : Int)) else some ([], [], 3)) v → Ev (fun k => impl_ConstantOf.l0 k c (dg l c) a l) v) ∨
    (∃ (r : List Int) (x : Nat) (seen' : List Bool), Inv l.length r seen' ∧ x < r.length ∧ (rd_T89 l (rd r (x : Int))).f0 = 1 ∧ (∀ j : Nat, j < x → ¬ (rd_T89 l (rd r (j : Int))).f0 = 1) ∧ Ev (fun k => spec_l06Reached.l0 k [⟨l⟩] (c ++ [a]) seen (c.length : Int)) r ∧ Ev (fun k => impl_ConstantOf.l0 k c (dg l c) a l) ([], [], 4)) := by
  have hl := (validT_iff.1 hv).2.1
  induction d with
  | zero =>
    intro c a seen hd hI hc
    have := hI.le
    rw [List.length_append, List.length_singleton] at this
    omega
  | succ d ih =>
    intro c a seen hd hI hc
    have le := hI.le
    rw [List.length_append, List.length_singleton] at le
    have ha := hI.rng a (by simp)
    have hn : a ∉ c := by
      intro z
      obtain ⟨i, hi, e⟩ := List.mem_iff_getElem.1 z
      refine hI.dup i c.length hi (by simp) ?_
      rw [rd_left _ _ i hi, rd_mid, rd_at c i hi, e]
    have hx := Wy.of hw hv ha.1 ha.2
    have ix := (index_ev c a (by omega)).2 hn
    have st : ∀ v, Ev (fun k => spec_l06Reached.l1 k [⟨l⟩] (c ++ [a]) seen (c.length : Int) [rd_T89 l a] 0) v → Ev (fun k => spec_l06Reached.l0 k [⟨l⟩] (c ++ [a]) seen (c.length : Int)) v := by
      intro v hv
      have e : rd (c ++ [a]) (c.length : Int) = a := rd_mid c a []
      refine Ev.step (fun k => rfl) (Ev.pos (by rw [List.length_append, List.length_singleton]; omega) (Ev.pos (by simp) (Ev.pos (by omega) (Ev.pos (by rw [e]; exact ha.1) (Ev.pos (by rw [e]; exact ha.2) ?_)))))
      rw [e]
      exact hv
    by_cases k1 : (rd_T89 l a).f0 = 1
    · right
      obtain ⟨r, seen', p1, p2, p3⟩ := reach_l0 l hw hv (l.length - c.length) c.length rfl _ _ hI (by simp)
      obtain ⟨t, rfl⟩ := p1
      refine ⟨_, c.length, seen', p2, by rw [List.length_append, List.length_append, List.length_singleton]; omega, ?_, ?_, p3, ?_⟩
      · rw [rd_left _ _ c.length (by simp), rd_mid]; exact k1
      · intro j hj
        rw [rd_left _ _ j (by simp; omega), rd_left _ _ j hj]
        exact hc _ (rd_memI hj)
      · exact Ev.step (fun k => rfl) (Ev.bind ix (Ev.neg (by omega) (Ev.pos ha.1 (Ev.pos ha.2 (Ev.pos k1 (Ev.now _))))))
    · have hc' : ∀ y ∈ c ++ [a], ¬ (rd_T89 l y).f0 = 1 := by
        intro y hy
        rcases List.mem_append.1 hy with hy | hy
        · exact hc y hy
        · rw [List.mem_singleton] at hy; subst hy; exact k1
      have im : ∀ v, Ev (fun k => impl_ConstantOf.l0 k (c ++ [a]) (dg l (c ++ [a])) ((rd_T89 l a).f2.f0) l) v → Ev (fun k => impl_ConstantOf.l0 k c (dg l c) a l) v := by
        intro v hv
        rw [dg_push] at hv
        refine Ev.step (fun k => rfl) (Ev.bind ix (Ev.neg (by omega) (Ev.pos ha.1 (Ev.pos ha.2 (Ev.neg k1 ?_)))))
        simp only [Option.bind_some, List.length_singleton, dg_len]
        exact Ev.pos (by omega) (Ev.pos (by omega) hv)
      have h0 : 0 ≤ (rd_T89 l a).f2.f0 ∧ (rd_T89 l a).f2.f0 < (l.length : Int) := hx 0 (by omega)
      obtain ⟨one, two⟩ := reach_one l hl _ hx c.length (by omega) k1 _ seen hI
      by_cases m : (rd_T89 l a).f2.f0 ∈ c ++ [a]
      · left
        obtain ⟨x, x1, x2, x3⟩ := (index_ev (c ++ [a]) _ (by simp; omega)).1 m
        refine ⟨c ++ [a], x, seen, hI, x1, hc', ?_, st _ (one m _ ?_), fun v hv => im v ?_⟩
        · rw [show (c ++ [a]).length - 1 = c.length by simp, rd_mid, x2]
        · exact Ev.step (fun k => rfl) (Ev.neg (by simp) (Ev.now _))
        · exact Ev.step (fun k => rfl) (Ev.bind x3 (Ev.pos (by omega) (Ev.pos (by omega) (Ev.pos (by rw [dg_len]; omega) hv))))
      · have e : ((c.length + 1 : Nat) : Int) = (((c ++ [a]).length : Nat) : Int) := by simp
        rcases ih (c ++ [a]) _ _ (by simp; omega) (hI.push h0.1 h0.2 m) hc' with ⟨r, x, s2, r1, r2, r3, r4, r5, r6⟩ | ⟨r, x, s2, r1, r2, r3, r4, r5, r6⟩
        · rw [← e] at r5
          exact .inl ⟨r, x, s2, r1, r2, r3, r4, st _ (two m _ r5), fun v hv => im v (r6 v hv)⟩
        · rw [← e] at r5
          exact .inr ⟨r, x, s2, r1, r2, r3, r4, st _ (two m _ r5), im _ r6⟩
end Go.Proofs.Ytpfnohdnaocpdaa.Pure

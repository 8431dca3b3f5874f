/- The pair for which a pair stands, and joining a pair: the reference's functions. Plain Lean. -/
import Derived.Test.YtpfnohdnaocpdaaPTx4
import Derived.Test.YtpfnohdnaocpdaaPurePairs
import Derived.Test.YtpfnohdnaocpdaaPTclo
namespace Go.Proofs.Ytpfnohdnaocpdaa.Pure
open Go.RowKit Go.Proofs.Ytpfnohdnaocpdaa.PT Go.Proofs.YtpfnohdnaocpdaaW.PrintWords Go.Proofs.YtpfnohdnaocpdaaW.PrintLast Go.Proofs.YtpfnohdnaocpdaaW.PrintMore Go.Proofs.YtpfnohdnaocpdaaRP
set_option linter.unusedVariables false
set_option linter.unusedSimpArgs false
theorem loud_l0 (k : Nat) (l m : List S89) (n : Nat) (a b : Int) (hi : InR l m a b) (hd : -1 ≤ (rd_T89 m b).f1 ∧ (rd_T89 m b).f1 ≤ 1) (hN : l.length * m.length ≤ 3600) (hn : n ≤ 3601) : spec_l06Loud.l0 (k + 1) [⟨l⟩] [⟨m⟩] (n : Int) a b = if n ≤ l.length * m.length then (if (rd_T89 l a).f0 = 2 ∨ (rd_T89 m b).f0 = 1 then some (a, b, true) else spec_l06Loud.l0 k [⟨l⟩] [⟨m⟩] ((n + 1 : Nat) : Int) (way3 (rd_T89 l a) (rd_T89 m b).f1) (rd_T89 m b).f2.f0) else some (a, b, false) := by
  obtain ⟨i0, i1, i2, i3⟩ := hi
  have e : rd_T34 [⟨l⟩] 0 = (⟨l⟩ : S34) := rfl
  have e' : rd_T34 [⟨m⟩] 0 = (⟨m⟩ : S34) := rfl
  have hw : wrap64 ((l.length : Int) * (m.length : Int)) = ((l.length * m.length : Nat) : Int) := by
    rw [← Int.natCast_mul]
    unfold wrap64
    omega
  have hw2 : wrap64 ((n : Int) + 1) = ((n + 1 : Nat) : Int) := by unfold wrap64; omega
  have h8 : IntKind.i8.wrap ((rd_T89 m b).f1 + 1) = (rd_T89 m b).f1 + 1 := IntWalk.i8_in _ (by omega)
  simp only [spec_l06Loud.l0, e, e', hw, hw2, h8]
  rw [if_pos (show (0 : Int) < (([⟨l⟩] : List S34).length : Int) by simp), if_pos (show (0 : Int) < (([⟨m⟩] : List S34).length : Int) by simp)]
  by_cases c : n ≤ l.length * m.length
  · rw [if_pos (show ((n : Nat) : Int) ≤ ((l.length * m.length : Nat) : Int) by omega), if_pos c, if_pos i0, if_pos i1, if_pos i2, if_pos i3]
    rw [if_pos (show (0 : Int) < (([rd_T89 l a] : List S89).length : Int) by simp)]
    by_cases c1 : (rd_T89 l a).f0 = 2
    · rw [if_pos c1, if_pos (Or.inl c1)]
    · rw [if_neg c1, if_pos (show (0 : Int) < (([rd_T89 m b] : List S89).length : Int) by simp)]
      by_cases c2 : (rd_T89 m b).f0 = 1
      · rw [if_pos c2, if_pos (Or.inr c2)]
      · rw [if_neg c2, if_pos (show 0 ≤ (rd_T89 m b).f1 + 1 by omega), if_pos (show (rd_T89 m b).f1 + 1 < 3 by omega), if_neg (show ¬ ((rd_T89 l a).f0 = 2 ∨ (rd_T89 m b).f0 = 1) from by rintro (h | h); exact c1 h; exact c2 h)]
        rfl
  · rw [if_neg (show ¬ ((n : Nat) : Int) ≤ ((l.length * m.length : Nat) : Int) by omega), if_neg c]
theorem loud_ev {l m : List S89} (hk : okT l = true) (hm : okT m = true) (hd : digT m) (hl : l.length ≤ 60) (hlm : m.length ≤ 60) (d : Nat) : ∀ (n : Nat) (a b : Int), n + d = nsN l m → InR l m a b → Ev (fun k => spec_l06Loud.l0 k [⟨l⟩] [⟨m⟩] (n : Int) a b) ((standsN l m d a b).1.f0, (standsN l m d a b).1.f1, (standsN l m d a b).2) := by
  have hN : l.length * m.length ≤ 3600 := Nat.mul_le_mul hl hlm
  induction d with
  | zero =>
    intro n a b hn hi
    have hdb := hd b hi.2.2.1 hi.2.2.2
    refine Ev.step (fun k => loud_l0 k l m n a b hi hdb hN (by unfold nsN at hn; omega)) ?_
    exact Ev.neg (by unfold nsN at hn; omega) (Ev.now _)
  | succ d ih =>
    intro n a b hn hi
    have hdb := hd b hi.2.2.1 hi.2.2.2
    refine Ev.step (fun k => loud_l0 k l m n a b hi hdb hN (by unfold nsN at hn; omega)) ?_
    refine Ev.pos (by unfold nsN at hn; omega) ?_
    rw [standsN_succ]
    by_cases c : (rd_T89 l a).f0 = 2 ∨ (rd_T89 m b).f0 = 1
    · rw [if_pos c]
      exact Ev.pos c (Ev.now _)
    · rw [if_neg c]
      obtain ⟨i0, i1, i2, i3⟩ := hi
      have hw := way3_in hk a i0 i1 _ hdb
      obtain ⟨_, g0, _⟩ := okT_rd hm b i2 i3
      exact Ev.neg c (ih (n + 1) _ _ (by omega) ⟨hw.1, hw.2, g0.1, g0.2⟩)
theorem join_l0 (xs : List S98) (p : S98) (hl : xs.length ≤ 4000) (d : Nat) : ∀ i : Nat, i + d = xs.length → i ≤ ixP xs p → Ev (fun k => spec_l06Join.l0 k xs (i : Int) p.f0 p.f1) (fndL xs p, (ixP xs p : Int), 0) := by
  induction d with
  | zero =>
    intro i hi hx
    have hix : ixP xs p = xs.length := by have := ixP_le xs p; omega
    have hf : fndL xs p = xs ++ [p] := if_neg (by omega)
    refine Ev.step (fun k => rfl) ?_
    simp only [spec_l06Join.l0]
    refine Ev.neg (by omega) (Ev.pos (by omega) (Ev.to (Ev.now _) ?_))
    rw [hf, hix, IntWalk.i16_in _ (by omega)]
  | succ d ih =>
    intro i hi hx
    refine Ev.step (fun k => rfl) ?_
    simp only [spec_l06Join.l0]
    refine Ev.pos (by omega) (Ev.pos (by omega) ?_)
    by_cases c : eqP (rd_T98 xs (i : Int)) p = true
    · have hix := ixP_hit (by omega) hx c
      have hf : fndL xs p = xs := if_pos (by omega)
      refine Ev.pos c (Ev.to (Ev.now _) ?_)
      rw [hf, hix, IntWalk.i16_in _ (by omega)]
    · refine Ev.neg c ?_
      rw [wnext i (by omega)]
      exact ih (i + 1) (by omega) (ixP_miss (by omega) hx c)
def joinR (xs : List S98) (s : S98 × Bool) : List S98 × Int × Int := if s.2 = true then (fndL xs s.1, (ixP xs s.1 : Int), 0) else (xs, -1, 4)
theorem join_ev {l m : List S89} (hk : okT l = true) (hm : okT m = true) (hd : digT m) (hl : l.length ≤ 60) (hlm : m.length ≤ 60) (xs : List S98) (hx : xs.length ≤ 4000) (a b : Int) (hi : InR l m a b) : Ev (fun k => spec_l06Join.f k [⟨l⟩] [⟨m⟩] xs a b) (joinR xs (st l m a b)) := by
  unfold spec_l06Join.f spec_l06Loud.f
  refine Ev.bind (loud_ev hk hm hd hl hlm (nsN l m) 0 a b (by omega) hi) ?_
  show Ev (fun n => if (st l m a b).2 = true then spec_l06Join.l0 n xs 0 (st l m a b).1.f0 (st l m a b).1.f1 else some (xs, -1, 4)) (joinR xs (st l m a b))
  unfold joinR
  by_cases c : (st l m a b).2 = true
  · rw [if_pos c]
    exact Ev.pos c (join_l0 xs _ hx xs.length 0 (by omega) (by omega))
  · rw [if_neg c]
    exact Ev.neg c (Ev.now _)
end Go.Proofs.Ytpfnohdnaocpdaa.Pure

/- ComposeTrees: the program's answer is the reference's. Plain Lean over the printed functions. -/
import Derived.Test.YtpfnohdnaocpdaaPTx6
import Derived.Test.YtpfnohdnaocpdaaPTx5
import Derived.Test.YtpfnohdnaocpdaaPureLoud
import Derived.Test.YtpfnohdnaocpdaaPureValidT
import Derived.Test.YtpfnohdnaocpdaaPTcompA
namespace Go.Proofs.Ytpfnohdnaocpdaa.Pure
open Go.RowKit Go.Proofs.Ytpfnohdnaocpdaa.PT Go.Proofs.YtpfnohdnaocpdaaW.PrintWords Go.Proofs.YtpfnohdnaocpdaaW.PrintLast Go.Proofs.YtpfnohdnaocpdaaW.PrintMore Go.Proofs.YtpfnohdnaocpdaaRP
set_option linter.unusedVariables false
set_option linter.unusedSimpArgs false
theorem waysC (x : S89) : spec_l06Ways.f [x] = some (if x.f0 = 1 then 3 else 1) := by
  have e : rd_T89 [x] 0 = x := rfl
  unfold spec_l06Ways.f
  rw [e, if_pos (by simp)]
  split <;> rfl
theorem cl0_bad (l m ns : List S89) (xs : List S98) (i : Int) : Ev (fun k => spec_ComposeTrees.l0 k xs 4 i l m ns) ([], 4) := by
  have h : Ev (fun k => spec_ComposeTrees.j2 k xs 4 i false l m ns) ([], 4) := by
    refine Ev.step (fun k => rfl) ?_
    simp only [spec_ComposeTrees.j2]
    exact Ev.neg (by decide) (Ev.neg (by decide) (Ev.now _))
  refine Ev.step (fun k => rfl) ?_
  simp only [spec_ComposeTrees.l0]
  by_cases c : i < (xs.length : Int)
  · exact Ev.pos c h
  · exact Ev.neg c h
theorem cl0_out (l m ns : List S89) (xs : List S98) (i : Int) (hi : ¬ i < (xs.length : Int)) : Ev (fun k => spec_ComposeTrees.l0 k xs 0 i l m ns) (fin (ns, true)) := by
  refine Ev.step (fun k => rfl) ?_
  simp only [spec_ComposeTrees.l0]
  refine Ev.neg hi (Ev.step (fun k => rfl) ?_)
  simp only [spec_ComposeTrees.j2]
  refine Ev.neg (by decide) (Ev.pos (by first | rfl | trivial) ?_)
  by_cases c : 60 < ns.length
  · exact Ev.pos (by omega) (Ev.to (Ev.now _) (by simp [fin, c]))
  · exact Ev.neg (by omega) (Ev.to (Ev.now _) (by simp [fin, c]))
theorem cl0_in (l m ns : List S89) (xs : List S98) (i : Nat) (hi : i < xs.length) (h0 : 0 ≤ (rd_T98 xs (i : Int)).f0) (h1 : (rd_T98 xs (i : Int)).f0 < (l.length : Int)) (r : List S89 × Int)
    (h : Ev (fun k => spec_ComposeTrees.l1 k xs 0 (i : Int) [rd_T89 l (rd_T98 xs (i : Int)).f0] 0 l m ns (rd_T98 xs (i : Int)).f0 (rd_T98 xs (i : Int)).f1 (rd_T89 l (rd_T98 xs (i : Int)).f0).f0 (rd_T89 l (rd_T98 xs (i : Int)).f0).f1 0 0 0) r) : Ev (fun k => spec_ComposeTrees.l0 k xs 0 (i : Int) l m ns) r := by
  refine Ev.step (fun k => rfl) ?_
  simp only [spec_ComposeTrees.l0]
  refine Ev.pos (by omega) (Ev.step (fun k => rfl) ?_)
  simp only [spec_ComposeTrees.j2]
  exact Ev.pos (by decide) (Ev.pos (by omega) (Ev.pos (by omega) (Ev.pos h0 (Ev.pos h1 (Ev.pos (by simp) h)))))
theorem cl1_push (l m ns : List S89) (xs : List S98) (c i : Int) (x : S89) (j a b n0 n1 n2 n3 n4 : Int) (hc : c ≠ 0 ∨ ¬ j < (if x.f0 = 1 then 3 else 1)) (hn : ns.length ≤ 4000) (r : List S89 × Int)
    (h : Ev (fun k => spec_ComposeTrees.l0 k xs c (wrap64 (i + 1)) l m (ns ++ [⟨n0, n1, ⟨n2, n3, n4⟩⟩])) r) : Ev (fun k => spec_ComposeTrees.l1 k xs c i [x] j l m ns a b n0 n1 n2 n3 n4) r := by
  have h2 : Ev (fun k => spec_ComposeTrees.j4 k xs c i [x] j false l m ns a b n0 n1 n2 n3 n4) r := by
    refine Ev.step (fun k => rfl) ?_
    simp only [spec_ComposeTrees.j4]
    exact Ev.neg (by decide) (Ev.pos (by omega) h)
  refine Ev.step (fun k => rfl) ?_
  simp only [spec_ComposeTrees.l1, waysC, Option.bind_some]
  by_cases cj : j < (if x.f0 = 1 then 3 else 1)
  · have hc0 : (c == 0) = false := by
      rcases hc with hc | hc
      · exact beq_eq_false_iff_ne.2 hc
      · exact absurd cj hc
    refine Ev.pos cj ?_
    rw [hc0]
    exact h2
  · exact Ev.neg cj h2
theorem cl1_ask {l m : List S89} (hk : okT l = true) (hm : okT m = true) (hd : digT m) (hl : l.length ≤ 60) (hlm : m.length ≤ 60) (ns : List S89) (xs : List S98) (hxl : xs.length ≤ 4000) (i : Int) (x : S89) (hx : x.f0 = 1) (j : Nat) (hj : j < 3) (J J' : Int) (hJ : J = (j : Int)) (hJ' : J' = ((j + 1 : Nat) : Int)) (a b n0 n1 n2 n3 n4 : Int) (hb : 0 ≤ b ∧ b < (m.length : Int)) (hi : InR l m a (nx (rd_T89 m b) j)) (r : List S89 × Int)
    (h : Ev (fun k => spec_ComposeTrees.l1 k (joinR xs (st l m a (nx (rd_T89 m b) j))).1 (joinR xs (st l m a (nx (rd_T89 m b) j))).2.2 i [x] J' l m ns a b n0 n1 (up 0 J (joinR xs (st l m a (nx (rd_T89 m b) j))).2.1 n2) (up 1 J (joinR xs (st l m a (nx (rd_T89 m b) j))).2.1 n3) (up 2 J (joinR xs (st l m a (nx (rd_T89 m b) j))).2.1 n4)) r) : Ev (fun k => spec_ComposeTrees.l1 k xs 0 i [x] J l m ns a b n0 n1 n2 n3 n4) r := by
  subst hJ hJ'
  have e : rd_T89 [x] 0 = x := rfl
  have hr : rd [(rd_T89 m b).f2.f0, (rd_T89 m b).f2.f1, (rd_T89 m b).f2.f2] (j : Int) = nx (rd_T89 m b) j := by
    match j, hj with
    | 0, _ => rfl
    | 1, _ => rfl
    | 2, _ => rfl
  refine Ev.step (fun k => rfl) ?_
  simp only [spec_ComposeTrees.l1, waysC, Option.bind_some, hx, if_true]
  refine Ev.pos (by omega) (Ev.step (fun k => rfl) ?_)
  simp only [spec_ComposeTrees.j4, e, hr]
  refine Ev.pos (by decide) (Ev.pos (by simp) (Ev.pos hx (Ev.pos hb.1 (Ev.pos hb.2 (Ev.pos (by omega) (Ev.pos (by omega) (Ev.bind (join_ev hk hm hd hl hlm xs hxl a _ hi) ?_)))))))
  rw [wnext j (by omega)]
  exact h
theorem cl1_tell {l m : List S89} (hk : okT l = true) (hm : okT m = true) (hd : digT m) (hl : l.length ≤ 60) (hlm : m.length ≤ 60) (ns : List S89) (xs : List S98) (hxl : xs.length ≤ 4000) (i : Int) (x : S89) (hx : x.f0 = 2) (a b n0 n1 n2 n3 n4 : Int) (hi : InR l m x.f2.f0 b) (r : List S89 × Int)
    (h : Ev (fun k => spec_ComposeTrees.l1 k (joinR xs (st l m x.f2.f0 b)).1 (joinR xs (st l m x.f2.f0 b)).2.2 i [x] 1 l m ns a b n0 n1 (up 0 0 (joinR xs (st l m x.f2.f0 b)).2.1 n2) (up 1 0 (joinR xs (st l m x.f2.f0 b)).2.1 n3) (up 2 0 (joinR xs (st l m x.f2.f0 b)).2.1 n4)) r) : Ev (fun k => spec_ComposeTrees.l1 k xs 0 i [x] 0 l m ns a b n0 n1 n2 n3 n4) r := by
  have e : rd_T89 [x] 0 = x := rfl
  have e0 : wrap64 ((0 : Int) + 1) = 1 := by unfold wrap64; omega
  refine Ev.step (fun k => rfl) ?_
  simp only [spec_ComposeTrees.l1, waysC, Option.bind_some]
  rw [if_neg (show ¬ x.f0 = 1 by omega)]
  refine Ev.pos (by omega) (Ev.step (fun k => rfl) ?_)
  simp only [spec_ComposeTrees.j4, e, e0]
  exact Ev.pos (by decide) (Ev.pos (by simp) (Ev.neg (by omega) (Ev.bind (join_ev hk hm hd hl hlm xs hxl _ b hi) (Ev.pos (by omega) (Ev.pos (by omega) h)))))
theorem cmp_bad (l m : List S89) (xs : List S98) (ns : List S89) (i : Nat) : Ev (fun k => cmp l m k xs ns i false) (ns, false) := by
  refine Ev.step (fun k => rfl) ?_
  exact Ev.neg (by simp) (Ev.now _)
theorem joinR_t {xs : List S98} {s : S98 × Bool} (h : s.2 = true) : joinR xs s = (fndL xs s.1, (ixP xs s.1 : Int), 0) := if_pos h
theorem joinR_f {xs : List S98} {s : S98 × Bool} (h : ¬ s.2 = true) : joinR xs s = (xs, -1, 4) := if_neg h
theorem InP_of {l m : List S89} {p : S98} (h : InR l m p.f0 p.f1) : InP l.length m.length p := h
theorem fin_bad (z : List S89) : fin (z, false) = ([], 4) := rfl
theorem comp_ev {l m : List S89} (hk : okT l = true) (hm : okT m = true) (hdl : ∀ a : Int, 0 ≤ a → a < l.length → (rd_T89 l a).f0 = 1 → (rd_T89 l a).f1 = 0) (hd : digT m) (hl : l.length ≤ 60) (hlm : m.length ≤ 60) (d : Nat) : ∀ (i : Nat) (xs : List S98) (ns : List S89), i ≤ xs.length → Cov l.length m.length xs → ns.length = i → l.length * m.length - i = d → ∃ r, Ev (fun k => cmp l m k xs ns i true) r ∧ Ev (fun k => spec_ComposeTrees.l0 k xs 0 (i : Int) l m ns) (fin r) := by
  have hN : l.length * m.length ≤ 3600 := Nat.mul_le_mul hl hlm
  have stin : ∀ {a b : Int}, InR l m a b → InP l.length m.length (st l m a b).1 := fun {a b} h => standsN_in hk hm hd _ a b h
  induction d with
  | zero =>
    intro i xs ns hi hC hn hd0
    have hle := hC.le
    refine ⟨(ns, true), Ev.step (fun k => rfl) (Ev.neg (fun hh => by have := hh.1; omega) (Ev.now _)), cl0_out l m ns xs _ (by omega)⟩
  | succ d ih =>
    intro i xs ns hi hC hn hd0
    have hle := hC.le
    by_cases ci : i < xs.length
    case neg => exact ⟨(ns, true), Ev.step (fun k => rfl) (Ev.neg (fun hh => ci hh.1) (Ev.now _)), cl0_out l m ns xs _ (by omega)⟩
    have hl4 : ns.length ≤ 4000 := by omega
    have hd1 : l.length * m.length - (i + 1) = d := by omega
    have hxl : xs.length ≤ 4000 := by omega
    obtain ⟨p0, p1, p2, p3⟩ := hC.rng _ (rd98_mem ci)
    have hIN := cl0_in l m ns xs i ci p0 p1
    have hCM : ∀ r, Ev (fun k => if (rd_T89 l (rd_T98 xs i).f0).f0 = 2 then cmp l m k (fndL xs (st l m (rd_T89 l (rd_T98 xs i).f0).f2.f0 (rd_T98 xs i).f1).1) (ns ++ [⟨2, (rd_T89 l (rd_T98 xs i).f0).f1, ⟨(ixP xs (st l m (rd_T89 l (rd_T98 xs i).f0).f2.f0 (rd_T98 xs i).f1).1 : Nat), 0, 0⟩⟩]) (i + 1) (st l m (rd_T89 l (rd_T98 xs i).f0).f2.f0 (rd_T98 xs i).f1).2 else cmp l m k (cX l m (rd_T98 xs i).f0 (rd_T89 m (rd_T98 xs i).f1) xs 3) (ns ++ [⟨1, 0, ⟨(cI l m (rd_T98 xs i).f0 (rd_T89 m (rd_T98 xs i).f1) xs 0 : Nat), (cI l m (rd_T98 xs i).f0 (rd_T89 m (rd_T98 xs i).f1) xs 1 : Nat), (cI l m (rd_T98 xs i).f0 (rd_T89 m (rd_T98 xs i).f1) xs 2 : Nat)⟩⟩]) (i + 1) (cF l m (rd_T98 xs i).f0 (rd_T89 m (rd_T98 xs i).f1) 3)) r → Ev (fun k => cmp l m k xs ns i true) r := fun r h =>
      Ev.step (fun k => rfl) (Ev.pos ⟨ci, rfl⟩ (Ev.pos ⟨by omega, by omega⟩ h))
    generalize rd_T98 xs (i : Int) = p at p0 p1 p2 p3 hIN hCM
    obtain ⟨ko, kw0, kw1, kw2⟩ := okT_rd hk p.f0 p0 p1
    obtain ⟨_, kv0, kv1, kv2⟩ := okT_rd hm p.f1 p2 p3
    have hdx := hdl p.f0 p0 p1
    have hw : wrap64 ((i : Int) + 1) = ((i + 1 : Nat) : Int) := wnext i (by omega)
    generalize rd_T89 l p.f0 = x at hIN hCM ko kw0 kw1 kw2 hdx
    rcases ko with hx | hx
    · -- a node that asks
      have q0 : InR l m p.f0 (nx (rd_T89 m p.f1) 0) := ⟨p0, p1, kv0.1, kv0.2⟩
      have q1 : InR l m p.f0 (nx (rd_T89 m p.f1) 1) := ⟨p0, p1, kv1.1, kv1.2⟩
      have q2 : InR l m p.f0 (nx (rd_T89 m p.f1) 2) := ⟨p0, p1, kv2.1, kv2.2⟩
      have C1 := hC.fnd (stin q0)
      have C2 := C1.fnd (stin q1)
      have C3 := C2.fnd (stin q2)
      have hne : ¬ x.f0 = 2 := by rw [hx]; decide
      have a0 := fun r => cl1_ask hk hm hd hl hlm ns xs hxl (i : Int) x hx 0 (by decide) 0 1 rfl rfl p.f0 p.f1 x.f0 x.f1 0 0 0 ⟨p2, p3⟩ q0 r
      by_cases s0 : (st l m p.f0 (nx (rd_T89 m p.f1) 0)).2 = true
      case neg =>
        have hf : cF l m p.f0 (rd_T89 m p.f1) 3 = false := by simp [cF, s0]
        refine ⟨_, hCM _ (Ev.neg hne (by rw [hf]; exact cmp_bad _ _ _ _ _)), hIN _ (a0 _ ?_)⟩
        rw [joinR_f s0, fin_bad]
        exact cl1_push l m ns xs 4 (i : Int) x 1 p.f0 p.f1 x.f0 x.f1 _ _ _ (.inl (by decide)) hl4 _ (cl0_bad _ _ _ _ _)
      rw [joinR_t s0] at a0
      have a1 := fun r n2 n3 n4 => cl1_ask hk hm hd hl hlm ns (fndL xs (st l m p.f0 (nx (rd_T89 m p.f1) 0)).1) (Nat.le_trans C1.le (Nat.le_trans hN (by decide))) (i : Int) x hx 1 (by decide) 1 2 rfl rfl p.f0 p.f1 x.f0 x.f1 n2 n3 n4 ⟨p2, p3⟩ q1 r
      by_cases s1 : (st l m p.f0 (nx (rd_T89 m p.f1) 1)).2 = true
      case neg =>
        have hf : cF l m p.f0 (rd_T89 m p.f1) 3 = false := by simp [cF, s1]
        refine ⟨_, hCM _ (Ev.neg hne (by rw [hf]; exact cmp_bad _ _ _ _ _)), hIN _ (a0 _ (a1 _ _ _ _ ?_))⟩
        rw [joinR_f s1, fin_bad]
        exact cl1_push l m ns _ 4 (i : Int) x 2 p.f0 p.f1 x.f0 x.f1 _ _ _ (.inl (by decide)) hl4 _ (cl0_bad _ _ _ _ _)
      rw [joinR_t s1] at a1
      have a2 := fun r n2 n3 n4 => cl1_ask hk hm hd hl hlm ns (fndL (fndL xs (st l m p.f0 (nx (rd_T89 m p.f1) 0)).1) (st l m p.f0 (nx (rd_T89 m p.f1) 1)).1) (Nat.le_trans C2.le (Nat.le_trans hN (by decide))) (i : Int) x hx 2 (by decide) 2 3 rfl rfl p.f0 p.f1 x.f0 x.f1 n2 n3 n4 ⟨p2, p3⟩ q2 r
      by_cases s2 : (st l m p.f0 (nx (rd_T89 m p.f1) 2)).2 = true
      case neg =>
        have hf : cF l m p.f0 (rd_T89 m p.f1) 3 = false := by simp [cF, s2]
        refine ⟨_, hCM _ (Ev.neg hne (by rw [hf]; exact cmp_bad _ _ _ _ _)), hIN _ (a0 _ (a1 _ _ _ _ (a2 _ _ _ _ ?_)))⟩
        rw [joinR_f s2, fin_bad]
        exact cl1_push l m ns _ 4 (i : Int) x 3 p.f0 p.f1 x.f0 x.f1 _ _ _ (.inl (by decide)) hl4 _ (cl0_bad _ _ _ _ _)
      rw [joinR_t s2] at a2
      have hf : cF l m p.f0 (rd_T89 m p.f1) 3 = true := by simp [cF, s0, s1, s2]
      obtain ⟨r, e1, e2⟩ := ih (i + 1) (cX l m p.f0 (rd_T89 m p.f1) xs 3) (ns ++ [⟨1, 0, ⟨(cI l m p.f0 (rd_T89 m p.f1) xs 0 : Nat), (cI l m p.f0 (rd_T89 m p.f1) xs 1 : Nat), (cI l m p.f0 (rd_T89 m p.f1) xs 2 : Nat)⟩⟩])
        (Nat.le_trans (Nat.succ_le_of_lt ci) (Nat.le_trans (Nat.le_trans (fndL_len _ _) (fndL_len _ _)) (fndL_len _ _))) C3 (by simp [hn]) hd1
      refine ⟨r, hCM _ (Ev.neg hne (by rw [hf]; exact e1)), hIN _ (a0 _ (a1 _ _ _ _ (a2 _ _ _ _ ?_)))⟩
      refine cl1_push l m ns _ 0 (i : Int) x 3 p.f0 p.f1 x.f0 x.f1 _ _ _ (.inr (by rw [if_pos hx]; decide)) hl4 _ ?_
      rw [hw, hx, hdx hx]
      exact e2
    · -- a node that tells
      have q0 : InR l m x.f2.f0 p.f1 := ⟨kw0.1, kw0.2, p2, p3⟩
      have C1 := hC.fnd (stin q0)
      have a0 := fun r => cl1_tell hk hm hd hl hlm ns xs hxl (i : Int) x hx p.f0 p.f1 x.f0 x.f1 0 0 0 q0 r
      by_cases s0 : (st l m x.f2.f0 p.f1).2 = true
      case neg =>
        have hf : (st l m x.f2.f0 p.f1).2 = false := by simpa using s0
        refine ⟨_, hCM _ (Ev.pos hx (by rw [hf]; exact cmp_bad _ _ _ _ _)), hIN _ (a0 _ ?_)⟩
        rw [joinR_f s0, fin_bad]
        exact cl1_push l m ns xs 4 (i : Int) x 1 p.f0 p.f1 x.f0 x.f1 _ _ _ (.inl (by decide)) hl4 _ (cl0_bad _ _ _ _ _)
      rw [joinR_t s0] at a0
      obtain ⟨r, e1, e2⟩ := ih (i + 1) (fndL xs (st l m x.f2.f0 p.f1).1) (ns ++ [⟨2, x.f1, ⟨(ixP xs (st l m x.f2.f0 p.f1).1 : Nat), 0, 0⟩⟩]) (Nat.le_trans (Nat.succ_le_of_lt ci) (fndL_len _ _)) C1 (by simp [hn]) hd1
      refine ⟨r, hCM _ (Ev.pos hx (by rw [s0]; exact e1)), hIN _ (a0 _ ?_)⟩
      refine cl1_push l m ns _ 0 (i : Int) x 1 p.f0 p.f1 x.f0 x.f1 _ _ _ (.inr (by rw [if_neg (show ¬ x.f0 = 1 by rw [hx]; decide)]; decide)) hl4 _ ?_
      rw [hw, hx]
      exact e2
end Go.Proofs.Ytpfnohdnaocpdaa.Pure

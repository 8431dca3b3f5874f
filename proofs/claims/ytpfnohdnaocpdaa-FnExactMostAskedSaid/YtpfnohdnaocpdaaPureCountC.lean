/- How many digits a tree asks for: both texts' answers. Plain Lean over the printed functions. -/
import Derived.Test.YtpfnohdnaocpdaaPTx7
import Derived.Test.YtpfnohdnaocpdaaPTx6
import Derived.Test.YtpfnohdnaocpdaaPTx3
import Derived.Test.YtpfnohdnaocpdaaPTx8
import Derived.Test.YtpfnohdnaocpdaaPureLevelC
import Derived.Test.YtpfnohdnaocpdaaPTasked
namespace Go.Proofs.Ytpfnohdnaocpdaa.Pure
open Go.RowKit Go.Proofs.Ytpfnohdnaocpdaa.PT Go.Proofs.YtpfnohdnaocpdaaW.PrintWords Go.Proofs.YtpfnohdnaocpdaaW.PrintLast Go.Proofs.YtpfnohdnaocpdaaW.PrintMore Go.Proofs.YtpfnohdnaocpdaaRP
set_option linter.unusedVariables false
set_option linter.unusedSimpArgs false
theorem lev_l2 (l : List S89) (hk : okT l = true) (hl : l.length ≤ 60) (R : List Int) (s : List Bool) (hI : Inv l.length R s) (hC : Cl l R 0) (x5 : List Int) (h5 : ∀ j : Nat, j < R.length → rd x5 (rd R (j : Int)) = j) (most : Bool) (n : Int) (hn : 0 ≤ n) (B0 : Int) (b : List Int) (hb : b.length = R.length) (hB : ∀ j : Nat, j < R.length → 0 ≤ rd b (j : Int) ∧ rd b (j : Int) ≤ B0 ∧ ∃ k, cnt l most k (rd R (j : Int)) n = some (rd b (j : Int))) (r : Nat) (hr : r ≤ 60) (d : Nat) : ∀ (i : Nat) (g : List Bool) (o : List Int) (B : Int), i + d = R.length → g.length = l.length → B0 ≤ B → 0 ≤ B → B + d ≤ 900000 → Lv l R most n B g o →
    ∃ o', Lv l R most n (B + d) (gp l R d i g) o' ∧ ∀ v, Ev (fun k => spec_l06Level.l1 k [⟨R.map (gT l x5)⟩] b most o' ((r + 1 : Nat) : Int)) v → Ev (fun k => spec_l06Level.l2 k [⟨R.map (gT l x5)⟩] b most o (r : Int) (i : Int)) v := by
  induction d with
  | zero =>
    intro i g o B hi hg h0 h1 h2 h
    refine ⟨o, by simpa [gp] using h, fun v hv => Ev.step (fun k => rfl) (Ev.neg (by have := h.len; omega) ?_)⟩
    rw [wnext r (by omega)]
    exact hv
  | succ d ih =>
    intro i g o B hi hg h0 h1 h2 h
    obtain ⟨o1, q1, q2⟩ := lev_step l hk hl R s hI hC x5 h5 most n hn B0 b hb hB r hr B h0 ⟨h1, by omega⟩ i (by omega) g hg o h
    obtain ⟨o', p1, p2⟩ := ih (i + 1) (gstep l R g i) o1 (B + 1) (by omega) (by rw [gstep, List.length_set]; exact hg) (by omega) (by omega) (by omega) q1
    refine ⟨o', ?_, fun v hv => q2 v (p2 v hv)⟩
    rw [show B + ((d + 1 : Nat) : Int) = B + 1 + (d : Int) by omega]
    exact p1
theorem lev_l1 (l : List S89) (hk : okT l = true) (hl : l.length ≤ 60) (R : List Int) (s : List Bool) (hI : Inv l.length R s) (hC : Cl l R 0) (x5 : List Int) (h5 : ∀ j : Nat, j < R.length → rd x5 (rd R (j : Int)) = j) (most : Bool) (n : Int) (hn : 0 ≤ n) (B0 : Int) (b : List Int) (hb : b.length = R.length) (hB : ∀ j : Nat, j < R.length → 0 ≤ rd b (j : Int) ∧ rd b (j : Int) ≤ B0 ∧ ∃ k, cnt l most k (rd R (j : Int)) n = some (rd b (j : Int))) (d : Nat) : ∀ (r : Nat) (g : List Bool) (o : List Int) (B : Int), r + d = R.length → g.length = l.length → B0 ≤ B → 0 ≤ B → B + 60 * d ≤ 900000 → Lv l R most n B g o →
    ∃ o', Lv l R most n (B + 60 * d) (gr l R d g) o' ∧ Ev (fun k => spec_l06Level.l1 k [⟨R.map (gT l x5)⟩] b most o (r : Int)) o' := by
  have hle := hI.le
  induction d with
  | zero =>
    intro r g o B hr hg h0 h1 h2 h
    refine ⟨o, by simpa [gr] using h, Ev.step (fun k => rfl) (Ev.neg (by have := h.len; omega) (Ev.now _))⟩
  | succ d ih =>
    intro r g o B hr hg h0 h1 h2 h
    obtain ⟨o1, p1, p2⟩ := lev_l2 l hk hl R s hI hC x5 h5 most n hn B0 b hb hB r (by omega) R.length 0 g o B (by omega) hg h0 h1 (by omega) h
    have p3 : Lv l R most n (B + 60) (gp l R R.length 0 g) o1 := ⟨p1.len, fun j hj hgj => by
      obtain ⟨a0, a1, a2⟩ := p1.ok j hj hgj
      exact ⟨a0, by omega, a2⟩⟩
    obtain ⟨o', q1, q2⟩ := ih (r + 1) _ o1 (B + 60) (by omega) (by rw [gp_len]; exact hg) (by omega) (by omega) (by omega) p3
    refine ⟨o', ?_, Ev.step (fun k => rfl) (Ev.pos (by have := h.len; omega) (p2 _ q2))⟩
    rw [show B + 60 * ((d + 1 : Nat) : Int) = B + 60 + 60 * (d : Int) by omega]
    exact q1
theorem lev_l0 (l : List S89) (hk : okT l = true) (hl : l.length ≤ 60) (R : List Int) (s : List Bool) (hI : Inv l.length R s) (hC : Cl l R 0) (x5 : List Int) (h5 : ∀ j : Nat, j < R.length → rd x5 (rd R (j : Int)) = j) (most : Bool) (n : Int) (hn : 0 ≤ n) (B0 : Int) (b : List Int) (hb : b.length = R.length) (hB : ∀ j : Nat, j < R.length → 0 ≤ rd b (j : Int) ∧ rd b (j : Int) ≤ B0 ∧ ∃ k, cnt l most k (rd R (j : Int)) n = some (rd b (j : Int))) (d : Nat) : ∀ (i : Nat) (o : List Int), i + d = R.length → o.length = R.length → ∃ o2 : List Int, o2.length = R.length ∧ ∀ v, Ev (fun k => spec_l06Level.l1 k [⟨R.map (gT l x5)⟩] b most o2 0) v → Ev (fun k => spec_l06Level.l0 k [⟨R.map (gT l x5)⟩] b most o (i : Int)) v := by
  have hle := hI.le
  induction d with
  | zero =>
    intro i o hi ho
    exact ⟨o, ho, fun v hv => Ev.step (fun k => rfl) (Ev.neg (by omega) hv)⟩
  | succ d ih =>
    intro i o hi ho
    obtain ⟨o2, p1, p2⟩ := ih (i + 1) (o.set ((i : Int)).toNat (-1)) (by omega) (by rw [List.length_set]; exact ho)
    refine ⟨o2, p1, fun v hv => Ev.step (fun k => rfl) (Ev.pos (by omega) (Ev.pos (by omega) ?_))⟩
    rw [wnext i (by omega)]
    exact p2 v hv
theorem lev_ev (l : List S89) (hk : okT l = true) (hl : l.length ≤ 60) (R : List Int) (s : List Bool) (hI : Inv l.length R s) (hC : Cl l R 0) (x5 : List Int) (h5 : ∀ j : Nat, j < R.length → rd x5 (rd R (j : Int)) = j) (most : Bool) (n : Int) (hn : 0 ≤ n) (B0 : Int) (b : List Int) (hb : b.length = R.length) (hB : ∀ j : Nat, j < R.length → 0 ≤ rd b (j : Int) ∧ rd b (j : Int) ≤ B0 ∧ ∃ k, cnt l most k (rd R (j : Int)) n = some (rd b (j : Int))) (h0 : 0 ≤ B0) (hB0 : B0 ≤ 800000) : ∃ o', Lv l R most n (B0 + 3600) (marksG l R) o' ∧ Ev (fun k => spec_l06Level.f k [⟨R.map (gT l x5)⟩] b most) o' := by
  have hle := hI.le
  obtain ⟨o2, p1, p2⟩ := lev_l0 l hk hl R s hI hC x5 h5 most n hn B0 b hb hB R.length 0 (List.replicate R.length 0) (by omega) (by simp)
  have st : Lv l R most n B0 (List.replicate l.length false) o2 := ⟨p1, fun j hj hgj => by
    have hr := hI.rng _ (rd_memI hj)
    have : rdOf false (List.replicate l.length false) (rd R (j : Int)) = false := by
      have h : (rd R (j : Int)).toNat < l.length := by omega
      simp [rdOf, List.getD, h]
    rw [this] at hgj
    cases hgj⟩
  obtain ⟨o', q1, q2⟩ := lev_l1 l hk hl R s hI hC x5 h5 most n hn B0 b hb hB R.length 0 _ o2 B0 (by omega) (by simp) (Int.le_refl _) h0 (by omega) st
  refine ⟨o', ⟨q1.len, fun j hj hgj => ?_⟩, ?_⟩
  · obtain ⟨a0, a1, a2⟩ := q1.ok j hj hgj
    exact ⟨a0, by omega, a2⟩
  · unfold spec_l06Level.f
    have hm : ((R.map (gT l x5)).length : Int) = R.length := by rw [List.length_map]
    refine Ev.pos (by simp) (Ev.pos (by omega) (Ev.pos ?_ ?_))
    · change (((R.map (gT l x5)).length : Int)).toNat ≤ _
      rw [hm]; omega
    · change Ev (fun k => spec_l06Level.l0 k [⟨R.map (gT l x5)⟩] b most (List.replicate (((R.map (gT l x5)).length : Int)).toNat 0) 0) _
      rw [hm, Int.toNat_natCast]
      exact p2 _ q2
theorem cnt_l0 (l : List S89) (hk : okT l = true) (hl : l.length ≤ 60) (R : List Int) (s : List Bool) (hI : Inv l.length R s) (hC : Cl l R 0) (hp : [0] <+: R) (hprod : prodB l R = true) (x5 : List Int) (h5 : ∀ j : Nat, j < R.length → rd x5 (rd R (j : Int)) = j) (most : Bool) (N : Nat) (hN : N ≤ 60) (d : Nat) :
    ∀ (m : Nat) (b : List Int), m + d = N → b.length = R.length → (∀ j : Nat, j < R.length → 0 ≤ rd b (j : Int) ∧ rd b (j : Int) ≤ 3600 * (m : Int) ∧ ∃ k, cnt l most k (rd R (j : Int)) (m : Int) = some (rd b (j : Int))) →
    ∃ v, (∃ k, cnt l most k 0 (N : Int) = some v) ∧ Ev (fun k => spec_l06Count.l0 k (N : Int) most b (m : Int) (R.map (gT l x5))) (v, 0) := by
  have hgood : ∀ j : Nat, j < R.length → rdOf false (marksG l R) (rd R (j : Int)) = true := by
    intro j hj
    unfold prodB at hprod
    exact List.all_eq_true.1 hprod _ (rd_memI hj)
  have hRl : 0 < R.length := by have h := hp.length_le; rw [List.length_singleton] at h; omega
  have hR0 : rd R ((0 : Nat) : Int) = 0 := by
    obtain ⟨t, rfl⟩ := hp
    rfl
  induction d with
  | zero =>
    intro m b hm hb hB
    obtain ⟨_, _, k, hk2⟩ := hB 0 hRl
    rw [hR0] at hk2
    have : m = N := by omega
    subst this
    exact ⟨rd b ((0 : Nat) : Int), ⟨k, hk2⟩, Ev.step (fun k => rfl) (Ev.neg (by omega) (Ev.pos (by omega) (Ev.now _)))⟩
  | succ d ih =>
    intro m b hm hb hB
    obtain ⟨o, q1, q2⟩ := lev_ev l hk hl R s hI hC x5 h5 most (m : Int) (by omega) (3600 * (m : Int)) b hb hB (by omega) (by omega)
    obtain ⟨v, hv, p⟩ := ih (m + 1) o (by omega) q1.len (fun j hj => by
      obtain ⟨a0, a1, a2⟩ := q1.ok j hj (hgood j hj)
      exact ⟨a0, by omega, a2⟩)
    refine ⟨v, hv, Ev.step (fun k => rfl) (Ev.pos (by omega) (Ev.bind q2 ?_))⟩
    rw [wnext m (by omega)]
    exact p
/-- Both texts' answer. -/
theorem count_ev (l : List S89) (hw : ∀ x ∈ l, Rg x) (hl : l.length ≤ 140737488355327) (n : Int) (most : Bool) : ∃ A : Int × Int, Ev (fun k => spec_l06Count.f k [⟨l⟩] n most) A ∧ Ev (fun k => impl_asked.f k l n most) A := by
  have e1 := sokT_ev l hw hl
  have i1 : Ev (fun _ : Nat => impl_ValidTree.f l) (validT l) := Ev.is (fun _ => ivalidT_eq l)
  have e2 : ∀ k : Nat, spec_l00In.f n 0 60 = some (inI n 0 60) := fun _ => in_eq' n 0 60
  have i2 : ∀ k : Nat, impl_within.f n 0 60 = some (inI n 0 60) := by
    intro _
    unfold impl_within.f inI
    by_cases h : n ≥ 0
    · rw [if_pos h, decide_eq_true (show (0 : Int) ≤ n from h), Bool.true_and]
    · rw [if_neg h, decide_eq_false (show ¬ (0 : Int) ≤ n from h), Bool.false_and]
  unfold spec_l06Count.f impl_asked.f
  by_cases hv : validT l = true
  case neg =>
    have hf := Bool.eq_false_iff.mpr hv
    rw [hf] at e1 i1
    exact ⟨(0, 1), Ev.bind e1 (Ev.neg (by simp) (Ev.now _)), Ev.bind i1 (Ev.neg (by simp) (Ev.now _))⟩
  rw [hv] at e1 i1
  by_cases hin : inI n 0 60 = true
  case neg =>
    have hf := Bool.eq_false_iff.mpr hin
    rw [hf] at e2 i2
    exact ⟨(0, 2), Ev.bind e1 (Ev.pos rfl (Ev.bind (Ev.is e2) (Ev.neg (by simp) (Ev.now _)))), Ev.bind i1 (Ev.pos rfl (Ev.bind (Ev.is i2) (Ev.neg (by simp) (Ev.now _))))⟩
  rw [hin] at e2 i2
  obtain ⟨hn0, hn1⟩ := inI_iff.1 hin
  obtain ⟨v1, v2, _⟩ := validT_iff.1 hv
  have hk := okT_of hw hv
  obtain ⟨R, s, hp, hI, hC, hR⟩ := reachC_ev l hw hv
  have hle := hI.le
  have sp := sprod_ev l hk v2 R s hI hR
  have ip := iprod_ev l hk v2 R s hI hR
  by_cases hprod : prodB l R = true
  case neg =>
    have hf := Bool.eq_false_iff.mpr hprod
    rw [hf] at sp ip
    exact ⟨(0, 4), Ev.bind e1 (Ev.pos rfl (Ev.bind (Ev.is e2) (Ev.pos rfl (Ev.bind sp (Ev.neg (by simp) (Ev.now _)))))), Ev.bind i1 (Ev.pos rfl (Ev.bind (Ev.is i2) (Ev.pos rfl (Ev.pos ⟨hk, v2, by omega, hn0, hn1⟩ (Ev.bind ip (Ev.neg (by simp) (Ev.now _)))))))⟩
  rw [hprod] at sp ip
  obtain ⟨x5, h5l, h5, ht⟩ := treeC_ev l hk v2 R s hI
  obtain ⟨N, rfl⟩ : ∃ N : Nat, n = (N : Int) := ⟨n.toNat, by omega⟩
  obtain ⟨v, ⟨k0, hv0⟩, hc⟩ := cnt_l0 l hk v2 R s hI hC hp hprod x5 h5 most N (by omega) N 0 (List.replicate R.length 0) (by omega) (by simp) (fun j hj => by
    have : rd (List.replicate R.length (0 : Int)) (j : Int) = 0 := by simp [rd, List.getD, hj]
    rw [this]
    exact ⟨by omega, by omega, 1, by rw [cnt_succ, if_pos (by omega)]⟩)
  have hcev : Ev (fun k => cnt l most k 0 (N : Int)) v := ⟨k0, fun k hk' => by
    obtain ⟨dd, rfl⟩ : ∃ dd, k = k0 + dd := ⟨k - k0, by omega⟩
    exact cnt_up l most k0 dd 0 N v hv0⟩
  refine ⟨(v, 0), Ev.bind e1 (Ev.pos rfl (Ev.bind (Ev.is e2) (Ev.pos rfl (Ev.bind sp (Ev.pos rfl (Ev.bind hR (Ev.bind ht (Ev.pos (by omega) (Ev.pos ?_ ?_))))))))), Ev.bind i1 (Ev.pos rfl (Ev.bind (Ev.is i2) (Ev.pos rfl (Ev.pos ⟨hk, v2, by omega, hn0, hn1⟩ (Ev.bind ip (Ev.pos rfl (Ev.bind hcev (Ev.now _))))))))⟩
  · rw [List.length_map]; omega
  · rw [List.length_map, Int.toNat_natCast]
    exact hc
end Go.Proofs.Ytpfnohdnaocpdaa.Pure

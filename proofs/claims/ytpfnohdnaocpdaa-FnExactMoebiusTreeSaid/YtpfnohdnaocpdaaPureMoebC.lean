/- MoebiusTree: both loops in step. Plain Lean. -/
import Derived.Test.YtpfnohdnaocpdaaPTx7
import Derived.Test.YtpfnohdnaocpdaaPureMoebB
namespace Go.Proofs.Ytpfnohdnaocpdaa.Pure
open Go.RowKit Go.Proofs.Ytpfnohdnaocpdaa.PT Go.Proofs.YtpfnohdnaocpdaaW.PrintWords Go.Proofs.YtpfnohdnaocpdaaW.PrintLast Go.Proofs.YtpfnohdnaocpdaaW.PrintMore Go.Proofs.YtpfnohdnaocpdaaRP
set_option linter.unusedVariables false
set_option linter.unusedSimpArgs false
theorem mtl_bad (xs : List S60) (ns : List S89) (i : Nat) : Ev (fun k => mtl k xs ns i true) (ns, true) :=
  Ev.step (fun k => rfl) (Ev.neg (fun h => by simp at h) (Ev.now _))
theorem mfndL_len (xs : List S60) (p : S60) : xs.length ≤ (fndL xs p).length := fndL_len xs p
theorem mtree_ev (d : Nat) : ∀ (i : Nat) (xs : List S60) (ns : List S89), i ≤ xs.length → xs.length ≤ 60 → ns.length = i → (∀ p ∈ xs, Good p) → 60 - i = d → ∃ r, Ev (fun k => mtl k xs ns i false) r ∧ Ev (fun k => spec_MoebiusTree.l0 k xs (i : Int) ns) (finM r) := by
  induction d with
  | zero =>
    intro i xs ns hi hl hn hg hd
    exact ⟨(ns, false), Ev.step (fun k => rfl) (Ev.neg (fun hh => by have := hh.1; omega) (Ev.now _)), mt_out xs ns _ (by omega)⟩
  | succ d ih =>
    intro i xs ns hi hl hn hg hd
    by_cases ci : i < xs.length
    case neg => exact ⟨(ns, false), Ev.step (fun k => rfl) (Ev.neg (fun hh => ci hh.1) (Ev.now _)), mt_out xs ns _ (by omega)⟩
    have hl4 : ns.length ≤ 4000 := by omega
    have hx4 : xs.length ≤ 4000 := by omega
    have hd1 : 60 - (i + 1) = d := by omega
    have hw : wrap64 ((i : Int) + 1) = ((i + 1 : Nat) : Int) := wnext i (by omega)
    obtain ⟨hb, hu⟩ := hg _ (rd60_mem ci)
    obtain ⟨m, hm⟩ : ∃ m, m = m4 (rd_T60 xs (i : Int)) := ⟨_, rfl⟩
    rw [← hm] at hb hu
    have hs : rd_T60 xs (i : Int) = s4 m := by rw [hm]; rfl
    have hIN := mt_in hb hu xs ns i ci hs
    have it := itells_ev hb
    have hCM : ∀ r, Ev (fun k => if (tell m).isSome = true then ((impl_Moebius_behind.f k m.a m.b m.c m.d ((tell m).getD 0)).bind fun b => (ovS false (s60 b)).bind fun o => mtl k (fndL xs (s60 b)) (ns ++ [⟨2, (tell m).getD 0, ⟨(ixP xs (s60 b) : Nat), 0, 0⟩⟩]) (i + 1) (o || decide (60 < (fndL xs (s60 b)).length)))
        else ((impl_Moebius_with.f k m.a m.b m.c m.d (-1)).bind fun b0 => (ovS false (s60 b0)).bind fun o0 => (impl_Moebius_with.f k m.a m.b m.c m.d 0).bind fun b1 => (ovS o0 (s60 b1)).bind fun o1 => (impl_Moebius_with.f k m.a m.b m.c m.d 1).bind fun b2 => (ovS o1 (s60 b2)).bind fun o2 =>
        mtl k (fndL (fndL (fndL xs (s60 b0)) (s60 b1)) (s60 b2)) (ns ++ [⟨1, 0, ⟨(ixP xs (s60 b0) : Nat), (ixP (fndL xs (s60 b0)) (s60 b1) : Nat), (ixP (fndL (fndL xs (s60 b0)) (s60 b1)) (s60 b2) : Nat)⟩⟩]) (i + 1) (o2 || decide (60 < (fndL (fndL (fndL xs (s60 b0)) (s60 b1)) (s60 b2)).length)))) r → Ev (fun k => mtl k xs ns i false) r := fun r h => by
      refine Ev.step (fun k => rfl) (Ev.pos ⟨ci, rfl⟩ (Ev.pos ⟨by omega, by omega⟩ ?_))
      rw [hs]
      exact Ev.bind it h
    cases hT : tell m with
    | some e =>
      have hde := tell_dig hT
      have he : -1 ≤ e ∧ e ≤ 1 := by omega
      have ok := tellM_ok hb hu he
      have B2 := red_bd ok.1 ok.2
      have U2 := red_up ok.2
      have bh := ibehind_ev hb hu he
      rw [hT] at hCM
      have hBR : behR m = ([s4 (red (tellM m e))], 2, e, 0, 0, 0) := by unfold behR; rw [hT]
      rw [hBR] at hIN
      generalize red (tellM m e) = B at B2 U2 bh hIN
      have hCB : ∀ r, Ev (fun k => mtl k (fndL xs (s4 B)) (ns ++ [⟨2, e, ⟨(ixP xs (s4 B) : Nat), 0, 0⟩⟩]) (i + 1) ((false || !(fits 288230376151711744 B)) || decide (60 < (fndL xs (s4 B)).length))) r → Ev (fun k => mtl k xs ns i false) r := fun r h =>
        hCM r (Ev.pos rfl (Ev.bind bh (Ev.bind (Ev.is (fun k => ovS_eq B2 false)) h)))
      rcases step_dich U2 xs hg hl with ⟨h1, h2, h3, h4⟩ | ⟨h1, h2⟩
      · obtain ⟨r, e1, e2⟩ := ih (i + 1) (fndL xs (s4 B)) (ns ++ [⟨2, e, ⟨(ixP xs (s4 B) : Nat), 0, 0⟩⟩]) (Nat.le_trans (Nat.succ_le_of_lt ci) (fndL_len _ _)) h3 (by simp [hn]) h4 hd1
        refine ⟨r, hCB r ?_, hIN _ (mt_next xs _ hx4 ns _ 0 1 (by decide) (by decide) rfl (by simp) _ _ _ _ _ _ ?_)⟩
        · rw [h2, decide_eq_false (show ¬ 60 < (fndL xs (s4 B)).length by omega)]
          exact e1
        · rw [show stR xs (rd_T60 (([s4 B], 2, e, 0, 0, 0) : List S60 × Int × Int × Int × Int × Int).1 0) = (fndL xs (s4 B), (ixP xs (s4 B) : Int)) from h1]
          refine Ev.neg (show ¬ ((ixP xs (s4 B) : Int) < 0) by omega) ?_
          refine mt_push _ _ ns (i : Int) 1 _ _ _ _ _ (by simp) hl4 _ ?_
          rw [hw]
          exact e2
      · refine ⟨(ns ++ [⟨2, e, ⟨(ixP xs (s4 B) : Nat), 0, 0⟩⟩], true), hCB _ ?_, hIN _ (mt_next xs _ hx4 ns _ 0 1 (by decide) (by decide) rfl (by simp) _ _ _ _ _ _ ?_)⟩
        · have hfl : ((false || !(fits 288230376151711744 B)) || decide (60 < (fndL xs (s4 B)).length)) = true := by
            rcases h2 with h | h
            · rw [h]; rfl
            · rw [decide_eq_true h]; simp
          rw [hfl]
          exact mtl_bad _ _ _
        · exact Ev.pos h1 (Ev.now _)
    | none =>
      have okA := takeM_ok hb hu (d := -1) (by decide)
      have okB := takeM_ok hb hu (d := 0) (by decide)
      have okC := takeM_ok hb hu (d := 1) (by decide)
      have BA := red_bd okA.1 okA.2
      have BB := red_bd okB.1 okB.2
      have BC := red_bd okC.1 okC.2
      have UA := red_up okA.2
      have UB := red_up okB.2
      have UC := red_up okC.2
      have wA := iwith_ev hb hu (e := -1) (by decide)
      have wB := iwith_ev hb hu (e := 0) (by decide)
      have wC := iwith_ev hb hu (e := 1) (by decide)
      rw [hT] at hCM
      have hBR : behR m = ([s4 (red (takeM m (-1))), s4 (red (takeM m 0)), s4 (red (takeM m 1))], 1, 0, 0, 0, 0) := by unfold behR; rw [hT]
      rw [hBR] at hIN
      generalize red (takeM m (-1)) = A at BA UA wA hIN
      generalize red (takeM m 0) = B at BB UB wB hIN
      generalize red (takeM m 1) = C at BC UC wC hIN
      obtain ⟨X1, hX1⟩ : ∃ X1, X1 = fndL xs (s4 A) := ⟨_, rfl⟩
      obtain ⟨X2, hX2⟩ : ∃ X2, X2 = fndL X1 (s4 B) := ⟨_, rfl⟩
      obtain ⟨X3, hX3⟩ : ∃ X3, X3 = fndL X2 (s4 C) := ⟨_, rfl⟩
      have L1 : xs.length ≤ X1.length := by rw [hX1]; exact fndL_len _ _
      have L2 : X1.length ≤ X2.length := by rw [hX2]; exact fndL_len _ _
      have L3 : X2.length ≤ X3.length := by rw [hX3]; exact fndL_len _ _
      have hCB : ∀ r, Ev (fun k => mtl k X3 (ns ++ [⟨1, 0, ⟨(ixP xs (s4 A) : Nat), (ixP X1 (s4 B) : Nat), (ixP X2 (s4 C) : Nat)⟩⟩]) (i + 1) ((((false || !(fits 288230376151711744 A)) || !(fits 288230376151711744 B)) || !(fits 288230376151711744 C)) || decide (60 < X3.length))) r → Ev (fun k => mtl k xs ns i false) r := fun r h => by
        subst hX3; subst hX2; subst hX1
        exact hCM r (Ev.neg (by simp) (Ev.bind wA (Ev.bind (Ev.is (fun k => ovS_eq BA false)) (Ev.bind wB (Ev.bind (Ev.is (fun k => ovS_eq BB _)) (Ev.bind wC (Ev.bind (Ev.is (fun k => ovS_eq BC _)) h)))))))
      have bad : ∀ (h : fits 288230376151711744 A = false ∨ fits 288230376151711744 B = false ∨ fits 288230376151711744 C = false ∨ 60 < X3.length), Ev (fun k => mtl k xs ns i false) (ns ++ [⟨1, 0, ⟨(ixP xs (s4 A) : Nat), (ixP X1 (s4 B) : Nat), (ixP X2 (s4 C) : Nat)⟩⟩], true) := fun h => by
        refine hCB _ ?_
        have hfl : ((((false || !(fits 288230376151711744 A)) || !(fits 288230376151711744 B)) || !(fits 288230376151711744 C)) || decide (60 < X3.length)) = true := by
          rcases h with h | h | h | h
          · rw [h]; simp
          · rw [h]; simp
          · rw [h]; simp
          · rw [decide_eq_true h]; simp
        rw [hfl]
        exact mtl_bad _ _ _
      rcases step_dich UA xs hg hl with ⟨a1, a2, a3, a4⟩ | ⟨a1, a2⟩
      case inr =>
        exact ⟨_, bad (a2.elim (fun h => .inl h) (fun h => .inr (.inr (.inr (by rw [← hX1] at h; omega))))), hIN _ (mt_next xs _ hx4 ns _ 0 1 (by decide) (by decide) rfl (by simp) _ _ _ _ _ _ (Ev.pos a1 (Ev.now _)))⟩
      rw [← hX1] at a1 a3 a4
      have n1 := fun r n2 n3 n4 => mt_next X1 [s4 A, s4 B, s4 C] (by omega) ns (i : Int) 1 2 (by decide) (by decide) rfl (by simp) 1 0 n2 n3 n4 r
      have n0 := fun r => mt_next xs [s4 A, s4 B, s4 C] hx4 ns (i : Int) 0 1 (by decide) (by decide) rfl (by simp) 1 0 0 0 0 r
      rw [show stR xs (rd_T60 [s4 A, s4 B, s4 C] 0) = (X1, (ixP xs (s4 A) : Int)) from a1] at n0
      have n0' := fun r h => n0 r (Ev.neg (show ¬ ((ixP xs (s4 A) : Int) < 0) by omega) h)
      rcases step_dich UB X1 a4 a3 with ⟨b1, b2, b3, b4⟩ | ⟨b1, b2⟩
      case inr =>
        exact ⟨_, bad (b2.elim (fun h => .inr (.inl h)) (fun h => .inr (.inr (.inr (by rw [← hX2] at h; omega))))), hIN _ (n0' _ (n1 _ _ _ _ (Ev.pos b1 (Ev.now _))))⟩
      rw [← hX2] at b1 b3 b4
      have n2 := fun r n2 n3 n4 => mt_next X2 [s4 A, s4 B, s4 C] (by omega) ns (i : Int) 2 3 (by decide) (by decide) rfl (by simp) 1 0 n2 n3 n4 r
      rw [show stR X1 (rd_T60 [s4 A, s4 B, s4 C] 1) = (X2, (ixP X1 (s4 B) : Int)) from b1] at n1
      have n1' := fun r m2 m3 m4 h => n1 r m2 m3 m4 (Ev.neg (show ¬ ((ixP X1 (s4 B) : Int) < 0) by omega) h)
      rcases step_dich UC X2 b4 b3 with ⟨c1, c2, c3, c4⟩ | ⟨c1, c2⟩
      case inr =>
        exact ⟨_, bad (c2.elim (fun h => .inr (.inr (.inl h))) (fun h => .inr (.inr (.inr (by rw [← hX3] at h; exact h))))), hIN _ (n0' _ (n1' _ _ _ _ (n2 _ _ _ _ (Ev.pos c1 (Ev.now _)))))⟩
      rw [← hX3] at c1 c3 c4
      rw [show stR X2 (rd_T60 [s4 A, s4 B, s4 C] 2) = (X3, (ixP X2 (s4 C) : Int)) from c1] at n2
      have n2' := fun r m2 m3 m4 h => n2 r m2 m3 m4 (Ev.neg (show ¬ ((ixP X2 (s4 C) : Int) < 0) by omega) h)
      obtain ⟨r, e1, e2⟩ := ih (i + 1) X3 (ns ++ [⟨1, 0, ⟨(ixP xs (s4 A) : Nat), (ixP X1 (s4 B) : Nat), (ixP X2 (s4 C) : Nat)⟩⟩]) (by omega) c3 (by simp [hn]) c4 hd1
      refine ⟨r, hCB r ?_, hIN _ (n0' _ (n1' _ _ _ _ (n2' _ _ _ _ (mt_push _ _ ns (i : Int) 3 _ _ _ _ _ (by simp) hl4 _ ?_))))⟩
      · rw [a2, b2, c2, decide_eq_false (show ¬ 60 < X3.length by omega)]
        exact e1
      · rw [hw]
        exact e2
end Go.Proofs.Ytpfnohdnaocpdaa.Pure

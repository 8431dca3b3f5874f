-- Written by a program (xprint.py) out of the translation's own print; Lean checks it.
import Derived.Test.YtpfnohdnaocpdaaPTx0
namespace Go.Proofs.Ytpfnohdnaocpdaa.PT
open Go.RowKit Go.Proofs.YtpfnohdnaocpdaaW.PrintWords Go.Proofs.YtpfnohdnaocpdaaW.PrintLast Go.Proofs.YtpfnohdnaocpdaaW.PrintMore Go.Proofs.YtpfnohdnaocpdaaRP
attribute [local go_sem] max2_int min2_int max_two min_two max_three min_three max_four min_four Go.Proofs.YtpfnohdnaocpdaaRP.max_eight Go.Proofs.YtpfnohdnaocpdaaRP.tmod_len   -- for this text's walks alone
set_option linter.unusedVariables false
set_option linter.unusedSimpArgs false
/-! ### spec_l06Level: function 119 -/
mutual
def spec_l06Level.l0 : Nat → List (S34) → List Int → Bool → List Int → Int → Option (List Int)
 | 0, _, _, _, _, _ => none
 | k + 1, x0, x1, x2, x7, x8 => if x8 < (x7.length : Int) then (if 0 ≤ x8 then (spec_l06Level.l0 k x0 x1 x2 (x7.set (x8 : Int).toNat (-1)) (wrap64 (x8 + 1))) else (none)) else (spec_l06Level.l1 k x0 x1 x2 x7 0)
def spec_l06Level.l1 : Nat → List (S34) → List Int → Bool → List Int → Int → Option (List Int)
 | 0, _, _, _, _, _ => none
 | k + 1, x0, x1, x2, x7, x9 => if x9 < (x7.length : Int) then (spec_l06Level.l2 k x0 x1 x2 x7 x9 0) else (some x7)
def spec_l06Level.l2 : Nat → List (S34) → List Int → Bool → List Int → Int → Int → Option (List Int)
 | 0, _, _, _, _, _, _ => none
 | k + 1, x0, x1, x2, x7, x9, x10 => if x10 < (x7.length : Int) then (if 0 < (x0.length : Int) then (if 0 ≤ x10 then (if x10 < (((rd_T34 x0 0).f0).length : Int) then (if 0 < ([rd_T89 ((rd_T34 x0 0).f0) x10].length : Int) then (if ((rd_T89 ((rd_T34 x0 0).f0) x10).f0) = 2 then (if 0 ≤ ((rd_T89 ((rd_T34 x0 0).f0) x10).f2.f0) then (if ((rd_T89 ((rd_T34 x0 0).f0) x10).f2.f0) < (x1.length : Int) then (spec_l06Level.l2 k x0 x1 x2 (x7.set (x10 : Int).toNat (rd x1 ((rd_T89 ((rd_T34 x0 0).f0) x10).f2.f0))) x9 (wrap64 (x10 + 1))) else (none)) else (none)) else (spec_l06Level.l3 k x0 x1 x2 x7 x9 x10 [rd_T89 ((rd_T34 x0 0).f0) x10] (-1) true 0)) else (none)) else (none)) else (none)) else (none)) else (spec_l06Level.l1 k x0 x1 x2 x7 (wrap64 (x9 + 1)))
def spec_l06Level.l3 : Nat → List (S34) → List Int → Bool → List Int → Int → Int → List (S89) → Int → Bool → Int → Option (List Int)
 | 0, _, _, _, _, _, _, _, _, _, _ => none
 | k + 1, x0, x1, x2, x7, x9, x10, x11, x12, x13, x14 => if x14 < 3 then (if 0 < (x11.length : Int) then (if 0 ≤ x14 then (if 0 ≤ (rd [(rd_T89 x11 0).f2.f0, (rd_T89 x11 0).f2.f1, (rd_T89 x11 0).f2.f2] x14) then (if (rd [(rd_T89 x11 0).f2.f0, (rd_T89 x11 0).f2.f1, (rd_T89 x11 0).f2.f2] x14) < (x7.length : Int) then (if (rd x7 (rd [(rd_T89 x11 0).f2.f0, (rd_T89 x11 0).f2.f1, (rd_T89 x11 0).f2.f2] x14)) < 0 then (if x13 = true then (spec_l06Level.l3 k x0 x1 x2 x7 x9 x10 x11 x12 (!x2) (wrap64 (x14 + 1))) else (spec_l06Level.l3 k x0 x1 x2 x7 x9 x10 x11 x12 false (wrap64 (x14 + 1)))) else (if x12 < 0 then (spec_l06Level.l3 k x0 x1 x2 x7 x9 x10 x11 (rd x7 (rd [(rd_T89 x11 0).f2.f0, (rd_T89 x11 0).f2.f1, (rd_T89 x11 0).f2.f2] x14)) x13 (wrap64 (x14 + 1))) else (if x2 = true then (if (rd x7 (rd [(rd_T89 x11 0).f2.f0, (rd_T89 x11 0).f2.f1, (rd_T89 x11 0).f2.f2] x14)) > x12 then (spec_l06Level.l3 k x0 x1 x2 x7 x9 x10 x11 (rd x7 (rd [(rd_T89 x11 0).f2.f0, (rd_T89 x11 0).f2.f1, (rd_T89 x11 0).f2.f2] x14)) x13 (wrap64 (x14 + 1))) else (spec_l06Level.l3 k x0 x1 x2 x7 x9 x10 x11 x12 x13 (wrap64 (x14 + 1)))) else (if (rd x7 (rd [(rd_T89 x11 0).f2.f0, (rd_T89 x11 0).f2.f1, (rd_T89 x11 0).f2.f2] x14)) < x12 then (spec_l06Level.l3 k x0 x1 x2 x7 x9 x10 x11 (rd x7 (rd [(rd_T89 x11 0).f2.f0, (rd_T89 x11 0).f2.f1, (rd_T89 x11 0).f2.f2] x14)) x13 (wrap64 (x14 + 1))) else (spec_l06Level.l3 k x0 x1 x2 x7 x9 x10 x11 x12 x13 (wrap64 (x14 + 1))))))) else (none)) else (none)) else (none)) else (none)) else (if x13 = true then (if x12 ≥ 0 then (if 0 ≤ x10 then (if x10 < (x7.length : Int) then (spec_l06Level.l2 k x0 x1 x2 (x7.set (x10 : Int).toNat (wrap64 (x12 + 1))) x9 (wrap64 (x10 + 1))) else (none)) else (none)) else (spec_l06Level.l2 k x0 x1 x2 x7 x9 (wrap64 (x10 + 1)))) else (spec_l06Level.l2 k x0 x1 x2 x7 x9 (wrap64 (x10 + 1))))
end
def spec_l06Level.f (k : Nat) (l0 : List (S34)) (l1 : List Int) (a2 : Bool) : Option (List Int) := if 0 < (l0.length : Int) then (if 0 ≤ (((rd_T34 l0 0).f0).length : Int) then (if ((((rd_T34 l0 0).f0).length : Int) : Int).toNat ≤ 35184372088832 then (spec_l06Level.l0 k l0 l1 a2 (List.replicate ((((rd_T34 l0 0).f0).length : Int) : Int).toNat 0) 0) else (none)) else (none)) else (none)
theorem spec_l06Level.mono_l : ∀ k, (∀ y0 y1 y2 y3 y4, LeO (spec_l06Level.l0 k y0 y1 y2 y3 y4) (spec_l06Level.l0 (k + 1) y0 y1 y2 y3 y4)) ∧ (∀ y0 y1 y2 y3 y4, LeO (spec_l06Level.l1 k y0 y1 y2 y3 y4) (spec_l06Level.l1 (k + 1) y0 y1 y2 y3 y4)) ∧ (∀ y0 y1 y2 y3 y4 y5, LeO (spec_l06Level.l2 k y0 y1 y2 y3 y4 y5) (spec_l06Level.l2 (k + 1) y0 y1 y2 y3 y4 y5)) ∧ (∀ y0 y1 y2 y3 y4 y5 y6 y7 y8 y9, LeO (spec_l06Level.l3 k y0 y1 y2 y3 y4 y5 y6 y7 y8 y9) (spec_l06Level.l3 (k + 1) y0 y1 y2 y3 y4 y5 y6 y7 y8 y9))
 | 0 => ⟨fun _ _ _ _ _ r h => by simp [spec_l06Level.l0] at h, fun _ _ _ _ _ r h => by simp [spec_l06Level.l1] at h, fun _ _ _ _ _ _ r h => by simp [spec_l06Level.l2] at h, fun _ _ _ _ _ _ _ _ _ _ r h => by simp [spec_l06Level.l3] at h⟩
 | k + 1 => by
  obtain ⟨ih0, ih1, ih2, ih3⟩ := spec_l06Level.mono_l k
  refine ⟨?_, ?_, ?_, ?_⟩
  ·
   intro y0 y1 y2 y3 y4
   unfold spec_l06Level.l0
   repeat' first
   | (with_reducible exact ih0 _ _ _ _ _)
   | (with_reducible exact ih1 _ _ _ _ _)
   | (with_reducible exact ih2 _ _ _ _ _ _)
   | (with_reducible exact ih3 _ _ _ _ _ _ _ _ _ _)
   | (with_reducible exact LeO.refl _)
   | (with_reducible exact LeO.none _)
   | (with_reducible refine LeO.ite ?_ ?_)
   | (with_reducible refine LeO.bind ?_ (fun _ => ?_))
   | exact ih0 _ _ _ _ _
   | exact ih1 _ _ _ _ _
   | exact ih2 _ _ _ _ _ _
   | exact ih3 _ _ _ _ _ _ _ _ _ _
   | exact LeO.none _
   | refine LeO.ite ?_ ?_
   | refine LeO.bind ?_ (fun _ => ?_)
  ·
   intro y0 y1 y2 y3 y4
   unfold spec_l06Level.l1
   repeat' first
   | (with_reducible exact ih0 _ _ _ _ _)
   | (with_reducible exact ih1 _ _ _ _ _)
   | (with_reducible exact ih2 _ _ _ _ _ _)
   | (with_reducible exact ih3 _ _ _ _ _ _ _ _ _ _)
   | (with_reducible exact LeO.refl _)
   | (with_reducible exact LeO.none _)
   | (with_reducible refine LeO.ite ?_ ?_)
   | (with_reducible refine LeO.bind ?_ (fun _ => ?_))
   | exact ih0 _ _ _ _ _
   | exact ih1 _ _ _ _ _
   | exact ih2 _ _ _ _ _ _
   | exact ih3 _ _ _ _ _ _ _ _ _ _
   | exact LeO.none _
   | refine LeO.ite ?_ ?_
   | refine LeO.bind ?_ (fun _ => ?_)
  ·
   intro y0 y1 y2 y3 y4 y5
   unfold spec_l06Level.l2
   repeat' first
   | (with_reducible exact ih0 _ _ _ _ _)
   | (with_reducible exact ih1 _ _ _ _ _)
   | (with_reducible exact ih2 _ _ _ _ _ _)
   | (with_reducible exact ih3 _ _ _ _ _ _ _ _ _ _)
   | (with_reducible exact LeO.refl _)
   | (with_reducible exact LeO.none _)
   | (with_reducible refine LeO.ite ?_ ?_)
   | (with_reducible refine LeO.bind ?_ (fun _ => ?_))
   | exact ih0 _ _ _ _ _
   | exact ih1 _ _ _ _ _
   | exact ih2 _ _ _ _ _ _
   | exact ih3 _ _ _ _ _ _ _ _ _ _
   | exact LeO.none _
   | refine LeO.ite ?_ ?_
   | refine LeO.bind ?_ (fun _ => ?_)
  ·
   intro y0 y1 y2 y3 y4 y5 y6 y7 y8 y9
   unfold spec_l06Level.l3
   repeat' first
   | (with_reducible exact ih0 _ _ _ _ _)
   | (with_reducible exact ih1 _ _ _ _ _)
   | (with_reducible exact ih2 _ _ _ _ _ _)
   | (with_reducible exact ih3 _ _ _ _ _ _ _ _ _ _)
   | (with_reducible exact LeO.refl _)
   | (with_reducible exact LeO.none _)
   | (with_reducible refine LeO.ite ?_ ?_)
   | (with_reducible refine LeO.bind ?_ (fun _ => ?_))
   | exact ih0 _ _ _ _ _
   | exact ih1 _ _ _ _ _
   | exact ih2 _ _ _ _ _ _
   | exact ih3 _ _ _ _ _ _ _ _ _ _
   | exact LeO.none _
   | refine LeO.ite ?_ ?_
   | refine LeO.bind ?_ (fun _ => ?_)
theorem spec_l06Level.mono : ∀ a0 a1 a2 k, LeO (spec_l06Level.f k a0 a1 a2) (spec_l06Level.f (k + 1) a0 a1 a2) := by
 intro a0 a1 a2 k
 obtain ⟨ih0, ih1, ih2, ih3⟩ := spec_l06Level.mono_l k
 unfold spec_l06Level.f
 repeat' first
   | (with_reducible exact ih0 _ _ _ _ _)
   | (with_reducible exact ih1 _ _ _ _ _)
   | (with_reducible exact ih2 _ _ _ _ _ _)
   | (with_reducible exact ih3 _ _ _ _ _ _ _ _ _ _)
   | (with_reducible exact LeO.refl _)
   | (with_reducible exact LeO.none _)
   | (with_reducible refine LeO.ite ?_ ?_)
   | (with_reducible refine LeO.bind ?_ (fun _ => ?_))
   | exact ih0 _ _ _ _ _
   | exact ih1 _ _ _ _ _
   | exact ih2 _ _ _ _ _ _
   | exact ih3 _ _ _ _ _ _ _ _ _ _
   | exact LeO.none _
   | refine LeO.ite ?_ ?_
   | refine LeO.bind ?_ (fun _ => ?_)
set_option maxHeartbeats 8000000 in
set_option maxRecDepth 100000 in
theorem spec_l06Level.calls (k : Nat) (A0 : Option Addr) (c0 : Nat) (l0 : List (S34)) (A1 : Option Addr) (c1 : Nat) (l1 : List Int) (a2 : Bool) (r : List Int) (w : World) (hr0 : Kd.C k34 w A0 l0.length l0) (hc0 : l0.length ≤ c0) (hr1 : Kd.C (Kd.int .i64) w A1 l1.length l1) (hc1 : l1.length ≤ c1) (h : spec_l06Level.f k l0 l1 a2 = some r) :
  Calls Try.prog 119 #[.pointer A0, .slice A1 l1.length c1, .bool a2] w fun e w' => ∃ v0_ : Value, e = .returned (v0_) ∧ Kd.R (Kd.int .i64) 2 w' w.heap.size (fun _ => True) v0_ r ∧ Below w.heap.size w w' := by
 have HR0 := Aside0.mk hr0
 have HC0 := Aside0.mk hc0
 clear hr0 hc0
 have HR1 := Aside0.mk hr1
 have HC1 := Aside0.mk hc1
 clear hr1 hc1
 have HB := Aside0.mk (Below.refl w.heap.size w)
 have H : (if 0 < (l0.length : Int) then (if 0 ≤ (((rd_T34 l0 0).f0).length : Int) then (if ((((rd_T34 l0 0).f0).length : Int) : Int).toNat ≤ 35184372088832 then (spec_l06Level.l0 k l0 l1 a2 (List.replicate ((((rd_T34 l0 0).f0).length : Int) : Int).toNat 0) 0) else (none)) else (none)) else (none)) = some r := h
 clear h
 by_cases c4 : 0 < (l0.length : Int)
 ·
  rw [if_pos c4] at H
  have c4b0 : decide (0 < (l0.length : Int)) = true := decide_eq_true c4
  have c4b1 : decide (0 < l0.length) = true := decide_eq_true (by omega)
  clear c4
  by_cases c5 : 0 ≤ (((rd_T34 l0 0).f0).length : Int)
  ·
   rw [if_pos c5] at H
   have c5b0 := eq_true c5
   have c5b1 : decide (0 ≤ (((rd_T34 l0 0).f0).length : Int)) = true := decide_eq_true c5
   clear c5
   by_cases c6 : ((((rd_T34 l0 0).f0).length : Int) : Int).toNat ≤ 35184372088832
   ·
    rw [if_pos c6] at H
    have c6b0 := eq_true c6
    have c6b1 : decide (((((rd_T34 l0 0).f0).length : Int) : Int).toNat ≤ 35184372088832) = true := decide_eq_true c6
    clear c6
    obtain ⟨y217, hy217⟩ : ∃ y_ : List Int, y_ = (List.replicate ((((rd_T34 l0 0).f0).length : Int) : Int).toNat 0) := ⟨_, rfl⟩
    replace H : (spec_l06Level.l0 k l0 l1 a2 y217 0) = some r := by first | (rw [hy217]; with_reducible exact H) | (have H2_ := (Option.bind_some _ _).symm.trans H; rw [hy217]; with_reducible exact H2_) | (have H2_ := (Option.bind_some _ _).symm.trans H; with_reducible exact H2_) | with_reducible exact H | (rw [hy217]; exact H) | exact H
    have Ny217 := Aside0.mk hy217
    clear hy217
    have H' := Aside0.mk H
    clear H
    have q216 : 0 < (l0.length : Int) := of_decide_eq_true (by assumption)
    obtain ⟨ad216, A216_0, c216_0, e216, hx216_0, hl216_0, hi216_0⟩ := rp_T34 HR0.out q216
    cases e216
    have HR216_0 := Aside0.mk hi216_0
    have HC216_0 := Aside0.mk hl216_0
    clear hi216_0 hl216_0
    go_enter Try.func119, Try.ntmps119
    go_wp2_with (first | ((with_reducible refine gate_dst (N := 21) rfl ?_); refine Kd.R_make (Kd.int .i64) _ 2 rfl (N := 21) rfl 155 _ _ rfl (((rd_T34 l0 0).f0).length : Int) rfl rfl Try.underlying155 (.int .i64 0) 8 info2 rfl (by decide) (by omega) 0 (ok := fun _ => True) (okp := fun _ => True) rfl (fun _ hk => hk) trivial (of_decide_eq_true (by assumption)) (Nat.le_trans (Nat.mul_le_mul_right _ (of_decide_eq_true (by assumption) : (((rd_T34 l0 0).f0).length : Int).toNat ≤ 35184372088832)) (by omega)) (Below.refl _ _) (Nat.le_refl _) ?_; intro v218 w7 ho8 hb hg_ hnew_; clear hg_ hnew_; (first | rw [← Ny217.out] at ho8 | (simp only [Int.reduceToNat] at ho8; rw [← Ny217.out] at ho8)); have n0_ := Aside0.mk (Kd.R_lower ho8 (below_size (by repeat (first | (with_reducible first | exact HB.out | apply below_alloc | apply pw_below_drewN | apply below_drew1) | exact HB.out)))); have n1_ := Aside0.mk (below_step (by repeat (first | (with_reducible first | exact HB.out | apply below_alloc | apply pw_below_drewN | apply below_drew1) | exact HB.out)) hb); clear HB; have HO219 := n0_; have HB := n1_; clear n0_ n1_; clear hb ho8))
    go_loopg [8] k (fun kq v8 w' => ∃ (x7_1 : List Int) (x8_1 : Int), v8 = .int .i64 x8_1 ∧ Aside0 (spec_l06Level.l0 kq l0 l1 a2 x7_1 x8_1 = some r) ∧ Aside0 (kq ≤ k) ∧ Aside0 (Kd.R (Kd.int .i64) 2 w' w.heap.size (fun _ => True) v218 x7_1) ∧ Aside0 (Below w.heap.size w w'))
    case atStart => exact ⟨(y217), (0), (by first | rfl | (simp; done) | (simp [*]; done) | (simp [isE_]; done)), H', ⟨Nat.le_refl _⟩, ⟨by (with_reducible repeat (first | apply Kd.R_alloc | apply Kd.R_drewN | apply Kd.R_drew)); exact HO219.out⟩, ⟨by repeat (first | (with_reducible first | exact HB.out | apply below_alloc | apply pw_below_drewN | apply below_drew1) | exact HB.out)⟩⟩
    case round =>
     clear H'
     try clear c1
     try clear c2
     try clear p2
     try clear q2
     try clear hx2
     try clear c4
     try clear c4b0
     try clear c4b1
     try clear c5
     try clear c5b0
     try clear c5b1
     try clear c6
     try clear c6b0
     try clear c6b1
     try clear hx216_0
     try clear q216
     obtain ⟨x7_1, x8_1, rfl, HA, HK1, HO_7, HB⟩ := hrel
     cases gk with
     | zero => exact absurd HA.out (by simp [spec_l06Level.l0])
     | succ k1 =>
      have H := HA.out
      clear HA
      simp only [spec_l06Level.l0] at H
      (repeat (first | rw [rd1_T89] at H))
      by_cases c9 : x8_1 < (x7_1.length : Int)
      ·
       rw [if_pos c9] at H
       have c9b0 : decide (x8_1 < (x7_1.length : Int)) = true := decide_eq_true c9
       clear c9
       by_cases c10 : 0 ≤ x8_1
       ·
        rw [if_pos c10] at H
        have c10b0 : decide (0 ≤ x8_1) = true := decide_eq_true c10
        clear c10
        obtain ⟨y220, hy220⟩ : ∃ y_ : List Int, y_ = (x7_1.set (x8_1 : Int).toNat (-1)) := ⟨_, rfl⟩
        replace H : (spec_l06Level.l0 k1 l0 l1 a2 y220 (wrap64 (x8_1 + 1))) = some r := by first | (rw [hy220]; with_reducible exact H) | (have H2_ := (Option.bind_some _ _).symm.trans H; rw [hy220]; with_reducible exact H2_) | (have H2_ := (Option.bind_some _ _).symm.trans H; with_reducible exact H2_) | with_reducible exact H | (rw [hy220]; exact H) | exact H
        have Ny220 := Aside0.mk hy220
        clear hy220
        have H' := Aside0.mk H
        clear H
        obtain ⟨Ao12, co12, eo12⟩ := Kd.R_slice HO_7.out
        subst eo12
        have p11 : 0 ≤ (x8_1 : Int) := of_decide_eq_true (by assumption)
        have q11 : (x8_1 : Int) < ((x7_1.length : Int) : Int) := of_decide_eq_true (by assumption)
        obtain ⟨go11, co11, eo11, gb11, gl11, cl11, HG11⟩ := Kd.R_form HO_7.out (by omega)
        (first | cases eo11 | (injection eo11 with ea_ en_ ec_; (first | subst ea_ | (injection ea_ with ea_; subst ea_)); subst ec_; clear en_))
        have GB11 := Aside0.mk gb11
        have GG11 := Aside0.mk HG11
        clear gb11 gl11 HG11
        obtain ⟨hx11_0, hf11_0⟩ := Kd.R_celln 0 HO_7.out (x8_1 : Int) p11 q11
        replace p11 := eq_true p11
        replace q11 := eq_true q11
        have HP13 := Kd.R_putg HO_7.out (x8_1 : Int) (-1)
        go_wp2_with (first | ((with_reducible refine gate_store (t := 2) (p := 30) rfl ?_); refine store_event (t := 2) (p := 30) (v := ?vo_w14) (w1 := (wr.setCell ⟨go11, (x8_1 : Int).toNat, none⟩ (.int .i64 (-1)))) ?hg ?ho ?hn ?hr ?_; (case ho => rfl); (case hg => rfl); (case hn => rfl); (case hr => first | (go_simp; done) | (go_simp; rfl)); intro w14 hw; have hg : wr.grownBy w14 (some go11) := (by rw [hw]; exact HP13.2); have hp_ : Kd.R (Kd.int .i64) 2 w14 w.heap.size (fun _ => True) (.slice (some ⟨go11, 0, none⟩) x7_1.length co12) y220 := (by rw [hw, Ny220.out]; exact HP13.1); clear HP13; have n0_ := Aside0.mk (hp_); have n1_ := Aside0.mk ((by rw [hw]; exact below_set (HB.out) GB11.out : Below w.heap.size w w14)); clear HO_7; clear HB; have HO_7 := n0_; have HB := n1_; clear n0_ n1_; clear hg hw hp_))
        go_roundg k1
        case measure => have := HK1.out; omega
        case rel => exact ⟨(y220), (wrap64 (x8_1 + 1)), (by first | rfl | (simp; done) | (simp [*]; done) | (simp [isE_]; done)), H', ⟨by have := HK1.out; omega⟩, ⟨by (with_reducible repeat (first | apply Kd.R_alloc | apply Kd.R_drewN | apply Kd.R_drew)); exact HO_7.out⟩, ⟨by repeat (first | (with_reducible first | exact HB.out | apply below_alloc | apply pw_below_drewN | apply below_drew1) | exact HB.out)⟩⟩
       ·
        rw [if_neg c10] at H
        exact absurd H (by simp)
      ·
       rw [if_neg c9] at H
       have c9b0 : decide (x8_1 < (x7_1.length : Int)) = false := decide_eq_false c9
       clear c9
       have H' := Aside0.mk H
       clear H
       obtain ⟨Ao15, co15, eo15⟩ := Kd.R_slice HO_7.out
       subst eo15
       go_wp2
       go_loopg [9] k1 (fun kq v9 w' => ∃ (x7_2 : List Int) (x9_2 : Int), v9 = .int .i64 x9_2 ∧ Aside0 (spec_l06Level.l1 kq l0 l1 a2 x7_2 x9_2 = some r) ∧ Aside0 (kq ≤ k1) ∧ Aside0 (Kd.R (Kd.int .i64) 2 w' w.heap.size (fun _ => True) (.slice Ao15 x7_1.length co15) x7_2) ∧ Aside0 (Below w.heap.size w w'))
       case atStart => exact ⟨(x7_1), (0), (by first | rfl | (simp; done) | (simp [*]; done) | (simp [isE_]; done)), H', ⟨Nat.le_refl _⟩, ⟨by (with_reducible repeat (first | apply Kd.R_alloc | apply Kd.R_drewN | apply Kd.R_drew)); exact HO_7.out⟩, ⟨by repeat (first | (with_reducible first | exact HB.out | apply below_alloc | apply pw_below_drewN | apply below_drew1) | exact HB.out)⟩⟩
       case round =>
        clear H'
        try clear c1
        try clear p1
        try clear q1
        try clear hx1
        try clear c2
        try clear p2
        try clear q2
        try clear hx2
        try clear c4
        try clear c4b0
        try clear c4b1
        try clear c5
        try clear c5b0
        try clear c5b1
        try clear c6
        try clear c6b0
        try clear c6b1
        try clear p6
        try clear c9
        try clear c9b0
        try clear c10
        try clear c10b0
        try clear c11
        try clear p11
        try clear q11
        try clear hx11
        try clear hf11
        try clear hx11_0
        try clear hx216_0
        try clear p11
        try clear p2
        try clear q11
        try clear q2
        try clear q216
        obtain ⟨x7_2, x9_2, rfl, HA, HK2, HO_7, HB⟩ := hrel
        have hl7_2 := (Kd.R_reads' HO_7.out).1
        rw [hl7_2] at HO_7
        (try simp only [hl7_2])
        cases gk with
        | zero => exact absurd HA.out (by simp [spec_l06Level.l1])
        | succ k2 =>
         have H := HA.out
         clear HA
         simp only [spec_l06Level.l1] at H
         (repeat (first | rw [rd1_T89] at H))
         by_cases c16 : x9_2 < (x7_2.length : Int)
         ·
          rw [if_pos c16] at H
          have c16b0 : decide (x9_2 < (x7_2.length : Int)) = true := decide_eq_true c16
          clear c16
          have H' := Aside0.mk H
          clear H
          go_wp2
          go_loopg [10] k2 (fun kq v10 w' => ∃ (x7_3 : List Int) (x10_3 : Int), v10 = .int .i64 x10_3 ∧ Aside0 (spec_l06Level.l2 kq l0 l1 a2 x7_3 x9_2 x10_3 = some r) ∧ Aside0 (kq ≤ k2) ∧ Aside0 (Kd.R (Kd.int .i64) 2 w' w.heap.size (fun _ => True) (.slice Ao15 x7_2.length co15) x7_3) ∧ Aside0 (Below w.heap.size w w'))
          case atStart => exact ⟨(x7_2), (0), (by first | rfl | (simp; done) | (simp [*]; done) | (simp [isE_]; done)), H', ⟨Nat.le_refl _⟩, ⟨by (try simp only [hl7_2]); (with_reducible repeat (first | apply Kd.R_alloc | apply Kd.R_drewN | apply Kd.R_drew)); exact HO_7.out⟩, ⟨by repeat (first | (with_reducible first | exact HB.out | apply below_alloc | apply pw_below_drewN | apply below_drew1) | exact HB.out)⟩⟩
          case round =>
           clear H'
           try clear c1
           try clear p1
           try clear q1
           try clear hx1
           try clear c2
           try clear p2
           try clear q2
           try clear hx2
           try clear c4
           try clear c4b0
           try clear c4b1
           try clear c5
           try clear c5b0
           try clear c5b1
           try clear c6
           try clear c6b0
           try clear c6b1
           try clear p6
           try clear c9
           try clear c9b0
           try clear c10
           try clear c10b0
           try clear c11
           try clear p11
           try clear q11
           try clear hx11
           try clear hf11
           try clear c16
           try clear c16b0
           try clear hx11_0
           try clear hx216_0
           try clear p1
           try clear p11
           try clear p2
           try clear p6
           try clear q1
           try clear q11
           try clear q2
           try clear q216
           obtain ⟨x7_3, x10_3, rfl, HA, HK3, HO_7, HB⟩ := hrel
           have hl7_3 := (Kd.R_reads' HO_7.out).1
           rw [hl7_3] at HO_7
           (try simp only [hl7_3])
           cases gk with
           | zero => exact absurd HA.out (by simp [spec_l06Level.l2])
           | succ k3 =>
            have H := HA.out
            clear HA
            simp only [spec_l06Level.l2] at H
            (repeat (first | rw [rd1_T89] at H))
            by_cases c17 : x10_3 < (x7_3.length : Int)
            ·
             rw [if_pos c17] at H
             have c17b0 : decide (x10_3 < (x7_3.length : Int)) = true := decide_eq_true c17
             clear c17
             by_cases c18 : 0 < (l0.length : Int)
             ·
              rw [if_pos c18] at H
              have c18b0 : decide (0 < (l0.length : Int)) = true := decide_eq_true c18
              have c18b1 : decide (0 < l0.length) = true := decide_eq_true (by omega)
              clear c18
              by_cases c19 : 0 ≤ x10_3
              ·
               rw [if_pos c19] at H
               have c19b0 : decide (0 ≤ x10_3) = true := decide_eq_true c19
               clear c19
               by_cases c20 : x10_3 < (((rd_T34 l0 0).f0).length : Int)
               ·
                rw [if_pos c20] at H
                have c20b0 : decide (x10_3 < (((rd_T34 l0 0).f0).length : Int)) = true := decide_eq_true c20
                clear c20
                by_cases c21 : 0 < ([rd_T89 ((rd_T34 l0 0).f0) x10_3].length : Int)
                ·
                 rw [if_pos c21] at H
                 have c21b0 : decide (0 < ([rd_T89 ((rd_T34 l0 0).f0) x10_3].length : Int)) = true := decide_eq_true c21
                 have c21b1 : decide (0 < [rd_T89 ((rd_T34 l0 0).f0) x10_3].length) = true := decide_eq_true (by omega)
                 clear c21
                 by_cases c22 : ((rd_T89 ((rd_T34 l0 0).f0) x10_3).f0) = 2
                 ·
                  rw [if_pos c22] at H
                  have c22b0 : (((rd_T89 ((rd_T34 l0 0).f0) x10_3).f0) == 2) = true := beq_iff_eq.mpr c22
                  have c22b1 : (((rd_T89 ((rd_T34 l0 0).f0) x10_3).f0) != 2) = false := bne_eq_false_iff_eq.mpr c22
                  clear c22
                  by_cases c23 : 0 ≤ ((rd_T89 ((rd_T34 l0 0).f0) x10_3).f2.f0)
                  ·
                   rw [if_pos c23] at H
                   have c23b0 : decide (0 ≤ ((rd_T89 ((rd_T34 l0 0).f0) x10_3).f2.f0)) = true := decide_eq_true c23
                   clear c23
                   by_cases c24 : ((rd_T89 ((rd_T34 l0 0).f0) x10_3).f2.f0) < (l1.length : Int)
                   ·
                    rw [if_pos c24] at H
                    have c24b0 : decide (((rd_T89 ((rd_T34 l0 0).f0) x10_3).f2.f0) < (l1.length : Int)) = true := decide_eq_true c24
                    clear c24
                    obtain ⟨y226, hy226⟩ : ∃ y_ : List Int, y_ = (x7_3.set (x10_3 : Int).toNat (rd l1 ((rd_T89 ((rd_T34 l0 0).f0) x10_3).f2.f0))) := ⟨_, rfl⟩
                    replace H : (spec_l06Level.l2 k3 l0 l1 a2 y226 x9_2 (wrap64 (x10_3 + 1))) = some r := by first | (rw [hy226]; with_reducible exact H) | (have H2_ := (Option.bind_some _ _).symm.trans H; rw [hy226]; with_reducible exact H2_) | (have H2_ := (Option.bind_some _ _).symm.trans H; with_reducible exact H2_) | with_reducible exact H | (rw [hy226]; exact H) | exact H
                    have Ny226 := Aside0.mk hy226
                    clear hy226
                    have H' := Aside0.mk H
                    clear H
                    have q221 : 0 < (l0.length : Int) := of_decide_eq_true (by assumption)
                    obtain ⟨ad221, A221_0, c221_0, e221, hx221_0, hl221_0, hi221_0⟩ := rp_T34 HR0.out q221
                    obtain rfl : ad216 = ad221 := (by injection e221)
                    replace hx221_0 := (HB.out.cell (World.block_lt_of_cell? w _ hx221_0)).trans hx221_0
                    have HR221_0 := Aside0.mk hi221_0
                    have HC221_0 := Aside0.mk hl221_0
                    clear hi221_0 hl221_0
                    have p222 : 0 ≤ (x10_3 : Int) := of_decide_eq_true (by assumption)
                    have q222 : x10_3 < (((rd_T34 l0 0).f0).length : Int) := of_decide_eq_true (by assumption)
                    obtain ⟨ad222, e222, hx222_0, hx222_1, hx222_2, hx222_3, hx222_4⟩ := at_T89 HR221_0.out x10_3 p222 q222
                    cases e222
                    replace hx222_0 := (HB.out.cell (World.block_lt_of_cell? w _ hx222_0)).trans hx222_0
                    replace hx222_1 := (HB.out.cell (World.block_lt_of_cell? w _ hx222_1)).trans hx222_1
                    replace hx222_2 := (HB.out.cell (World.block_lt_of_cell? w _ hx222_2)).trans hx222_2
                    replace hx222_3 := (HB.out.cell (World.block_lt_of_cell? w _ hx222_3)).trans hx222_3
                    replace hx222_4 := (HB.out.cell (World.block_lt_of_cell? w _ hx222_4)).trans hx222_4
                    replace p222 := eq_true p222
                    replace q222 := eq_true q222
                    have HR223 := Aside0.mk (show Kd.C k89 w (some (Addr.add ad222 (x10_3.toNat * 5))) [rd_T89 ((rd_T34 l0 0).f0) x10_3].length [rd_T89 ((rd_T34 l0 0).f0) x10_3] from Kd.C_el k89 z89 HR221_0.out (x10_3 : Int) (of_eq_true p222) (of_eq_true q222))
                    have q224 : 0 < ([rd_T89 ((rd_T34 l0 0).f0) x10_3].length : Int) := of_decide_eq_true (by assumption)
                    obtain ⟨ad224, e224, hx224_0, hx224_1, hx224_2, hx224_3, hx224_4⟩ := rp_T89 HR223.out q224
                    (try simp only [rd1_T89] at hx224_0 hx224_1 hx224_2 hx224_3 hx224_4)
                    obtain rfl : (Addr.add ad222 (x10_3.toNat * 5)) = ad224 := (by injection e224)
                    replace hx224_0 := (HB.out.cell (World.block_lt_of_cell? w _ hx224_0)).trans hx224_0
                    replace hx224_1 := (HB.out.cell (World.block_lt_of_cell? w _ hx224_1)).trans hx224_1
                    replace hx224_2 := (HB.out.cell (World.block_lt_of_cell? w _ hx224_2)).trans hx224_2
                    replace hx224_3 := (HB.out.cell (World.block_lt_of_cell? w _ hx224_3)).trans hx224_3
                    replace hx224_4 := (HB.out.cell (World.block_lt_of_cell? w _ hx224_4)).trans hx224_4
                    have p225 : 0 ≤ (((rd_T89 ((rd_T34 l0 0).f0) x10_3).f2.f0) : Int) := of_decide_eq_true (by assumption)
                    have q225 : ((rd_T89 ((rd_T34 l0 0).f0) x10_3).f2.f0) < (l1.length : Int) := of_decide_eq_true (by assumption)
                    obtain ⟨ad225, e225, hx225_0⟩ := Kd.at_int HR1.out ((rd_T89 ((rd_T34 l0 0).f0) x10_3).f2.f0) p225 q225
                    cases e225
                    replace hx225_0 := (HB.out.cell (World.block_lt_of_cell? w _ hx225_0)).trans hx225_0
                    replace p225 := eq_true p225
                    replace q225 := eq_true q225
                    have p25 : 0 ≤ (x10_3 : Int) := of_decide_eq_true (by assumption)
                    have q25 : (x10_3 : Int) < ((x7_3.length : Int) : Int) := of_decide_eq_true (by assumption)
                    obtain ⟨go25, co25, eo25, gb25, gl25, cl25, HG25⟩ := Kd.R_form HO_7.out (by omega)
                    (first | cases eo25 | (injection eo25 with ea_ en_ ec_; (first | subst ea_ | (injection ea_ with ea_; subst ea_)); subst ec_; clear en_))
                    have GB25 := Aside0.mk gb25
                    have GG25 := Aside0.mk HG25
                    clear gb25 gl25 HG25
                    obtain ⟨hx25_0, hf25_0⟩ := Kd.R_celln 0 HO_7.out (x10_3 : Int) p25 q25
                    replace p25 := eq_true p25
                    replace q25 := eq_true q25
                    have HP26 := Kd.R_putg HO_7.out (x10_3 : Int) (rd l1 ((rd_T89 ((rd_T34 l0 0).f0) x10_3).f2.f0))
                    go_wp2_with (first | ((with_reducible refine gate_store (t := 2) (p := 64) rfl ?_); refine store_event (t := 2) (p := 64) (v := ?vo_w27) (w1 := (wr.setCell ⟨go25, (x10_3 : Int).toNat, none⟩ (.int .i64 (rd l1 ((rd_T89 ((rd_T34 l0 0).f0) x10_3).f2.f0))))) ?hg ?ho ?hn ?hr ?_; (case ho => rfl); (case hg => rfl); (case hn => rfl); (case hr => first | (go_simp; done) | (go_simp; rfl)); intro w27 hw; have hg : wr.grownBy w27 (some go25) := (by rw [hw]; exact HP26.2); have hp_ : Kd.R (Kd.int .i64) 2 w27 w.heap.size (fun _ => True) (.slice (some ⟨go25, 0, none⟩) x7_3.length co15) y226 := (by rw [hw, Ny226.out]; exact HP26.1); clear HP26; have n0_ := Aside0.mk (hp_); have n1_ := Aside0.mk ((by rw [hw]; exact below_set (HB.out) GB25.out : Below w.heap.size w w27)); clear HO_7; clear HB; have HO_7 := n0_; have HB := n1_; clear n0_ n1_; clear hg hw hp_))
                    (try simp only [← hl7_3])
                    go_roundg k3
                    case measure => have := HK1.out; have := HK2.out; have := HK3.out; omega
                    case rel => exact ⟨(y226), (wrap64 (x10_3 + 1)), (by first | rfl | (simp; done) | (simp [*]; done) | (simp [isE_]; done)), H', ⟨by have := HK1.out; have := HK2.out; have := HK3.out; omega⟩, ⟨by (try simp only [hl7_2]); (try simp only [hl7_3]); (with_reducible repeat (first | apply Kd.R_alloc | apply Kd.R_drewN | apply Kd.R_drew)); exact HO_7.out⟩, ⟨by repeat (first | (with_reducible first | exact HB.out | apply below_alloc | apply pw_below_drewN | apply below_drew1) | exact HB.out)⟩⟩
                   ·
                    rw [if_neg c24] at H
                    exact absurd H (by simp)
                  ·
                   rw [if_neg c23] at H
                   exact absurd H (by simp)
                 ·
                  rw [if_neg c22] at H
                  have c22b0 : (((rd_T89 ((rd_T34 l0 0).f0) x10_3).f0) == 2) = false := beq_eq_false_iff_ne.mpr c22
                  have c22b1 : (((rd_T89 ((rd_T34 l0 0).f0) x10_3).f0) != 2) = true := bne_iff_ne.mpr c22
                  have H' := Aside0.mk H
                  clear H
                  have q221 : 0 < (l0.length : Int) := of_decide_eq_true (by assumption)
                  obtain ⟨ad221, A221_0, c221_0, e221, hx221_0, hl221_0, hi221_0⟩ := rp_T34 HR0.out q221
                  obtain rfl : ad216 = ad221 := (by injection e221)
                  replace hx221_0 := (HB.out.cell (World.block_lt_of_cell? w _ hx221_0)).trans hx221_0
                  have HR221_0 := Aside0.mk hi221_0
                  have HC221_0 := Aside0.mk hl221_0
                  clear hi221_0 hl221_0
                  have p222 : 0 ≤ (x10_3 : Int) := of_decide_eq_true (by assumption)
                  have q222 : x10_3 < (((rd_T34 l0 0).f0).length : Int) := of_decide_eq_true (by assumption)
                  obtain ⟨ad222, e222, hx222_0, hx222_1, hx222_2, hx222_3, hx222_4⟩ := at_T89 HR221_0.out x10_3 p222 q222
                  cases e222
                  replace hx222_0 := (HB.out.cell (World.block_lt_of_cell? w _ hx222_0)).trans hx222_0
                  replace hx222_1 := (HB.out.cell (World.block_lt_of_cell? w _ hx222_1)).trans hx222_1
                  replace hx222_2 := (HB.out.cell (World.block_lt_of_cell? w _ hx222_2)).trans hx222_2
                  replace hx222_3 := (HB.out.cell (World.block_lt_of_cell? w _ hx222_3)).trans hx222_3
                  replace hx222_4 := (HB.out.cell (World.block_lt_of_cell? w _ hx222_4)).trans hx222_4
                  replace p222 := eq_true p222
                  replace q222 := eq_true q222
                  have HR223 := Aside0.mk (show Kd.C k89 w (some (Addr.add ad222 (x10_3.toNat * 5))) [rd_T89 ((rd_T34 l0 0).f0) x10_3].length [rd_T89 ((rd_T34 l0 0).f0) x10_3] from Kd.C_el k89 z89 HR221_0.out (x10_3 : Int) (of_eq_true p222) (of_eq_true q222))
                  have q224 : 0 < ([rd_T89 ((rd_T34 l0 0).f0) x10_3].length : Int) := of_decide_eq_true (by assumption)
                  obtain ⟨ad224, e224, hx224_0, hx224_1, hx224_2, hx224_3, hx224_4⟩ := rp_T89 HR223.out q224
                  (try simp only [rd1_T89] at hx224_0 hx224_1 hx224_2 hx224_3 hx224_4)
                  obtain rfl : (Addr.add ad222 (x10_3.toNat * 5)) = ad224 := (by injection e224)
                  replace hx224_0 := (HB.out.cell (World.block_lt_of_cell? w _ hx224_0)).trans hx224_0
                  replace hx224_1 := (HB.out.cell (World.block_lt_of_cell? w _ hx224_1)).trans hx224_1
                  replace hx224_2 := (HB.out.cell (World.block_lt_of_cell? w _ hx224_2)).trans hx224_2
                  replace hx224_3 := (HB.out.cell (World.block_lt_of_cell? w _ hx224_3)).trans hx224_3
                  replace hx224_4 := (HB.out.cell (World.block_lt_of_cell? w _ hx224_4)).trans hx224_4
                  go_wp2
                  go_loopg [12, 13, 14] k3 (fun kq v12 v13 v14 w' => ∃ (x12_4 : Int) (x13_4 : Bool) (x14_4 : Int), v12 = .int .i64 x12_4 ∧ v13 = .bool x13_4 ∧ v14 = .int .i64 x14_4 ∧ Aside0 (spec_l06Level.l3 kq l0 l1 a2 x7_3 x9_2 x10_3 [rd_T89 ((rd_T34 l0 0).f0) x10_3] x12_4 x13_4 x14_4 = some r) ∧ Aside0 (kq ≤ k3) ∧ Aside0 (Kd.R (Kd.int .i64) 2 w' w.heap.size (fun _ => True) (.slice Ao15 x7_3.length co15) x7_3) ∧ Aside0 (Below w.heap.size w w'))
                  case atStart => exact ⟨((-1)), (true), (0), (by first | rfl | (simp; done) | (simp [*]; done) | (simp [isE_]; done)), (by first | rfl | (simp; done) | (simp [*]; done) | (simp [isE_]; done)), (by first | rfl | (simp; done) | (simp [*]; done) | (simp [isE_]; done)), H', ⟨Nat.le_refl _⟩, ⟨by (try simp only [hl7_2]); (try simp only [hl7_3]); (with_reducible repeat (first | apply Kd.R_alloc | apply Kd.R_drewN | apply Kd.R_drew)); exact HO_7.out⟩, ⟨by repeat (first | (with_reducible first | exact HB.out | apply below_alloc | apply pw_below_drewN | apply below_drew1) | exact HB.out)⟩⟩
                  case round =>
                   clear H'
                   try clear c1
                   try clear p1
                   try clear q1
                   try clear hx1
                   try clear c2
                   try clear p2
                   try clear q2
                   try clear hx2
                   try clear c4
                   try clear c4b0
                   try clear c4b1
                   try clear c5
                   try clear c5b0
                   try clear c5b1
                   try clear c6
                   try clear c6b0
                   try clear c6b1
                   try clear p6
                   try clear c9
                   try clear c9b0
                   try clear c10
                   try clear c10b0
                   try clear c11
                   try clear p11
                   try clear q11
                   try clear hx11
                   try clear hf11
                   try clear c16
                   try clear c16b0
                   try clear c17
                   try clear c17b0
                   try clear c18
                   try clear c18b0
                   try clear c18b1
                   try clear c19
                   try clear c19b0
                   try clear c20
                   try clear c20b0
                   try clear c21
                   try clear c21b0
                   try clear c21b1
                   try clear q21
                   try clear hx21
                   try clear c22
                   try clear c22b0
                   try clear c22b1
                   try clear p22
                   try clear q22
                   try clear hx22
                   try clear c23
                   try clear c23b0
                   try clear c24
                   try clear c24b0
                   try clear p25
                   try clear q25
                   try clear hx25
                   try clear hf25
                   try clear hx11_0
                   try clear hx216_0
                   try clear hx221_0
                   try clear hx222_0
                   try clear hx222_1
                   try clear hx222_2
                   try clear hx222_3
                   try clear hx222_4
                   try clear hx224_0
                   try clear hx224_1
                   try clear hx224_2
                   try clear hx224_3
                   try clear hx224_4
                   try clear hx225_0
                   try clear hx25_0
                   try clear p1
                   try clear p11
                   try clear p2
                   try clear p222
                   try clear p225
                   try clear p25
                   try clear p6
                   try clear q1
                   try clear q11
                   try clear q2
                   try clear q216
                   try clear q221
                   try clear q222
                   try clear q224
                   try clear q225
                   try clear q25
                   obtain ⟨x12_4, x13_4, x14_4, rfl, rfl, rfl, HA, HK4, HO_7, HB⟩ := hrel
                   cases gk with
                   | zero => exact absurd HA.out (by simp [spec_l06Level.l3])
                   | succ k4 =>
                    have H := HA.out
                    clear HA
                    simp only [spec_l06Level.l3] at H
                    (repeat (first | rw [rd1_T89] at H))
                    by_cases c28 : x14_4 < 3
                    ·
                     rw [if_pos c28] at H
                     have c28b0 : decide (x14_4 < 3) = true := decide_eq_true c28
                     clear c28
                     by_cases c29 : 0 < ([rd_T89 ((rd_T34 l0 0).f0) x10_3].length : Int)
                     ·
                      rw [if_pos c29] at H
                      have c29b0 : decide (0 < ([rd_T89 ((rd_T34 l0 0).f0) x10_3].length : Int)) = true := decide_eq_true c29
                      have c29b1 : decide (0 < [rd_T89 ((rd_T34 l0 0).f0) x10_3].length) = true := decide_eq_true (by omega)
                      clear c29
                      by_cases c30 : 0 ≤ x14_4
                      ·
                       rw [if_pos c30] at H
                       have c30b0 : decide (0 ≤ x14_4) = true := decide_eq_true c30
                       clear c30
                       by_cases c31 : 0 ≤ (rd [(rd_T89 ((rd_T34 l0 0).f0) x10_3).f2.f0, (rd_T89 ((rd_T34 l0 0).f0) x10_3).f2.f1, (rd_T89 ((rd_T34 l0 0).f0) x10_3).f2.f2] x14_4)
                       ·
                        rw [if_pos c31] at H
                        have c31b0 : decide (0 ≤ (rd [(rd_T89 ((rd_T34 l0 0).f0) x10_3).f2.f0, (rd_T89 ((rd_T34 l0 0).f0) x10_3).f2.f1, (rd_T89 ((rd_T34 l0 0).f0) x10_3).f2.f2] x14_4)) = true := decide_eq_true c31
                        clear c31
                        by_cases c32 : (rd [(rd_T89 ((rd_T34 l0 0).f0) x10_3).f2.f0, (rd_T89 ((rd_T34 l0 0).f0) x10_3).f2.f1, (rd_T89 ((rd_T34 l0 0).f0) x10_3).f2.f2] x14_4) < (x7_3.length : Int)
                        ·
                         rw [if_pos c32] at H
                         have c32b0 : decide ((rd [(rd_T89 ((rd_T34 l0 0).f0) x10_3).f2.f0, (rd_T89 ((rd_T34 l0 0).f0) x10_3).f2.f1, (rd_T89 ((rd_T34 l0 0).f0) x10_3).f2.f2] x14_4) < (x7_3.length : Int)) = true := decide_eq_true c32
                         clear c32
                         by_cases c33 : (rd x7_3 (rd [(rd_T89 ((rd_T34 l0 0).f0) x10_3).f2.f0, (rd_T89 ((rd_T34 l0 0).f0) x10_3).f2.f1, (rd_T89 ((rd_T34 l0 0).f0) x10_3).f2.f2] x14_4)) < 0
                         ·
                          rw [if_pos c33] at H
                          have c33b0 : decide ((rd x7_3 (rd [(rd_T89 ((rd_T34 l0 0).f0) x10_3).f2.f0, (rd_T89 ((rd_T34 l0 0).f0) x10_3).f2.f1, (rd_T89 ((rd_T34 l0 0).f0) x10_3).f2.f2] x14_4)) < 0) = true := decide_eq_true c33
                          clear c33
                          by_cases c34 : x13_4 = true
                          ·
                           subst c34
                           have H1 : (spec_l06Level.l3 k4 l0 l1 a2 x7_3 x9_2 x10_3 [rd_T89 ((rd_T34 l0 0).f0) x10_3] x12_4 (!a2) (wrap64 (x14_4 + 1))) = some r := by first | (rw [if_pos rfl] at H; exact H) | rfl
                           clear H
                           have H := H1
                           clear H1
                           have H' := Aside0.mk H
                           clear H
                           have q228 : 0 < ([rd_T89 ((rd_T34 l0 0).f0) x10_3].length : Int) := of_decide_eq_true (by assumption)
                           obtain ⟨ad228, e228, hx228_0, hx228_1, hx228_2, hx228_3, hx228_4⟩ := rp_T89 HR223.out q228
                           (try simp only [rd1_T89] at hx228_0 hx228_1 hx228_2 hx228_3 hx228_4)
                           obtain rfl : (Addr.add ad222 (x10_3.toNat * 5)) = ad228 := (by injection e228)
                           replace hx228_0 := (HB.out.cell (World.block_lt_of_cell? w _ hx228_0)).trans hx228_0
                           replace hx228_1 := (HB.out.cell (World.block_lt_of_cell? w _ hx228_1)).trans hx228_1
                           replace hx228_2 := (HB.out.cell (World.block_lt_of_cell? w _ hx228_2)).trans hx228_2
                           replace hx228_3 := (HB.out.cell (World.block_lt_of_cell? w _ hx228_3)).trans hx228_3
                           replace hx228_4 := (HB.out.cell (World.block_lt_of_cell? w _ hx228_4)).trans hx228_4
                           have p229 : 0 ≤ (x14_4 : Int) := of_decide_eq_true (by assumption)
                           have q229 : (x14_4 : Int) < 3 := of_decide_eq_true (by assumption)
                           have hx229_0 := cell_arr3 hx228_2 hx228_3 hx228_4 x14_4 p229 q229
                           (try simp only [Nat.zero_add, Nat.add_zero] at hx229_0)
                           replace p229 := eq_true p229
                           replace q229 := eq_true q229
                           have p230 : 0 ≤ ((rd [(rd_T89 ((rd_T34 l0 0).f0) x10_3).f2.f0, (rd_T89 ((rd_T34 l0 0).f0) x10_3).f2.f1, (rd_T89 ((rd_T34 l0 0).f0) x10_3).f2.f2] x14_4) : Int) := of_decide_eq_true (by assumption)
                           have q230 : (rd [(rd_T89 ((rd_T34 l0 0).f0) x10_3).f2.f0, (rd_T89 ((rd_T34 l0 0).f0) x10_3).f2.f1, (rd_T89 ((rd_T34 l0 0).f0) x10_3).f2.f2] x14_4) < (x7_3.length : Int) := of_decide_eq_true (by assumption)
                           obtain ⟨ad230, e230, hx230_0⟩ := Kd.at_int (Kd.R_reads' HO_7.out).2.2 (rd [(rd_T89 ((rd_T34 l0 0).f0) x10_3).f2.f0, (rd_T89 ((rd_T34 l0 0).f0) x10_3).f2.f1, (rd_T89 ((rd_T34 l0 0).f0) x10_3).f2.f2] x14_4) p230 q230
                           cases e230
                           replace p230 := eq_true p230
                           replace q230 := eq_true q230
                           go_wp2
                           go_roundg k4
                           case measure => have := HK1.out; have := HK2.out; have := HK3.out; have := HK4.out; omega
                           case rel => exact ⟨(x12_4), (!a2), (wrap64 (x14_4 + 1)), (by first | rfl | (simp; done) | (simp [*]; done) | (simp [isE_]; done)), (by first | rfl | (simp; done) | (simp [*]; done) | (simp [isE_]; done)), (by first | rfl | (simp; done) | (simp [*]; done) | (simp [isE_]; done)), H', ⟨by have := HK1.out; have := HK2.out; have := HK3.out; have := HK4.out; omega⟩, ⟨by (try simp only [hl7_2]); (try simp only [hl7_3]); (with_reducible repeat (first | apply Kd.R_alloc | apply Kd.R_drewN | apply Kd.R_drew)); exact HO_7.out⟩, ⟨by repeat (first | (with_reducible first | exact HB.out | apply below_alloc | apply pw_below_drewN | apply below_drew1) | exact HB.out)⟩⟩
                          ·
                           replace c34 := Bool.eq_false_iff.mpr c34
                           subst c34
                           have H1 : (spec_l06Level.l3 k4 l0 l1 a2 x7_3 x9_2 x10_3 [rd_T89 ((rd_T34 l0 0).f0) x10_3] x12_4 false (wrap64 (x14_4 + 1))) = some r := by first | (rw [if_neg (show ¬ (false = true) by decide)] at H; exact H) | rfl
                           clear H
                           have H := H1
                           clear H1
                           have H' := Aside0.mk H
                           clear H
                           have q228 : 0 < ([rd_T89 ((rd_T34 l0 0).f0) x10_3].length : Int) := of_decide_eq_true (by assumption)
                           obtain ⟨ad228, e228, hx228_0, hx228_1, hx228_2, hx228_3, hx228_4⟩ := rp_T89 HR223.out q228
                           (try simp only [rd1_T89] at hx228_0 hx228_1 hx228_2 hx228_3 hx228_4)
                           obtain rfl : (Addr.add ad222 (x10_3.toNat * 5)) = ad228 := (by injection e228)
                           replace hx228_0 := (HB.out.cell (World.block_lt_of_cell? w _ hx228_0)).trans hx228_0
                           replace hx228_1 := (HB.out.cell (World.block_lt_of_cell? w _ hx228_1)).trans hx228_1
                           replace hx228_2 := (HB.out.cell (World.block_lt_of_cell? w _ hx228_2)).trans hx228_2
                           replace hx228_3 := (HB.out.cell (World.block_lt_of_cell? w _ hx228_3)).trans hx228_3
                           replace hx228_4 := (HB.out.cell (World.block_lt_of_cell? w _ hx228_4)).trans hx228_4
                           have p229 : 0 ≤ (x14_4 : Int) := of_decide_eq_true (by assumption)
                           have q229 : (x14_4 : Int) < 3 := of_decide_eq_true (by assumption)
                           have hx229_0 := cell_arr3 hx228_2 hx228_3 hx228_4 x14_4 p229 q229
                           (try simp only [Nat.zero_add, Nat.add_zero] at hx229_0)
                           replace p229 := eq_true p229
                           replace q229 := eq_true q229
                           have p230 : 0 ≤ ((rd [(rd_T89 ((rd_T34 l0 0).f0) x10_3).f2.f0, (rd_T89 ((rd_T34 l0 0).f0) x10_3).f2.f1, (rd_T89 ((rd_T34 l0 0).f0) x10_3).f2.f2] x14_4) : Int) := of_decide_eq_true (by assumption)
                           have q230 : (rd [(rd_T89 ((rd_T34 l0 0).f0) x10_3).f2.f0, (rd_T89 ((rd_T34 l0 0).f0) x10_3).f2.f1, (rd_T89 ((rd_T34 l0 0).f0) x10_3).f2.f2] x14_4) < (x7_3.length : Int) := of_decide_eq_true (by assumption)
                           obtain ⟨ad230, e230, hx230_0⟩ := Kd.at_int (Kd.R_reads' HO_7.out).2.2 (rd [(rd_T89 ((rd_T34 l0 0).f0) x10_3).f2.f0, (rd_T89 ((rd_T34 l0 0).f0) x10_3).f2.f1, (rd_T89 ((rd_T34 l0 0).f0) x10_3).f2.f2] x14_4) p230 q230
                           cases e230
                           replace p230 := eq_true p230
                           replace q230 := eq_true q230
                           go_wp2
                           go_roundg k4
                           case measure => have := HK1.out; have := HK2.out; have := HK3.out; have := HK4.out; omega
                           case rel => exact ⟨(x12_4), (false), (wrap64 (x14_4 + 1)), (by first | rfl | (simp; done) | (simp [*]; done) | (simp [isE_]; done)), (by first | rfl | (simp; done) | (simp [*]; done) | (simp [isE_]; done)), (by first | rfl | (simp; done) | (simp [*]; done) | (simp [isE_]; done)), H', ⟨by have := HK1.out; have := HK2.out; have := HK3.out; have := HK4.out; omega⟩, ⟨by (try simp only [hl7_2]); (try simp only [hl7_3]); (with_reducible repeat (first | apply Kd.R_alloc | apply Kd.R_drewN | apply Kd.R_drew)); exact HO_7.out⟩, ⟨by repeat (first | (with_reducible first | exact HB.out | apply below_alloc | apply pw_below_drewN | apply below_drew1) | exact HB.out)⟩⟩
                         ·
                          rw [if_neg c33] at H
                          have c33b0 : decide ((rd x7_3 (rd [(rd_T89 ((rd_T34 l0 0).f0) x10_3).f2.f0, (rd_T89 ((rd_T34 l0 0).f0) x10_3).f2.f1, (rd_T89 ((rd_T34 l0 0).f0) x10_3).f2.f2] x14_4)) < 0) = false := decide_eq_false c33
                          clear c33
                          by_cases c35 : x12_4 < 0
                          ·
                           rw [if_pos c35] at H
                           have c35b0 : decide (x12_4 < 0) = true := decide_eq_true c35
                           clear c35
                           have H' := Aside0.mk H
                           clear H
                           have q228 : 0 < ([rd_T89 ((rd_T34 l0 0).f0) x10_3].length : Int) := of_decide_eq_true (by assumption)
                           obtain ⟨ad228, e228, hx228_0, hx228_1, hx228_2, hx228_3, hx228_4⟩ := rp_T89 HR223.out q228
                           (try simp only [rd1_T89] at hx228_0 hx228_1 hx228_2 hx228_3 hx228_4)
                           obtain rfl : (Addr.add ad222 (x10_3.toNat * 5)) = ad228 := (by injection e228)
                           replace hx228_0 := (HB.out.cell (World.block_lt_of_cell? w _ hx228_0)).trans hx228_0
                           replace hx228_1 := (HB.out.cell (World.block_lt_of_cell? w _ hx228_1)).trans hx228_1
                           replace hx228_2 := (HB.out.cell (World.block_lt_of_cell? w _ hx228_2)).trans hx228_2
                           replace hx228_3 := (HB.out.cell (World.block_lt_of_cell? w _ hx228_3)).trans hx228_3
                           replace hx228_4 := (HB.out.cell (World.block_lt_of_cell? w _ hx228_4)).trans hx228_4
                           have p229 : 0 ≤ (x14_4 : Int) := of_decide_eq_true (by assumption)
                           have q229 : (x14_4 : Int) < 3 := of_decide_eq_true (by assumption)
                           have hx229_0 := cell_arr3 hx228_2 hx228_3 hx228_4 x14_4 p229 q229
                           (try simp only [Nat.zero_add, Nat.add_zero] at hx229_0)
                           replace p229 := eq_true p229
                           replace q229 := eq_true q229
                           have p230 : 0 ≤ ((rd [(rd_T89 ((rd_T34 l0 0).f0) x10_3).f2.f0, (rd_T89 ((rd_T34 l0 0).f0) x10_3).f2.f1, (rd_T89 ((rd_T34 l0 0).f0) x10_3).f2.f2] x14_4) : Int) := of_decide_eq_true (by assumption)
                           have q230 : (rd [(rd_T89 ((rd_T34 l0 0).f0) x10_3).f2.f0, (rd_T89 ((rd_T34 l0 0).f0) x10_3).f2.f1, (rd_T89 ((rd_T34 l0 0).f0) x10_3).f2.f2] x14_4) < (x7_3.length : Int) := of_decide_eq_true (by assumption)
                           obtain ⟨ad230, e230, hx230_0⟩ := Kd.at_int (Kd.R_reads' HO_7.out).2.2 (rd [(rd_T89 ((rd_T34 l0 0).f0) x10_3).f2.f0, (rd_T89 ((rd_T34 l0 0).f0) x10_3).f2.f1, (rd_T89 ((rd_T34 l0 0).f0) x10_3).f2.f2] x14_4) p230 q230
                           cases e230
                           replace p230 := eq_true p230
                           replace q230 := eq_true q230
                           go_wp2
                           go_roundg k4
                           case measure => have := HK1.out; have := HK2.out; have := HK3.out; have := HK4.out; omega
                           case rel => exact ⟨(rd x7_3 (rd [(rd_T89 ((rd_T34 l0 0).f0) x10_3).f2.f0, (rd_T89 ((rd_T34 l0 0).f0) x10_3).f2.f1, (rd_T89 ((rd_T34 l0 0).f0) x10_3).f2.f2] x14_4)), (x13_4), (wrap64 (x14_4 + 1)), (by first | rfl | (simp; done) | (simp [*]; done) | (simp [isE_]; done)), (by first | rfl | (simp; done) | (simp [*]; done) | (simp [isE_]; done)), (by first | rfl | (simp; done) | (simp [*]; done) | (simp [isE_]; done)), H', ⟨by have := HK1.out; have := HK2.out; have := HK3.out; have := HK4.out; omega⟩, ⟨by (try simp only [hl7_2]); (try simp only [hl7_3]); (with_reducible repeat (first | apply Kd.R_alloc | apply Kd.R_drewN | apply Kd.R_drew)); exact HO_7.out⟩, ⟨by repeat (first | (with_reducible first | exact HB.out | apply below_alloc | apply pw_below_drewN | apply below_drew1) | exact HB.out)⟩⟩
                          ·
                           rw [if_neg c35] at H
                           have c35b0 : decide (x12_4 < 0) = false := decide_eq_false c35
                           clear c35
                           by_cases c36 : a2 = true
                           ·
                            subst c36
                            have H1 : (if (rd x7_3 (rd [(rd_T89 ((rd_T34 l0 0).f0) x10_3).f2.f0, (rd_T89 ((rd_T34 l0 0).f0) x10_3).f2.f1, (rd_T89 ((rd_T34 l0 0).f0) x10_3).f2.f2] x14_4)) > x12_4 then (spec_l06Level.l3 k4 l0 l1 true x7_3 x9_2 x10_3 [rd_T89 ((rd_T34 l0 0).f0) x10_3] (rd x7_3 (rd [(rd_T89 ((rd_T34 l0 0).f0) x10_3).f2.f0, (rd_T89 ((rd_T34 l0 0).f0) x10_3).f2.f1, (rd_T89 ((rd_T34 l0 0).f0) x10_3).f2.f2] x14_4)) x13_4 (wrap64 (x14_4 + 1))) else (spec_l06Level.l3 k4 l0 l1 true x7_3 x9_2 x10_3 [rd_T89 ((rd_T34 l0 0).f0) x10_3] x12_4 x13_4 (wrap64 (x14_4 + 1)))) = some r := by first | (rw [if_pos rfl] at H; exact H) | rfl
                            clear H
                            have H := H1
                            clear H1
                            by_cases c37 : (rd x7_3 (rd [(rd_T89 ((rd_T34 l0 0).f0) x10_3).f2.f0, (rd_T89 ((rd_T34 l0 0).f0) x10_3).f2.f1, (rd_T89 ((rd_T34 l0 0).f0) x10_3).f2.f2] x14_4)) > x12_4
                            ·
                             rw [if_pos c37] at H
                             have c37b0 : decide (x12_4 < (rd x7_3 (rd [(rd_T89 ((rd_T34 l0 0).f0) x10_3).f2.f0, (rd_T89 ((rd_T34 l0 0).f0) x10_3).f2.f1, (rd_T89 ((rd_T34 l0 0).f0) x10_3).f2.f2] x14_4))) = true := decide_eq_true c37
                             clear c37
                             have H' := Aside0.mk H
                             clear H
                             have q228 : 0 < ([rd_T89 ((rd_T34 l0 0).f0) x10_3].length : Int) := of_decide_eq_true (by assumption)
                             obtain ⟨ad228, e228, hx228_0, hx228_1, hx228_2, hx228_3, hx228_4⟩ := rp_T89 HR223.out q228
                             (try simp only [rd1_T89] at hx228_0 hx228_1 hx228_2 hx228_3 hx228_4)
                             obtain rfl : (Addr.add ad222 (x10_3.toNat * 5)) = ad228 := (by injection e228)
                             replace hx228_0 := (HB.out.cell (World.block_lt_of_cell? w _ hx228_0)).trans hx228_0
                             replace hx228_1 := (HB.out.cell (World.block_lt_of_cell? w _ hx228_1)).trans hx228_1
                             replace hx228_2 := (HB.out.cell (World.block_lt_of_cell? w _ hx228_2)).trans hx228_2
                             replace hx228_3 := (HB.out.cell (World.block_lt_of_cell? w _ hx228_3)).trans hx228_3
                             replace hx228_4 := (HB.out.cell (World.block_lt_of_cell? w _ hx228_4)).trans hx228_4
                             have p229 : 0 ≤ (x14_4 : Int) := of_decide_eq_true (by assumption)
                             have q229 : (x14_4 : Int) < 3 := of_decide_eq_true (by assumption)
                             have hx229_0 := cell_arr3 hx228_2 hx228_3 hx228_4 x14_4 p229 q229
                             (try simp only [Nat.zero_add, Nat.add_zero] at hx229_0)
                             replace p229 := eq_true p229
                             replace q229 := eq_true q229
                             have p230 : 0 ≤ ((rd [(rd_T89 ((rd_T34 l0 0).f0) x10_3).f2.f0, (rd_T89 ((rd_T34 l0 0).f0) x10_3).f2.f1, (rd_T89 ((rd_T34 l0 0).f0) x10_3).f2.f2] x14_4) : Int) := of_decide_eq_true (by assumption)
                             have q230 : (rd [(rd_T89 ((rd_T34 l0 0).f0) x10_3).f2.f0, (rd_T89 ((rd_T34 l0 0).f0) x10_3).f2.f1, (rd_T89 ((rd_T34 l0 0).f0) x10_3).f2.f2] x14_4) < (x7_3.length : Int) := of_decide_eq_true (by assumption)
                             obtain ⟨ad230, e230, hx230_0⟩ := Kd.at_int (Kd.R_reads' HO_7.out).2.2 (rd [(rd_T89 ((rd_T34 l0 0).f0) x10_3).f2.f0, (rd_T89 ((rd_T34 l0 0).f0) x10_3).f2.f1, (rd_T89 ((rd_T34 l0 0).f0) x10_3).f2.f2] x14_4) p230 q230
                             cases e230
                             replace p230 := eq_true p230
                             replace q230 := eq_true q230
                             go_wp2
                             go_roundg k4
                             case measure => have := HK1.out; have := HK2.out; have := HK3.out; have := HK4.out; omega
                             case rel => exact ⟨(rd x7_3 (rd [(rd_T89 ((rd_T34 l0 0).f0) x10_3).f2.f0, (rd_T89 ((rd_T34 l0 0).f0) x10_3).f2.f1, (rd_T89 ((rd_T34 l0 0).f0) x10_3).f2.f2] x14_4)), (x13_4), (wrap64 (x14_4 + 1)), (by first | rfl | (simp; done) | (simp [*]; done) | (simp [isE_]; done)), (by first | rfl | (simp; done) | (simp [*]; done) | (simp [isE_]; done)), (by first | rfl | (simp; done) | (simp [*]; done) | (simp [isE_]; done)), H', ⟨by have := HK1.out; have := HK2.out; have := HK3.out; have := HK4.out; omega⟩, ⟨by (try simp only [hl7_2]); (try simp only [hl7_3]); (with_reducible repeat (first | apply Kd.R_alloc | apply Kd.R_drewN | apply Kd.R_drew)); exact HO_7.out⟩, ⟨by repeat (first | (with_reducible first | exact HB.out | apply below_alloc | apply pw_below_drewN | apply below_drew1) | exact HB.out)⟩⟩
                            ·
                             rw [if_neg c37] at H
                             have c37b0 : decide (x12_4 < (rd x7_3 (rd [(rd_T89 ((rd_T34 l0 0).f0) x10_3).f2.f0, (rd_T89 ((rd_T34 l0 0).f0) x10_3).f2.f1, (rd_T89 ((rd_T34 l0 0).f0) x10_3).f2.f2] x14_4))) = false := decide_eq_false c37
                             clear c37
                             have H' := Aside0.mk H
                             clear H
                             have q228 : 0 < ([rd_T89 ((rd_T34 l0 0).f0) x10_3].length : Int) := of_decide_eq_true (by assumption)
                             obtain ⟨ad228, e228, hx228_0, hx228_1, hx228_2, hx228_3, hx228_4⟩ := rp_T89 HR223.out q228
                             (try simp only [rd1_T89] at hx228_0 hx228_1 hx228_2 hx228_3 hx228_4)
                             obtain rfl : (Addr.add ad222 (x10_3.toNat * 5)) = ad228 := (by injection e228)
                             replace hx228_0 := (HB.out.cell (World.block_lt_of_cell? w _ hx228_0)).trans hx228_0
                             replace hx228_1 := (HB.out.cell (World.block_lt_of_cell? w _ hx228_1)).trans hx228_1
                             replace hx228_2 := (HB.out.cell (World.block_lt_of_cell? w _ hx228_2)).trans hx228_2
                             replace hx228_3 := (HB.out.cell (World.block_lt_of_cell? w _ hx228_3)).trans hx228_3
                             replace hx228_4 := (HB.out.cell (World.block_lt_of_cell? w _ hx228_4)).trans hx228_4
                             have p229 : 0 ≤ (x14_4 : Int) := of_decide_eq_true (by assumption)
                             have q229 : (x14_4 : Int) < 3 := of_decide_eq_true (by assumption)
                             have hx229_0 := cell_arr3 hx228_2 hx228_3 hx228_4 x14_4 p229 q229
                             (try simp only [Nat.zero_add, Nat.add_zero] at hx229_0)
                             replace p229 := eq_true p229
                             replace q229 := eq_true q229
                             have p230 : 0 ≤ ((rd [(rd_T89 ((rd_T34 l0 0).f0) x10_3).f2.f0, (rd_T89 ((rd_T34 l0 0).f0) x10_3).f2.f1, (rd_T89 ((rd_T34 l0 0).f0) x10_3).f2.f2] x14_4) : Int) := of_decide_eq_true (by assumption)
                             have q230 : (rd [(rd_T89 ((rd_T34 l0 0).f0) x10_3).f2.f0, (rd_T89 ((rd_T34 l0 0).f0) x10_3).f2.f1, (rd_T89 ((rd_T34 l0 0).f0) x10_3).f2.f2] x14_4) < (x7_3.length : Int) := of_decide_eq_true (by assumption)
                             obtain ⟨ad230, e230, hx230_0⟩ := Kd.at_int (Kd.R_reads' HO_7.out).2.2 (rd [(rd_T89 ((rd_T34 l0 0).f0) x10_3).f2.f0, (rd_T89 ((rd_T34 l0 0).f0) x10_3).f2.f1, (rd_T89 ((rd_T34 l0 0).f0) x10_3).f2.f2] x14_4) p230 q230
                             cases e230
                             replace p230 := eq_true p230
                             replace q230 := eq_true q230
                             go_wp2
                             go_roundg k4
                             case measure => have := HK1.out; have := HK2.out; have := HK3.out; have := HK4.out; omega
                             case rel => exact ⟨(x12_4), (x13_4), (wrap64 (x14_4 + 1)), (by first | rfl | (simp; done) | (simp [*]; done) | (simp [isE_]; done)), (by first | rfl | (simp; done) | (simp [*]; done) | (simp [isE_]; done)), (by first | rfl | (simp; done) | (simp [*]; done) | (simp [isE_]; done)), H', ⟨by have := HK1.out; have := HK2.out; have := HK3.out; have := HK4.out; omega⟩, ⟨by (try simp only [hl7_2]); (try simp only [hl7_3]); (with_reducible repeat (first | apply Kd.R_alloc | apply Kd.R_drewN | apply Kd.R_drew)); exact HO_7.out⟩, ⟨by repeat (first | (with_reducible first | exact HB.out | apply below_alloc | apply pw_below_drewN | apply below_drew1) | exact HB.out)⟩⟩
                           ·
                            replace c36 := Bool.eq_false_iff.mpr c36
                            subst c36
                            have H1 : (if (rd x7_3 (rd [(rd_T89 ((rd_T34 l0 0).f0) x10_3).f2.f0, (rd_T89 ((rd_T34 l0 0).f0) x10_3).f2.f1, (rd_T89 ((rd_T34 l0 0).f0) x10_3).f2.f2] x14_4)) < x12_4 then (spec_l06Level.l3 k4 l0 l1 false x7_3 x9_2 x10_3 [rd_T89 ((rd_T34 l0 0).f0) x10_3] (rd x7_3 (rd [(rd_T89 ((rd_T34 l0 0).f0) x10_3).f2.f0, (rd_T89 ((rd_T34 l0 0).f0) x10_3).f2.f1, (rd_T89 ((rd_T34 l0 0).f0) x10_3).f2.f2] x14_4)) x13_4 (wrap64 (x14_4 + 1))) else (spec_l06Level.l3 k4 l0 l1 false x7_3 x9_2 x10_3 [rd_T89 ((rd_T34 l0 0).f0) x10_3] x12_4 x13_4 (wrap64 (x14_4 + 1)))) = some r := by first | (rw [if_neg (show ¬ (false = true) by decide)] at H; exact H) | rfl
                            clear H
                            have H := H1
                            clear H1
                            by_cases c38 : (rd x7_3 (rd [(rd_T89 ((rd_T34 l0 0).f0) x10_3).f2.f0, (rd_T89 ((rd_T34 l0 0).f0) x10_3).f2.f1, (rd_T89 ((rd_T34 l0 0).f0) x10_3).f2.f2] x14_4)) < x12_4
                            ·
                             rw [if_pos c38] at H
                             have c38b0 : decide ((rd x7_3 (rd [(rd_T89 ((rd_T34 l0 0).f0) x10_3).f2.f0, (rd_T89 ((rd_T34 l0 0).f0) x10_3).f2.f1, (rd_T89 ((rd_T34 l0 0).f0) x10_3).f2.f2] x14_4)) < x12_4) = true := decide_eq_true c38
                             clear c38
                             have H' := Aside0.mk H
                             clear H
                             have q228 : 0 < ([rd_T89 ((rd_T34 l0 0).f0) x10_3].length : Int) := of_decide_eq_true (by assumption)
                             obtain ⟨ad228, e228, hx228_0, hx228_1, hx228_2, hx228_3, hx228_4⟩ := rp_T89 HR223.out q228
                             (try simp only [rd1_T89] at hx228_0 hx228_1 hx228_2 hx228_3 hx228_4)
                             obtain rfl : (Addr.add ad222 (x10_3.toNat * 5)) = ad228 := (by injection e228)
                             replace hx228_0 := (HB.out.cell (World.block_lt_of_cell? w _ hx228_0)).trans hx228_0
                             replace hx228_1 := (HB.out.cell (World.block_lt_of_cell? w _ hx228_1)).trans hx228_1
                             replace hx228_2 := (HB.out.cell (World.block_lt_of_cell? w _ hx228_2)).trans hx228_2
                             replace hx228_3 := (HB.out.cell (World.block_lt_of_cell? w _ hx228_3)).trans hx228_3
                             replace hx228_4 := (HB.out.cell (World.block_lt_of_cell? w _ hx228_4)).trans hx228_4
                             have p229 : 0 ≤ (x14_4 : Int) := of_decide_eq_true (by assumption)
                             have q229 : (x14_4 : Int) < 3 := of_decide_eq_true (by assumption)
                             have hx229_0 := cell_arr3 hx228_2 hx228_3 hx228_4 x14_4 p229 q229
                             (try simp only [Nat.zero_add, Nat.add_zero] at hx229_0)
                             replace p229 := eq_true p229
                             replace q229 := eq_true q229
                             have p230 : 0 ≤ ((rd [(rd_T89 ((rd_T34 l0 0).f0) x10_3).f2.f0, (rd_T89 ((rd_T34 l0 0).f0) x10_3).f2.f1, (rd_T89 ((rd_T34 l0 0).f0) x10_3).f2.f2] x14_4) : Int) := of_decide_eq_true (by assumption)
                             have q230 : (rd [(rd_T89 ((rd_T34 l0 0).f0) x10_3).f2.f0, (rd_T89 ((rd_T34 l0 0).f0) x10_3).f2.f1, (rd_T89 ((rd_T34 l0 0).f0) x10_3).f2.f2] x14_4) < (x7_3.length : Int) := of_decide_eq_true (by assumption)
                             obtain ⟨ad230, e230, hx230_0⟩ := Kd.at_int (Kd.R_reads' HO_7.out).2.2 (rd [(rd_T89 ((rd_T34 l0 0).f0) x10_3).f2.f0, (rd_T89 ((rd_T34 l0 0).f0) x10_3).f2.f1, (rd_T89 ((rd_T34 l0 0).f0) x10_3).f2.f2] x14_4) p230 q230
                             cases e230
                             replace p230 := eq_true p230
                             replace q230 := eq_true q230
                             go_wp2
                             go_roundg k4
                             case measure => have := HK1.out; have := HK2.out; have := HK3.out; have := HK4.out; omega
                             case rel => exact ⟨(rd x7_3 (rd [(rd_T89 ((rd_T34 l0 0).f0) x10_3).f2.f0, (rd_T89 ((rd_T34 l0 0).f0) x10_3).f2.f1, (rd_T89 ((rd_T34 l0 0).f0) x10_3).f2.f2] x14_4)), (x13_4), (wrap64 (x14_4 + 1)), (by first | rfl | (simp; done) | (simp [*]; done) | (simp [isE_]; done)), (by first | rfl | (simp; done) | (simp [*]; done) | (simp [isE_]; done)), (by first | rfl | (simp; done) | (simp [*]; done) | (simp [isE_]; done)), H', ⟨by have := HK1.out; have := HK2.out; have := HK3.out; have := HK4.out; omega⟩, ⟨by (try simp only [hl7_2]); (try simp only [hl7_3]); (with_reducible repeat (first | apply Kd.R_alloc | apply Kd.R_drewN | apply Kd.R_drew)); exact HO_7.out⟩, ⟨by repeat (first | (with_reducible first | exact HB.out | apply below_alloc | apply pw_below_drewN | apply below_drew1) | exact HB.out)⟩⟩
                            ·
                             rw [if_neg c38] at H
                             have c38b0 : decide ((rd x7_3 (rd [(rd_T89 ((rd_T34 l0 0).f0) x10_3).f2.f0, (rd_T89 ((rd_T34 l0 0).f0) x10_3).f2.f1, (rd_T89 ((rd_T34 l0 0).f0) x10_3).f2.f2] x14_4)) < x12_4) = false := decide_eq_false c38
                             clear c38
                             have H' := Aside0.mk H
                             clear H
                             have q228 : 0 < ([rd_T89 ((rd_T34 l0 0).f0) x10_3].length : Int) := of_decide_eq_true (by assumption)
                             obtain ⟨ad228, e228, hx228_0, hx228_1, hx228_2, hx228_3, hx228_4⟩ := rp_T89 HR223.out q228
                             (try simp only [rd1_T89] at hx228_0 hx228_1 hx228_2 hx228_3 hx228_4)
                             obtain rfl : (Addr.add ad222 (x10_3.toNat * 5)) = ad228 := (by injection e228)
                             replace hx228_0 := (HB.out.cell (World.block_lt_of_cell? w _ hx228_0)).trans hx228_0
                             replace hx228_1 := (HB.out.cell (World.block_lt_of_cell? w _ hx228_1)).trans hx228_1
                             replace hx228_2 := (HB.out.cell (World.block_lt_of_cell? w _ hx228_2)).trans hx228_2
                             replace hx228_3 := (HB.out.cell (World.block_lt_of_cell? w _ hx228_3)).trans hx228_3
                             replace hx228_4 := (HB.out.cell (World.block_lt_of_cell? w _ hx228_4)).trans hx228_4
                             have p229 : 0 ≤ (x14_4 : Int) := of_decide_eq_true (by assumption)
                             have q229 : (x14_4 : Int) < 3 := of_decide_eq_true (by assumption)
                             have hx229_0 := cell_arr3 hx228_2 hx228_3 hx228_4 x14_4 p229 q229
                             (try simp only [Nat.zero_add, Nat.add_zero] at hx229_0)
                             replace p229 := eq_true p229
                             replace q229 := eq_true q229
                             have p230 : 0 ≤ ((rd [(rd_T89 ((rd_T34 l0 0).f0) x10_3).f2.f0, (rd_T89 ((rd_T34 l0 0).f0) x10_3).f2.f1, (rd_T89 ((rd_T34 l0 0).f0) x10_3).f2.f2] x14_4) : Int) := of_decide_eq_true (by assumption)
                             have q230 : (rd [(rd_T89 ((rd_T34 l0 0).f0) x10_3).f2.f0, (rd_T89 ((rd_T34 l0 0).f0) x10_3).f2.f1, (rd_T89 ((rd_T34 l0 0).f0) x10_3).f2.f2] x14_4) < (x7_3.length : Int) := of_decide_eq_true (by assumption)
                             obtain ⟨ad230, e230, hx230_0⟩ := Kd.at_int (Kd.R_reads' HO_7.out).2.2 (rd [(rd_T89 ((rd_T34 l0 0).f0) x10_3).f2.f0, (rd_T89 ((rd_T34 l0 0).f0) x10_3).f2.f1, (rd_T89 ((rd_T34 l0 0).f0) x10_3).f2.f2] x14_4) p230 q230
                             cases e230
                             replace p230 := eq_true p230
                             replace q230 := eq_true q230
                             go_wp2
                             go_roundg k4
                             case measure => have := HK1.out; have := HK2.out; have := HK3.out; have := HK4.out; omega
                             case rel => exact ⟨(x12_4), (x13_4), (wrap64 (x14_4 + 1)), (by first | rfl | (simp; done) | (simp [*]; done) | (simp [isE_]; done)), (by first | rfl | (simp; done) | (simp [*]; done) | (simp [isE_]; done)), (by first | rfl | (simp; done) | (simp [*]; done) | (simp [isE_]; done)), H', ⟨by have := HK1.out; have := HK2.out; have := HK3.out; have := HK4.out; omega⟩, ⟨by (try simp only [hl7_2]); (try simp only [hl7_3]); (with_reducible repeat (first | apply Kd.R_alloc | apply Kd.R_drewN | apply Kd.R_drew)); exact HO_7.out⟩, ⟨by repeat (first | (with_reducible first | exact HB.out | apply below_alloc | apply pw_below_drewN | apply below_drew1) | exact HB.out)⟩⟩
                        ·
                         rw [if_neg c32] at H
                         exact absurd H (by simp)
                       ·
                        rw [if_neg c31] at H
                        exact absurd H (by simp)
                      ·
                       rw [if_neg c30] at H
                       exact absurd H (by simp)
                     ·
                      rw [if_neg c29] at H
                      exact absurd H (by simp)
                    ·
                     rw [if_neg c28] at H
                     have c28b0 : decide (x14_4 < 3) = false := decide_eq_false c28
                     clear c28
                     by_cases c39 : x13_4 = true
                     ·
                      subst c39
                      have H1 : (if x12_4 ≥ 0 then (if 0 ≤ x10_3 then (if x10_3 < (x7_3.length : Int) then (spec_l06Level.l2 k4 l0 l1 a2 (x7_3.set (x10_3 : Int).toNat (wrap64 (x12_4 + 1))) x9_2 (wrap64 (x10_3 + 1))) else (none)) else (none)) else (spec_l06Level.l2 k4 l0 l1 a2 x7_3 x9_2 (wrap64 (x10_3 + 1)))) = some r := by first | (rw [if_pos rfl] at H; exact H) | rfl
                      clear H
                      have H := H1
                      clear H1
                      by_cases c40 : x12_4 ≥ 0
                      ·
                       rw [if_pos c40] at H
                       have c40b0 : decide (0 ≤ x12_4) = true := decide_eq_true c40
                       clear c40
                       by_cases c41 : 0 ≤ x10_3
                       ·
                        rw [if_pos c41] at H
                        have c41b0 : decide (0 ≤ x10_3) = true := decide_eq_true c41
                        clear c41
                        by_cases c42 : x10_3 < (x7_3.length : Int)
                        ·
                         rw [if_pos c42] at H
                         have c42b0 : decide (x10_3 < (x7_3.length : Int)) = true := decide_eq_true c42
                         clear c42
                         obtain ⟨y227, hy227⟩ : ∃ y_ : List Int, y_ = (x7_3.set (x10_3 : Int).toNat (wrap64 (x12_4 + 1))) := ⟨_, rfl⟩
                         replace H : (spec_l06Level.l2 k4 l0 l1 a2 y227 x9_2 (wrap64 (x10_3 + 1))) = some r := by first | (rw [hy227]; with_reducible exact H) | (have H2_ := (Option.bind_some _ _).symm.trans H; rw [hy227]; with_reducible exact H2_) | (have H2_ := (Option.bind_some _ _).symm.trans H; with_reducible exact H2_) | with_reducible exact H | (rw [hy227]; exact H) | exact H
                         have Ny227 := Aside0.mk hy227
                         clear hy227
                         have H' := Aside0.mk H
                         clear H
                         have p43 : 0 ≤ (x10_3 : Int) := of_decide_eq_true (by assumption)
                         have q43 : (x10_3 : Int) < ((x7_3.length : Int) : Int) := of_decide_eq_true (by assumption)
                         obtain ⟨go43, co43, eo43, gb43, gl43, cl43, HG43⟩ := Kd.R_form HO_7.out (by omega)
                         (first | cases eo43 | (injection eo43 with ea_ en_ ec_; (first | subst ea_ | (injection ea_ with ea_; subst ea_)); subst ec_; clear en_))
                         have GB43 := Aside0.mk gb43
                         have GG43 := Aside0.mk HG43
                         clear gb43 gl43 HG43
                         obtain ⟨hx43_0, hf43_0⟩ := Kd.R_celln 0 HO_7.out (x10_3 : Int) p43 q43
                         replace p43 := eq_true p43
                         replace q43 := eq_true q43
                         have HP44 := Kd.R_putg HO_7.out (x10_3 : Int) (wrap64 (x12_4 + 1))
                         go_wp2_with (first | ((with_reducible refine gate_store (t := 2) (p := 114) rfl ?_); refine store_event (t := 2) (p := 114) (v := ?vo_w45) (w1 := (wr.setCell ⟨go43, (x10_3 : Int).toNat, none⟩ (.int .i64 (wrap64 (x12_4 + 1))))) ?hg ?ho ?hn ?hr ?_; (case ho => rfl); (case hg => rfl); (case hn => rfl); (case hr => first | (go_simp; done) | (go_simp; rfl)); intro w45 hw; have hg : wr.grownBy w45 (some go43) := (by rw [hw]; exact HP44.2); have hp_ : Kd.R (Kd.int .i64) 2 w45 w.heap.size (fun _ => True) (.slice (some ⟨go43, 0, none⟩) x7_3.length co15) y227 := (by rw [hw, Ny227.out]; exact HP44.1); clear HP44; have n0_ := Aside0.mk (hp_); have n1_ := Aside0.mk ((by rw [hw]; exact below_set (HB.out) GB43.out : Below w.heap.size w w45)); clear HO_7; clear HB; have HO_7 := n0_; have HB := n1_; clear n0_ n1_; clear hg hw hp_))
                         (try simp only [← hl7_3])
                         go_roundg k4
                         case measure => have := HK1.out; have := HK2.out; have := HK3.out; have := HK4.out; omega
                         case rel => exact ⟨(y227), (wrap64 (x10_3 + 1)), (by first | rfl | (simp; done) | (simp [*]; done) | (simp [isE_]; done)), H', ⟨by have := HK1.out; have := HK2.out; have := HK3.out; have := HK4.out; omega⟩, ⟨by (try simp only [hl7_2]); (try simp only [hl7_3]); (with_reducible repeat (first | apply Kd.R_alloc | apply Kd.R_drewN | apply Kd.R_drew)); exact HO_7.out⟩, ⟨by repeat (first | (with_reducible first | exact HB.out | apply below_alloc | apply pw_below_drewN | apply below_drew1) | exact HB.out)⟩⟩
                        ·
                         rw [if_neg c42] at H
                         exact absurd H (by simp)
                       ·
                        rw [if_neg c41] at H
                        exact absurd H (by simp)
                      ·
                       rw [if_neg c40] at H
                       have c40b0 : decide (0 ≤ x12_4) = false := decide_eq_false c40
                       clear c40
                       have H' := Aside0.mk H
                       clear H
                       go_wp2
                       (try simp only [← hl7_3])
                       go_roundg k4
                       case measure => have := HK1.out; have := HK2.out; have := HK3.out; have := HK4.out; omega
                       case rel => exact ⟨(x7_3), (wrap64 (x10_3 + 1)), (by first | rfl | (simp; done) | (simp [*]; done) | (simp [isE_]; done)), H', ⟨by have := HK1.out; have := HK2.out; have := HK3.out; have := HK4.out; omega⟩, ⟨by (try simp only [hl7_2]); (try simp only [hl7_3]); (with_reducible repeat (first | apply Kd.R_alloc | apply Kd.R_drewN | apply Kd.R_drew)); exact HO_7.out⟩, ⟨by repeat (first | (with_reducible first | exact HB.out | apply below_alloc | apply pw_below_drewN | apply below_drew1) | exact HB.out)⟩⟩
                     ·
                      replace c39 := Bool.eq_false_iff.mpr c39
                      subst c39
                      have H1 : (spec_l06Level.l2 k4 l0 l1 a2 x7_3 x9_2 (wrap64 (x10_3 + 1))) = some r := by first | (rw [if_neg (show ¬ (false = true) by decide)] at H; exact H) | rfl
                      clear H
                      have H := H1
                      clear H1
                      have H' := Aside0.mk H
                      clear H
                      go_wp2
                      (try simp only [← hl7_3])
                      go_roundg k4
                      case measure => have := HK1.out; have := HK2.out; have := HK3.out; have := HK4.out; omega
                      case rel => exact ⟨(x7_3), (wrap64 (x10_3 + 1)), (by first | rfl | (simp; done) | (simp [*]; done) | (simp [isE_]; done)), H', ⟨by have := HK1.out; have := HK2.out; have := HK3.out; have := HK4.out; omega⟩, ⟨by (try simp only [hl7_2]); (try simp only [hl7_3]); (with_reducible repeat (first | apply Kd.R_alloc | apply Kd.R_drewN | apply Kd.R_drew)); exact HO_7.out⟩, ⟨by repeat (first | (with_reducible first | exact HB.out | apply below_alloc | apply pw_below_drewN | apply below_drew1) | exact HB.out)⟩⟩
                ·
                 rw [if_neg c21] at H
                 exact absurd H (by simp)
               ·
                rw [if_neg c20] at H
                exact absurd H (by simp)
              ·
               rw [if_neg c19] at H
               exact absurd H (by simp)
             ·
              rw [if_neg c18] at H
              exact absurd H (by simp)
            ·
             rw [if_neg c17] at H
             have c17b0 : decide (x10_3 < (x7_3.length : Int)) = false := decide_eq_false c17
             clear c17
             have H' := Aside0.mk H
             clear H
             go_wp2
             (try simp only [← hl7_2, ← hl7_3])
             go_roundg k3
             case measure => have := HK1.out; have := HK2.out; have := HK3.out; omega
             case rel => exact ⟨(x7_3), (wrap64 (x9_2 + 1)), (by first | rfl | (simp; done) | (simp [*]; done) | (simp [isE_]; done)), H', ⟨by have := HK1.out; have := HK2.out; have := HK3.out; omega⟩, ⟨by (try simp only [hl7_2]); (try simp only [hl7_3]); (with_reducible repeat (first | apply Kd.R_alloc | apply Kd.R_drewN | apply Kd.R_drew)); exact HO_7.out⟩, ⟨by repeat (first | (with_reducible first | exact HB.out | apply below_alloc | apply pw_below_drewN | apply below_drew1) | exact HB.out)⟩⟩
         ·
          rw [if_neg c16] at H
          have c16b0 : decide (x9_2 < (x7_2.length : Int)) = false := decide_eq_false c16
          clear c16
          obtain rfl := Option.some.inj H
          go_wp2
          go_ret
          exact ⟨_, by first | rfl | (simp [errW_none, errW_some] <;> rfl) | (simp [*, errW_none, errW_some] <;> rfl), by (with_reducible repeat (first | apply Kd.R_alloc | apply Kd.R_drewN | apply Kd.R_drew)); exact HO_7.out, by repeat (first | (with_reducible first | exact HB.out | apply below_alloc | apply pw_below_drewN | apply below_drew1) | exact HB.out)⟩
   ·
    rw [if_neg c6] at H
    exact absurd H (by simp)
  ·
   rw [if_neg c5] at H
   exact absurd H (by simp)
 ·
  rw [if_neg c4] at H
  exact absurd H (by simp)
end Go.Proofs.Ytpfnohdnaocpdaa.PT

-- Written by a program (xprint.py) out of the translation's own print; Lean checks it.
import Derived.Test.YtpfnohdnaocpdaaPTx0
import Derived.Test.YtpfnohdnaocpdaaPTx3
namespace Go.Proofs.Ytpfnohdnaocpdaa.PT
open Go.RowKit Go.Proofs.YtpfnohdnaocpdaaW.PrintWords Go.Proofs.YtpfnohdnaocpdaaW.PrintLast Go.Proofs.YtpfnohdnaocpdaaW.PrintMore Go.Proofs.YtpfnohdnaocpdaaRP
attribute [local go_sem] max2_int min2_int max_two min_two max_three min_three max_four min_four Go.Proofs.YtpfnohdnaocpdaaRP.max_eight Go.Proofs.YtpfnohdnaocpdaaRP.tmod_len   -- for this text's walks alone
set_option linter.unusedVariables false
set_option linter.unusedSimpArgs false
/-! ### spec_l06Productive: function 118 -/
mutual
def spec_l06Productive.l0 : Nat → List (S34) → List Int → List Bool → Int → Option (Bool)
 | 0, _, _, _, _ => none
 | k + 1, x0, x3, x4, x5 => if x5 < (x3.length : Int) then (spec_l06Productive.l1 k x0 x3 x4 x5 0) else (spec_l06Productive.l3 k x3 x4 0)
def spec_l06Productive.l1 : Nat → List (S34) → List Int → List Bool → Int → Int → Option (Bool)
 | 0, _, _, _, _, _ => none
 | k + 1, x0, x3, x4, x5, x6 => if x6 < (x3.length : Int) then (if 0 < (x0.length : Int) then (if 0 ≤ x6 then (if 0 ≤ (rd x3 x6) then (if (rd x3 x6) < (((rd_T34 x0 0).f0).length : Int) then (spec_l06Productive.l2 k x0 x3 x4 x5 x6 [rd_T89 ((rd_T34 x0 0).f0) (rd x3 x6)] true 0) else (none)) else (none)) else (none)) else (none)) else (spec_l06Productive.l0 k x0 x3 x4 (wrap64 (x5 + 1)))
def spec_l06Productive.l2 : Nat → List (S34) → List Int → List Bool → Int → Int → List (S89) → Bool → Int → Option (Bool)
 | 0, _, _, _, _, _, _, _, _ => none
 | k + 1, x0, x3, x4, x5, x6, x7, x8, x9 => if x9 < 3 then (if 0 < (x7.length : Int) then (if ((rd_T89 x7 0).f0) = 1 then (if x8 = true then (if 0 ≤ x9 then (if 0 ≤ (rd [(rd_T89 x7 0).f2.f0, (rd_T89 x7 0).f2.f1, (rd_T89 x7 0).f2.f2] x9) then (if (rd [(rd_T89 x7 0).f2.f0, (rd_T89 x7 0).f2.f1, (rd_T89 x7 0).f2.f2] x9) < (x4.length : Int) then (spec_l06Productive.l2 k x0 x3 x4 x5 x6 x7 (rdOf false x4 (rd [(rd_T89 x7 0).f2.f0, (rd_T89 x7 0).f2.f1, (rd_T89 x7 0).f2.f2] x9)) (wrap64 (x9 + 1))) else (none)) else (none)) else (none)) else (spec_l06Productive.l2 k x0 x3 x4 x5 x6 x7 false (wrap64 (x9 + 1)))) else (if 0 ≤ x6 then (if x6 < (x3.length : Int) then (if 0 ≤ (rd x3 x6) then (if (rd x3 x6) < (x4.length : Int) then (spec_l06Productive.l1 k x0 x3 (x4.set ((rd x3 x6) : Int).toNat x8) x5 (wrap64 (x6 + 1))) else (none)) else (none)) else (none)) else (none))) else (none)) else (if 0 ≤ x6 then (if x6 < (x3.length : Int) then (if 0 ≤ (rd x3 x6) then (if (rd x3 x6) < (x4.length : Int) then (spec_l06Productive.l1 k x0 x3 (x4.set ((rd x3 x6) : Int).toNat x8) x5 (wrap64 (x6 + 1))) else (none)) else (none)) else (none)) else (none))
def spec_l06Productive.l3 : Nat → List Int → List Bool → Int → Option (Bool)
 | 0, _, _, _ => none
 | k + 1, x3, x4, x10 => if x10 < (x3.length : Int) then (if 0 ≤ x10 then (if 0 ≤ (rd x3 x10) then (if (rd x3 x10) < (x4.length : Int) then (if (rdOf false x4 (rd x3 x10) = true) then (spec_l06Productive.l3 k x3 x4 (wrap64 (x10 + 1))) else (some false)) else (none)) else (none)) else (none)) else (some true)
end
def spec_l06Productive.f (k : Nat) (l0 : List (S34)) : Option (Bool) := (spec_l06Reached.f k l0).bind fun t196 => (if 0 < (l0.length : Int) then (if 0 ≤ (((rd_T34 l0 0).f0).length : Int) then (if ((((rd_T34 l0 0).f0).length : Int) : Int).toNat ≤ 281474976710656 then (spec_l06Productive.l0 k l0 t196 (List.replicate ((((rd_T34 l0 0).f0).length : Int) : Int).toNat false) 0) else (none)) else (none)) else (none))
theorem spec_l06Productive.mono_l : ∀ k, (∀ y0 y1 y2 y3, LeO (spec_l06Productive.l0 k y0 y1 y2 y3) (spec_l06Productive.l0 (k + 1) y0 y1 y2 y3)) ∧ (∀ y0 y1 y2 y3 y4, LeO (spec_l06Productive.l1 k y0 y1 y2 y3 y4) (spec_l06Productive.l1 (k + 1) y0 y1 y2 y3 y4)) ∧ (∀ y0 y1 y2 y3 y4 y5 y6 y7, LeO (spec_l06Productive.l2 k y0 y1 y2 y3 y4 y5 y6 y7) (spec_l06Productive.l2 (k + 1) y0 y1 y2 y3 y4 y5 y6 y7)) ∧ (∀ y0 y1 y2, LeO (spec_l06Productive.l3 k y0 y1 y2) (spec_l06Productive.l3 (k + 1) y0 y1 y2))
 | 0 => ⟨fun _ _ _ _ r h => by simp [spec_l06Productive.l0] at h, fun _ _ _ _ _ r h => by simp [spec_l06Productive.l1] at h, fun _ _ _ _ _ _ _ _ r h => by simp [spec_l06Productive.l2] at h, fun _ _ _ r h => by simp [spec_l06Productive.l3] at h⟩
 | k + 1 => by
  obtain ⟨ih0, ih1, ih2, ih3⟩ := spec_l06Productive.mono_l k
  refine ⟨?_, ?_, ?_, ?_⟩
  ·
   intro y0 y1 y2 y3
   unfold spec_l06Productive.l0
   repeat' first
   | (with_reducible exact ih0 _ _ _ _)
   | (with_reducible exact ih1 _ _ _ _ _)
   | (with_reducible exact ih2 _ _ _ _ _ _ _ _)
   | (with_reducible exact ih3 _ _ _)
   | (with_reducible exact spec_l06Reached.mono _ _)
   | (with_reducible exact LeO.refl _)
   | (with_reducible exact LeO.none _)
   | (with_reducible refine LeO.ite ?_ ?_)
   | (with_reducible refine LeO.bind ?_ (fun _ => ?_))
   | exact ih0 _ _ _ _
   | exact ih1 _ _ _ _ _
   | exact ih2 _ _ _ _ _ _ _ _
   | exact ih3 _ _ _
   | exact LeO.none _
   | refine LeO.ite ?_ ?_
   | refine LeO.bind ?_ (fun _ => ?_)
  ·
   intro y0 y1 y2 y3 y4
   unfold spec_l06Productive.l1
   repeat' first
   | (with_reducible exact ih0 _ _ _ _)
   | (with_reducible exact ih1 _ _ _ _ _)
   | (with_reducible exact ih2 _ _ _ _ _ _ _ _)
   | (with_reducible exact ih3 _ _ _)
   | (with_reducible exact spec_l06Reached.mono _ _)
   | (with_reducible exact LeO.refl _)
   | (with_reducible exact LeO.none _)
   | (with_reducible refine LeO.ite ?_ ?_)
   | (with_reducible refine LeO.bind ?_ (fun _ => ?_))
   | exact ih0 _ _ _ _
   | exact ih1 _ _ _ _ _
   | exact ih2 _ _ _ _ _ _ _ _
   | exact ih3 _ _ _
   | exact LeO.none _
   | refine LeO.ite ?_ ?_
   | refine LeO.bind ?_ (fun _ => ?_)
  ·
   intro y0 y1 y2 y3 y4 y5 y6 y7
   unfold spec_l06Productive.l2
   repeat' first
   | (with_reducible exact ih0 _ _ _ _)
   | (with_reducible exact ih1 _ _ _ _ _)
   | (with_reducible exact ih2 _ _ _ _ _ _ _ _)
   | (with_reducible exact ih3 _ _ _)
   | (with_reducible exact spec_l06Reached.mono _ _)
   | (with_reducible exact LeO.refl _)
   | (with_reducible exact LeO.none _)
   | (with_reducible refine LeO.ite ?_ ?_)
   | (with_reducible refine LeO.bind ?_ (fun _ => ?_))
   | exact ih0 _ _ _ _
   | exact ih1 _ _ _ _ _
   | exact ih2 _ _ _ _ _ _ _ _
   | exact ih3 _ _ _
   | exact LeO.none _
   | refine LeO.ite ?_ ?_
   | refine LeO.bind ?_ (fun _ => ?_)
  ·
   intro y0 y1 y2
   unfold spec_l06Productive.l3
   repeat' first
   | (with_reducible exact ih0 _ _ _ _)
   | (with_reducible exact ih1 _ _ _ _ _)
   | (with_reducible exact ih2 _ _ _ _ _ _ _ _)
   | (with_reducible exact ih3 _ _ _)
   | (with_reducible exact spec_l06Reached.mono _ _)
   | (with_reducible exact LeO.refl _)
   | (with_reducible exact LeO.none _)
   | (with_reducible refine LeO.ite ?_ ?_)
   | (with_reducible refine LeO.bind ?_ (fun _ => ?_))
   | exact ih0 _ _ _ _
   | exact ih1 _ _ _ _ _
   | exact ih2 _ _ _ _ _ _ _ _
   | exact ih3 _ _ _
   | exact LeO.none _
   | refine LeO.ite ?_ ?_
   | refine LeO.bind ?_ (fun _ => ?_)
theorem spec_l06Productive.mono : ∀ a0 k, LeO (spec_l06Productive.f k a0) (spec_l06Productive.f (k + 1) a0) := by
 intro a0 k
 obtain ⟨ih0, ih1, ih2, ih3⟩ := spec_l06Productive.mono_l k
 unfold spec_l06Productive.f
 repeat' first
   | (with_reducible exact ih0 _ _ _ _)
   | (with_reducible exact ih1 _ _ _ _ _)
   | (with_reducible exact ih2 _ _ _ _ _ _ _ _)
   | (with_reducible exact ih3 _ _ _)
   | (with_reducible exact spec_l06Reached.mono _ _)
   | (with_reducible exact LeO.refl _)
   | (with_reducible exact LeO.none _)
   | (with_reducible refine LeO.ite ?_ ?_)
   | (with_reducible refine LeO.bind ?_ (fun _ => ?_))
   | exact ih0 _ _ _ _
   | exact ih1 _ _ _ _ _
   | exact ih2 _ _ _ _ _ _ _ _
   | exact ih3 _ _ _
   | exact LeO.none _
   | refine LeO.ite ?_ ?_
   | refine LeO.bind ?_ (fun _ => ?_)
set_option maxHeartbeats 8000000 in
set_option maxRecDepth 100000 in
theorem spec_l06Productive.calls (k : Nat) (A0 : Option Addr) (c0 : Nat) (l0 : List (S34)) (r : Bool) (w : World) (hr0 : Kd.C k34 w A0 l0.length l0) (hc0 : l0.length ≤ c0) (h : spec_l06Productive.f k l0 = some r) :
  Calls Try.prog 118 #[.pointer A0] w fun e w' => e = .returned (.bool r) ∧ Below w.heap.size w w' := by
 have HR0 := Aside0.mk hr0
 have HC0 := Aside0.mk hc0
 clear hr0 hc0
 have HB := Aside0.mk (Below.refl w.heap.size w)
 have H : ((spec_l06Reached.f k l0).bind fun t196 => (if 0 < (l0.length : Int) then (if 0 ≤ (((rd_T34 l0 0).f0).length : Int) then (if ((((rd_T34 l0 0).f0).length : Int) : Int).toNat ≤ 281474976710656 then (spec_l06Productive.l0 k l0 t196 (List.replicate ((((rd_T34 l0 0).f0).length : Int) : Int).toNat false) 0) else (none)) else (none)) else (none))) = some r := h
 clear h
 replace H := Option.bind_eq_some_iff.mp H
 obtain ⟨t196, A20, H⟩ := H
 replace H : (if 0 < (l0.length : Int) then (if 0 ≤ (((rd_T34 l0 0).f0).length : Int) then (if ((((rd_T34 l0 0).f0).length : Int) : Int).toNat ≤ 281474976710656 then (spec_l06Productive.l0 k l0 t196 (List.replicate ((((rd_T34 l0 0).f0).length : Int) : Int).toNat false) 0) else (none)) else (none)) else (none)) = some r := H
 have A2 := Aside0.mk A20
 clear A20
 by_cases c3 : 0 < (l0.length : Int)
 ·
  rw [if_pos c3] at H
  have c3b0 : decide (0 < (l0.length : Int)) = true := decide_eq_true c3
  have c3b1 : decide (0 < l0.length) = true := decide_eq_true (by omega)
  clear c3
  by_cases c4 : 0 ≤ (((rd_T34 l0 0).f0).length : Int)
  ·
   rw [if_pos c4] at H
   have c4b0 := eq_true c4
   have c4b1 : decide (0 ≤ (((rd_T34 l0 0).f0).length : Int)) = true := decide_eq_true c4
   clear c4
   by_cases c5 : ((((rd_T34 l0 0).f0).length : Int) : Int).toNat ≤ 281474976710656
   ·
    rw [if_pos c5] at H
    have c5b0 := eq_true c5
    have c5b1 : decide (((((rd_T34 l0 0).f0).length : Int) : Int).toNat ≤ 281474976710656) = true := decide_eq_true c5
    clear c5
    obtain ⟨y200, hy200⟩ : ∃ y_ : List Bool, y_ = (List.replicate ((((rd_T34 l0 0).f0).length : Int) : Int).toNat false) := ⟨_, rfl⟩
    replace H : (spec_l06Productive.l0 k l0 t196 y200 0) = some r := by first | (rw [hy200]; with_reducible exact H) | (have H2_ := (Option.bind_some _ _).symm.trans H; rw [hy200]; with_reducible exact H2_) | (have H2_ := (Option.bind_some _ _).symm.trans H; with_reducible exact H2_) | with_reducible exact H | (rw [hy200]; exact H) | exact H
    have Ny200 := Aside0.mk hy200
    clear hy200
    have H' := Aside0.mk H
    clear H
    go_enter Try.func118, Try.ntmps118
    go_wp2_with (first | (go_at_call 95; (with_reducible refine (spec_l06Reached.calls k _ (l0).length l0 t196 _ ?side1 ?side2 A2.out).mono ?_); (case side1 => repeat (first | exact HR0.out | (with_reducible refine Kd.C_alloc ?_ _) | (with_reducible refine Kd.C_drewN ?_ _) | (with_reducible refine Kd.C_drew ?_))); (case side2 => exact Nat.le_refl _); rintro e w6 ⟨v197, rfl, ho0, hb⟩; have n0_ := Aside0.mk (Kd.R_lower ho0 (below_size (by repeat (first | (with_reducible first | exact HB.out | apply below_alloc | apply pw_below_drewN | apply below_drew1) | exact HB.out)))); have n1_ := Aside0.mk (below_step (by repeat (first | (with_reducible first | exact HB.out | apply below_alloc | apply pw_below_drewN | apply below_drew1) | exact HB.out)) hb); clear HB; have HO198 := n0_; have HB := n1_; clear n0_ n1_; (try clear hb); (try clear hb2); (try clear hk); (try clear hi); (try clear ho0); have q199 : 0 < (l0.length : Int) := of_decide_eq_true (by assumption); obtain ⟨ad199, A199_0, c199_0, e199, hx199_0, hl199_0, hi199_0⟩ := rp_T34 HR0.out q199; cases e199; replace hx199_0 := (HB.out.cell (World.block_lt_of_cell? w _ hx199_0)).trans hx199_0; have HR199_0 := Aside0.mk hi199_0; have HC199_0 := Aside0.mk hl199_0; clear hi199_0 hl199_0) | ((with_reducible refine gate_dst (N := 18) rfl ?_); refine Kd.R_make Kd.bool _ 4 rfl (N := 18) rfl 190 _ _ rfl (((rd_T34 l0 0).f0).length : Int) rfl rfl Try.underlying190 (.bool false) 1 info4 rfl (by decide) (by omega) false (ok := fun _ => True) (okp := fun _ => True) rfl (fun _ hk => hk) trivial (of_decide_eq_true (by assumption)) (Nat.le_trans (Nat.mul_le_mul_right _ (of_decide_eq_true (by assumption) : (((rd_T34 l0 0).f0).length : Int).toNat ≤ 281474976710656)) (by omega)) (Below.refl _ _) (Nat.le_refl _) ?_; intro v201 w7 ho8 hb hg_ hnew_; clear hg_ hnew_; (first | rw [← Ny200.out] at ho8 | (simp only [Int.reduceToNat] at ho8; rw [← Ny200.out] at ho8)); have n0_ := Aside0.mk (Kd.R_below (by (with_reducible repeat (first | apply Kd.R_alloc | apply Kd.R_drewN | apply Kd.R_drew)); exact HO198.out) hb); have n1_ := Aside0.mk (Kd.R_lower ho8 (below_size (by repeat (first | (with_reducible first | exact HB.out | apply below_alloc | apply pw_below_drewN | apply below_drew1) | exact HB.out)))); have n2_ := Aside0.mk (below_step (by repeat (first | (with_reducible first | exact HB.out | apply below_alloc | apply pw_below_drewN | apply below_drew1) | exact HB.out)) hb); clear HO198; clear HB; have HO198 := n0_; have HO202 := n1_; have HB := n2_; clear n0_ n1_ n2_; clear hb ho8))
    repeat (go_quiet (first | (go_at_call 95; (with_reducible refine (spec_l06Reached.calls k _ (l0).length l0 t196 _ ?side1 ?side2 A2.out).mono ?_); (case side1 => repeat (first | exact HR0.out | (with_reducible refine Kd.C_alloc ?_ _) | (with_reducible refine Kd.C_drewN ?_ _) | (with_reducible refine Kd.C_drew ?_))); (case side2 => exact Nat.le_refl _); rintro e w6 ⟨v197, rfl, ho0, hb⟩; have n0_ := Aside0.mk (Kd.R_lower ho0 (below_size (by repeat (first | (with_reducible first | exact HB.out | apply below_alloc | apply pw_below_drewN | apply below_drew1) | exact HB.out)))); have n1_ := Aside0.mk (below_step (by repeat (first | (with_reducible first | exact HB.out | apply below_alloc | apply pw_below_drewN | apply below_drew1) | exact HB.out)) hb); clear HB; have HO198 := n0_; have HB := n1_; clear n0_ n1_; (try clear hb); (try clear hb2); (try clear hk); (try clear hi); (try clear ho0); have q199 : 0 < (l0.length : Int) := of_decide_eq_true (by assumption); obtain ⟨ad199, A199_0, c199_0, e199, hx199_0, hl199_0, hi199_0⟩ := rp_T34 HR0.out q199; cases e199; replace hx199_0 := (HB.out.cell (World.block_lt_of_cell? w _ hx199_0)).trans hx199_0; have HR199_0 := Aside0.mk hi199_0; have HC199_0 := Aside0.mk hl199_0; clear hi199_0 hl199_0) | ((with_reducible refine gate_dst (N := 18) rfl ?_); refine Kd.R_make Kd.bool _ 4 rfl (N := 18) rfl 190 _ _ rfl (((rd_T34 l0 0).f0).length : Int) rfl rfl Try.underlying190 (.bool false) 1 info4 rfl (by decide) (by omega) false (ok := fun _ => True) (okp := fun _ => True) rfl (fun _ hk => hk) trivial (of_decide_eq_true (by assumption)) (Nat.le_trans (Nat.mul_le_mul_right _ (of_decide_eq_true (by assumption) : (((rd_T34 l0 0).f0).length : Int).toNat ≤ 281474976710656)) (by omega)) (Below.refl _ _) (Nat.le_refl _) ?_; intro v201 w7 ho8 hb hg_ hnew_; clear hg_ hnew_; (first | rw [← Ny200.out] at ho8 | (simp only [Int.reduceToNat] at ho8; rw [← Ny200.out] at ho8)); have n0_ := Aside0.mk (Kd.R_below (by (with_reducible repeat (first | apply Kd.R_alloc | apply Kd.R_drewN | apply Kd.R_drew)); exact HO198.out) hb); have n1_ := Aside0.mk (Kd.R_lower ho8 (below_size (by repeat (first | (with_reducible first | exact HB.out | apply below_alloc | apply pw_below_drewN | apply below_drew1) | exact HB.out)))); have n2_ := Aside0.mk (below_step (by repeat (first | (with_reducible first | exact HB.out | apply below_alloc | apply pw_below_drewN | apply below_drew1) | exact HB.out)) hb); clear HO198; clear HB; have HO198 := n0_; have HO202 := n1_; have HB := n2_; clear n0_ n1_ n2_; clear hb ho8)); try go_wp2_with (first | (go_at_call 95; (with_reducible refine (spec_l06Reached.calls k _ (l0).length l0 t196 _ ?side1 ?side2 A2.out).mono ?_); (case side1 => repeat (first | exact HR0.out | (with_reducible refine Kd.C_alloc ?_ _) | (with_reducible refine Kd.C_drewN ?_ _) | (with_reducible refine Kd.C_drew ?_))); (case side2 => exact Nat.le_refl _); rintro e w6 ⟨v197, rfl, ho0, hb⟩; have n0_ := Aside0.mk (Kd.R_lower ho0 (below_size (by repeat (first | (with_reducible first | exact HB.out | apply below_alloc | apply pw_below_drewN | apply below_drew1) | exact HB.out)))); have n1_ := Aside0.mk (below_step (by repeat (first | (with_reducible first | exact HB.out | apply below_alloc | apply pw_below_drewN | apply below_drew1) | exact HB.out)) hb); clear HB; have HO198 := n0_; have HB := n1_; clear n0_ n1_; (try clear hb); (try clear hb2); (try clear hk); (try clear hi); (try clear ho0); have q199 : 0 < (l0.length : Int) := of_decide_eq_true (by assumption); obtain ⟨ad199, A199_0, c199_0, e199, hx199_0, hl199_0, hi199_0⟩ := rp_T34 HR0.out q199; cases e199; replace hx199_0 := (HB.out.cell (World.block_lt_of_cell? w _ hx199_0)).trans hx199_0; have HR199_0 := Aside0.mk hi199_0; have HC199_0 := Aside0.mk hl199_0; clear hi199_0 hl199_0) | ((with_reducible refine gate_dst (N := 18) rfl ?_); refine Kd.R_make Kd.bool _ 4 rfl (N := 18) rfl 190 _ _ rfl (((rd_T34 l0 0).f0).length : Int) rfl rfl Try.underlying190 (.bool false) 1 info4 rfl (by decide) (by omega) false (ok := fun _ => True) (okp := fun _ => True) rfl (fun _ hk => hk) trivial (of_decide_eq_true (by assumption)) (Nat.le_trans (Nat.mul_le_mul_right _ (of_decide_eq_true (by assumption) : (((rd_T34 l0 0).f0).length : Int).toNat ≤ 281474976710656)) (by omega)) (Below.refl _ _) (Nat.le_refl _) ?_; intro v201 w7 ho8 hb hg_ hnew_; clear hg_ hnew_; (first | rw [← Ny200.out] at ho8 | (simp only [Int.reduceToNat] at ho8; rw [← Ny200.out] at ho8)); have n0_ := Aside0.mk (Kd.R_below (by (with_reducible repeat (first | apply Kd.R_alloc | apply Kd.R_drewN | apply Kd.R_drew)); exact HO198.out) hb); have n1_ := Aside0.mk (Kd.R_lower ho8 (below_size (by repeat (first | (with_reducible first | exact HB.out | apply below_alloc | apply pw_below_drewN | apply below_drew1) | exact HB.out)))); have n2_ := Aside0.mk (below_step (by repeat (first | (with_reducible first | exact HB.out | apply below_alloc | apply pw_below_drewN | apply below_drew1) | exact HB.out)) hb); clear HO198; clear HB; have HO198 := n0_; have HO202 := n1_; have HB := n2_; clear n0_ n1_ n2_; clear hb ho8)))
    go_loopg [5] k (fun kq v5 w' => ∃ (x4_1 : List Bool) (x5_1 : Int), v5 = .int .i64 x5_1 ∧ Aside0 (spec_l06Productive.l0 kq l0 t196 x4_1 x5_1 = some r) ∧ Aside0 (kq ≤ k) ∧ Aside0 (Kd.R (Kd.int .i16) 85 w' w.heap.size (fun _ => True) v197 t196) ∧ Aside0 (Kd.R Kd.bool 4 w' w.heap.size (fun _ => True) v201 x4_1) ∧ Aside0 (Below w.heap.size w w'))
    case atStart => exact ⟨(y200), (0), (by first | rfl | (simp; done) | (simp [*]; done) | (simp [isE_]; done)), H', ⟨Nat.le_refl _⟩, ⟨by (with_reducible repeat (first | apply Kd.R_alloc | apply Kd.R_drewN | apply Kd.R_drew)); exact HO198.out⟩, ⟨by (with_reducible repeat (first | apply Kd.R_alloc | apply Kd.R_drewN | apply Kd.R_drew)); exact HO202.out⟩, ⟨by repeat (first | (with_reducible first | exact HB.out | apply below_alloc | apply pw_below_drewN | apply below_drew1) | exact HB.out)⟩⟩
    case round =>
     clear H'
     try clear c1
     try clear q1
     try clear hx1
     try clear p2
     try clear c3
     try clear c3b0
     try clear c3b1
     try clear c4
     try clear c4b0
     try clear c4b1
     try clear c5
     try clear c5b0
     try clear c5b1
     try clear hx199_0
     try clear q199
     obtain ⟨x4_1, x5_1, rfl, HA, HK1, HO_3, HO_4, HB⟩ := hrel
     cases gk with
     | zero => exact absurd HA.out (by simp [spec_l06Productive.l0])
     | succ k1 =>
      have H := HA.out
      clear HA
      simp only [spec_l06Productive.l0] at H
      (repeat (first | rw [rd1_T89] at H))
      by_cases c9 : x5_1 < (t196.length : Int)
      ·
       rw [if_pos c9] at H
       have c9b0 : decide (x5_1 < (t196.length : Int)) = true := decide_eq_true c9
       clear c9
       have H' := Aside0.mk H
       clear H
       obtain ⟨Ao10, co10, eo10⟩ := Kd.R_slice HO_3.out
       subst eo10
       go_wp2
       repeat (go_quiet (fail); try go_wp2)
       go_loopg [6] k1 (fun kq v6 w' => ∃ (x4_2 : List Bool) (x6_2 : Int), v6 = .int .i64 x6_2 ∧ Aside0 (spec_l06Productive.l1 kq l0 t196 x4_2 x5_1 x6_2 = some r) ∧ Aside0 (kq ≤ k1) ∧ Aside0 (Kd.R (Kd.int .i16) 85 w' w.heap.size (fun _ => True) (.slice Ao10 t196.length co10) t196) ∧ Aside0 (Kd.R Kd.bool 4 w' w.heap.size (fun _ => True) v201 x4_2) ∧ Aside0 (Below w.heap.size w w'))
       case atStart => exact ⟨(x4_1), (0), (by first | rfl | (simp; done) | (simp [*]; done) | (simp [isE_]; done)), H', ⟨Nat.le_refl _⟩, ⟨by (with_reducible repeat (first | apply Kd.R_alloc | apply Kd.R_drewN | apply Kd.R_drew)); exact HO_3.out⟩, ⟨by (with_reducible repeat (first | apply Kd.R_alloc | apply Kd.R_drewN | apply Kd.R_drew)); exact HO_4.out⟩, ⟨by repeat (first | (with_reducible first | exact HB.out | apply below_alloc | apply pw_below_drewN | apply below_drew1) | exact HB.out)⟩⟩
       case round =>
        clear H'
        try clear c1
        try clear q1
        try clear hx1
        try clear p2
        try clear c3
        try clear c3b0
        try clear c3b1
        try clear c4
        try clear c4b0
        try clear c4b1
        try clear c5
        try clear c5b0
        try clear c5b1
        try clear c9
        try clear c9b0
        try clear hx199_0
        try clear p2
        try clear q1
        try clear q199
        obtain ⟨x4_2, x6_2, rfl, HA, HK2, HO_3, HO_4, HB⟩ := hrel
        cases gk with
        | zero => exact absurd HA.out (by simp [spec_l06Productive.l1])
        | succ k2 =>
         have H := HA.out
         clear HA
         simp only [spec_l06Productive.l1] at H
         (repeat (first | rw [rd1_T89] at H))
         by_cases c11 : x6_2 < (t196.length : Int)
         ·
          rw [if_pos c11] at H
          have c11b0 : decide (x6_2 < (t196.length : Int)) = true := decide_eq_true c11
          clear c11
          by_cases c12 : 0 < (l0.length : Int)
          ·
           rw [if_pos c12] at H
           have c12b0 : decide (0 < (l0.length : Int)) = true := decide_eq_true c12
           have c12b1 : decide (0 < l0.length) = true := decide_eq_true (by omega)
           clear c12
           by_cases c13 : 0 ≤ x6_2
           ·
            rw [if_pos c13] at H
            have c13b0 : decide (0 ≤ x6_2) = true := decide_eq_true c13
            clear c13
            by_cases c14 : 0 ≤ (rd t196 x6_2)
            ·
             rw [if_pos c14] at H
             have c14b0 : decide (0 ≤ (rd t196 x6_2)) = true := decide_eq_true c14
             clear c14
             by_cases c15 : (rd t196 x6_2) < (((rd_T34 l0 0).f0).length : Int)
             ·
              rw [if_pos c15] at H
              have c15b0 : decide ((rd t196 x6_2) < (((rd_T34 l0 0).f0).length : Int)) = true := decide_eq_true c15
              clear c15
              have H' := Aside0.mk H
              clear H
              have q203 : 0 < (l0.length : Int) := of_decide_eq_true (by assumption)
              obtain ⟨ad203, A203_0, c203_0, e203, hx203_0, hl203_0, hi203_0⟩ := rp_T34 HR0.out q203
              obtain rfl : ad199 = ad203 := (by injection e203)
              replace hx203_0 := (HB.out.cell (World.block_lt_of_cell? w _ hx203_0)).trans hx203_0
              have HR203_0 := Aside0.mk hi203_0
              have HC203_0 := Aside0.mk hl203_0
              clear hi203_0 hl203_0
              have p204 : 0 ≤ (x6_2 : Int) := of_decide_eq_true (by assumption)
              have q204 : x6_2 < (t196.length : Int) := of_decide_eq_true (by assumption)
              obtain ⟨ad204, e204, hx204_0⟩ := Kd.at_int (Kd.R_reads' HO_3.out).2.2 x6_2 p204 q204
              cases e204
              replace p204 := eq_true p204
              replace q204 := eq_true q204
              have p205 : 0 ≤ ((rd t196 x6_2) : Int) := of_decide_eq_true (by assumption)
              have q205 : (rd t196 x6_2) < (((rd_T34 l0 0).f0).length : Int) := of_decide_eq_true (by assumption)
              obtain ⟨ad205, e205, hx205_0, hx205_1, hx205_2, hx205_3, hx205_4⟩ := at_T89 HR203_0.out (rd t196 x6_2) p205 q205
              cases e205
              replace hx205_0 := (HB.out.cell (World.block_lt_of_cell? w _ hx205_0)).trans hx205_0
              replace hx205_1 := (HB.out.cell (World.block_lt_of_cell? w _ hx205_1)).trans hx205_1
              replace hx205_2 := (HB.out.cell (World.block_lt_of_cell? w _ hx205_2)).trans hx205_2
              replace hx205_3 := (HB.out.cell (World.block_lt_of_cell? w _ hx205_3)).trans hx205_3
              replace hx205_4 := (HB.out.cell (World.block_lt_of_cell? w _ hx205_4)).trans hx205_4
              replace p205 := eq_true p205
              replace q205 := eq_true q205
              have HR206 := Aside0.mk (show Kd.C k89 w (some (Addr.add ad205 ((rd t196 x6_2).toNat * 5))) [rd_T89 ((rd_T34 l0 0).f0) (rd t196 x6_2)].length [rd_T89 ((rd_T34 l0 0).f0) (rd t196 x6_2)] from Kd.C_el k89 z89 HR203_0.out ((rd t196 x6_2) : Int) (of_eq_true p205) (of_eq_true q205))
              go_wp2
              repeat (go_quiet (fail); try go_wp2)
              go_loopg [8, 9] k2 (fun kq v8 v9 w' => ∃ (x8_3 : Bool) (x9_3 : Int), v8 = .bool x8_3 ∧ v9 = .int .i64 x9_3 ∧ Aside0 (spec_l06Productive.l2 kq l0 t196 x4_2 x5_1 x6_2 [rd_T89 ((rd_T34 l0 0).f0) (rd t196 x6_2)] x8_3 x9_3 = some r) ∧ Aside0 (kq ≤ k2) ∧ Aside0 (Kd.R (Kd.int .i16) 85 w' w.heap.size (fun _ => True) (.slice (some ad204) t196.length co10) t196) ∧ Aside0 (Kd.R Kd.bool 4 w' w.heap.size (fun _ => True) v201 x4_2) ∧ Aside0 (Below w.heap.size w w'))
              case atStart => exact ⟨(true), (0), (by first | rfl | (simp; done) | (simp [*]; done) | (simp [isE_]; done)), (by first | rfl | (simp; done) | (simp [*]; done) | (simp [isE_]; done)), H', ⟨Nat.le_refl _⟩, ⟨by (with_reducible repeat (first | apply Kd.R_alloc | apply Kd.R_drewN | apply Kd.R_drew)); exact HO_3.out⟩, ⟨by (with_reducible repeat (first | apply Kd.R_alloc | apply Kd.R_drewN | apply Kd.R_drew)); exact HO_4.out⟩, ⟨by repeat (first | (with_reducible first | exact HB.out | apply below_alloc | apply pw_below_drewN | apply below_drew1) | exact HB.out)⟩⟩
              case round =>
               clear H'
               try clear c1
               try clear q1
               try clear hx1
               try clear c2
               try clear p2
               try clear q2
               try clear hx2
               try clear c3
               try clear c3b0
               try clear c3b1
               try clear c4
               try clear c4b0
               try clear c4b1
               try clear c5
               try clear c5b0
               try clear c5b1
               try clear c9
               try clear c9b0
               try clear c11
               try clear c11b0
               try clear c12
               try clear c12b0
               try clear c12b1
               try clear c13
               try clear c13b0
               try clear c14
               try clear c14b0
               try clear c15
               try clear c15b0
               try clear hx199_0
               try clear hx203_0
               try clear hx204_0
               try clear hx205_0
               try clear hx205_1
               try clear hx205_2
               try clear hx205_3
               try clear hx205_4
               try clear p2
               try clear p204
               try clear p205
               try clear q1
               try clear q199
               try clear q203
               try clear q204
               try clear q205
               obtain ⟨x8_3, x9_3, rfl, rfl, HA, HK3, HO_3, HO_4, HB⟩ := hrel
               cases gk with
               | zero => exact absurd HA.out (by simp [spec_l06Productive.l2])
               | succ k3 =>
                have H := HA.out
                clear HA
                simp only [spec_l06Productive.l2] at H
                (repeat (first | rw [rd1_T89] at H))
                by_cases c16 : x9_3 < 3
                ·
                 rw [if_pos c16] at H
                 have c16b0 : decide (x9_3 < 3) = true := decide_eq_true c16
                 clear c16
                 by_cases c17 : 0 < ([rd_T89 ((rd_T34 l0 0).f0) (rd t196 x6_2)].length : Int)
                 ·
                  rw [if_pos c17] at H
                  have c17b0 : decide (0 < ([rd_T89 ((rd_T34 l0 0).f0) (rd t196 x6_2)].length : Int)) = true := decide_eq_true c17
                  have c17b1 : decide (0 < [rd_T89 ((rd_T34 l0 0).f0) (rd t196 x6_2)].length) = true := decide_eq_true (by omega)
                  clear c17
                  by_cases c18 : ((rd_T89 ((rd_T34 l0 0).f0) (rd t196 x6_2)).f0) = 1
                  ·
                   rw [if_pos c18] at H
                   have c18b0 : (((rd_T89 ((rd_T34 l0 0).f0) (rd t196 x6_2)).f0) == 1) = true := beq_iff_eq.mpr c18
                   have c18b1 : (((rd_T89 ((rd_T34 l0 0).f0) (rd t196 x6_2)).f0) != 1) = false := bne_eq_false_iff_eq.mpr c18
                   clear c18
                   by_cases c19 : x8_3 = true
                   ·
                    subst c19
                    have H1 : (if 0 ≤ x9_3 then (if 0 ≤ (rd [(rd_T89 ((rd_T34 l0 0).f0) (rd t196 x6_2)).f2.f0, (rd_T89 ((rd_T34 l0 0).f0) (rd t196 x6_2)).f2.f1, (rd_T89 ((rd_T34 l0 0).f0) (rd t196 x6_2)).f2.f2] x9_3) then (if (rd [(rd_T89 ((rd_T34 l0 0).f0) (rd t196 x6_2)).f2.f0, (rd_T89 ((rd_T34 l0 0).f0) (rd t196 x6_2)).f2.f1, (rd_T89 ((rd_T34 l0 0).f0) (rd t196 x6_2)).f2.f2] x9_3) < (x4_2.length : Int) then (spec_l06Productive.l2 k3 l0 t196 x4_2 x5_1 x6_2 [rd_T89 ((rd_T34 l0 0).f0) (rd t196 x6_2)] (rdOf false x4_2 (rd [(rd_T89 ((rd_T34 l0 0).f0) (rd t196 x6_2)).f2.f0, (rd_T89 ((rd_T34 l0 0).f0) (rd t196 x6_2)).f2.f1, (rd_T89 ((rd_T34 l0 0).f0) (rd t196 x6_2)).f2.f2] x9_3)) (wrap64 (x9_3 + 1))) else (none)) else (none)) else (none)) = some r := by first | (rw [if_pos rfl] at H; exact H) | rfl
                    clear H
                    have H := H1
                    clear H1
                    by_cases c20 : 0 ≤ x9_3
                    ·
                     rw [if_pos c20] at H
                     have c20b0 : decide (0 ≤ x9_3) = true := decide_eq_true c20
                     clear c20
                     by_cases c21 : 0 ≤ (rd [(rd_T89 ((rd_T34 l0 0).f0) (rd t196 x6_2)).f2.f0, (rd_T89 ((rd_T34 l0 0).f0) (rd t196 x6_2)).f2.f1, (rd_T89 ((rd_T34 l0 0).f0) (rd t196 x6_2)).f2.f2] x9_3)
                     ·
                      rw [if_pos c21] at H
                      have c21b0 : decide (0 ≤ (rd [(rd_T89 ((rd_T34 l0 0).f0) (rd t196 x6_2)).f2.f0, (rd_T89 ((rd_T34 l0 0).f0) (rd t196 x6_2)).f2.f1, (rd_T89 ((rd_T34 l0 0).f0) (rd t196 x6_2)).f2.f2] x9_3)) = true := decide_eq_true c21
                      clear c21
                      by_cases c22 : (rd [(rd_T89 ((rd_T34 l0 0).f0) (rd t196 x6_2)).f2.f0, (rd_T89 ((rd_T34 l0 0).f0) (rd t196 x6_2)).f2.f1, (rd_T89 ((rd_T34 l0 0).f0) (rd t196 x6_2)).f2.f2] x9_3) < (x4_2.length : Int)
                      ·
                       rw [if_pos c22] at H
                       have c22b0 : decide ((rd [(rd_T89 ((rd_T34 l0 0).f0) (rd t196 x6_2)).f2.f0, (rd_T89 ((rd_T34 l0 0).f0) (rd t196 x6_2)).f2.f1, (rd_T89 ((rd_T34 l0 0).f0) (rd t196 x6_2)).f2.f2] x9_3) < (x4_2.length : Int)) = true := decide_eq_true c22
                       clear c22
                       have H' := Aside0.mk H
                       clear H
                       have q207 : 0 < ([rd_T89 ((rd_T34 l0 0).f0) (rd t196 x6_2)].length : Int) := of_decide_eq_true (by assumption)
                       obtain ⟨ad207, e207, hx207_0, hx207_1, hx207_2, hx207_3, hx207_4⟩ := rp_T89 HR206.out q207
                       (try simp only [rd1_T89] at hx207_0 hx207_1 hx207_2 hx207_3 hx207_4)
                       obtain rfl : (Addr.add ad205 ((rd t196 x6_2).toNat * 5)) = ad207 := (by injection e207)
                       replace hx207_0 := (HB.out.cell (World.block_lt_of_cell? w _ hx207_0)).trans hx207_0
                       replace hx207_1 := (HB.out.cell (World.block_lt_of_cell? w _ hx207_1)).trans hx207_1
                       replace hx207_2 := (HB.out.cell (World.block_lt_of_cell? w _ hx207_2)).trans hx207_2
                       replace hx207_3 := (HB.out.cell (World.block_lt_of_cell? w _ hx207_3)).trans hx207_3
                       replace hx207_4 := (HB.out.cell (World.block_lt_of_cell? w _ hx207_4)).trans hx207_4
                       have p208 : 0 ≤ (x9_3 : Int) := of_decide_eq_true (by assumption)
                       have q208 : (x9_3 : Int) < 3 := of_decide_eq_true (by assumption)
                       have hx208_0 := cell_arr3 hx207_2 hx207_3 hx207_4 x9_3 p208 q208
                       (try simp only [Nat.zero_add, Nat.add_zero] at hx208_0)
                       replace p208 := eq_true p208
                       replace q208 := eq_true q208
                       obtain ⟨Ao23, co23, eo23⟩ := Kd.R_slice HO_4.out
                       subst eo23
                       have p209 : 0 ≤ ((rd [(rd_T89 ((rd_T34 l0 0).f0) (rd t196 x6_2)).f2.f0, (rd_T89 ((rd_T34 l0 0).f0) (rd t196 x6_2)).f2.f1, (rd_T89 ((rd_T34 l0 0).f0) (rd t196 x6_2)).f2.f2] x9_3) : Int) := of_decide_eq_true (by assumption)
                       have q209 : (rd [(rd_T89 ((rd_T34 l0 0).f0) (rd t196 x6_2)).f2.f0, (rd_T89 ((rd_T34 l0 0).f0) (rd t196 x6_2)).f2.f1, (rd_T89 ((rd_T34 l0 0).f0) (rd t196 x6_2)).f2.f2] x9_3) < (x4_2.length : Int) := of_decide_eq_true (by assumption)
                       obtain ⟨ad209, e209, hx209_0⟩ := Kd.at_bool (Kd.R_reads' HO_4.out).2.2 (rd [(rd_T89 ((rd_T34 l0 0).f0) (rd t196 x6_2)).f2.f0, (rd_T89 ((rd_T34 l0 0).f0) (rd t196 x6_2)).f2.f1, (rd_T89 ((rd_T34 l0 0).f0) (rd t196 x6_2)).f2.f2] x9_3) p209 q209
                       cases e209
                       replace p209 := eq_true p209
                       replace q209 := eq_true q209
                       go_wp2
                       repeat (go_quiet (fail); try go_wp2)
                       go_roundg k3
                       case measure => have := HK1.out; have := HK2.out; have := HK3.out; omega
                       case rel => exact ⟨(rdOf false x4_2 (rd [(rd_T89 ((rd_T34 l0 0).f0) (rd t196 x6_2)).f2.f0, (rd_T89 ((rd_T34 l0 0).f0) (rd t196 x6_2)).f2.f1, (rd_T89 ((rd_T34 l0 0).f0) (rd t196 x6_2)).f2.f2] x9_3)), (wrap64 (x9_3 + 1)), (by first | rfl | (simp; done) | (simp [*]; done) | (simp [isE_]; done)), (by first | rfl | (simp; done) | (simp [*]; done) | (simp [isE_]; done)), H', ⟨by have := HK1.out; have := HK2.out; have := HK3.out; omega⟩, ⟨by (with_reducible repeat (first | apply Kd.R_alloc | apply Kd.R_drewN | apply Kd.R_drew)); exact HO_3.out⟩, ⟨by (with_reducible repeat (first | apply Kd.R_alloc | apply Kd.R_drewN | apply Kd.R_drew)); exact HO_4.out⟩, ⟨by repeat (first | (with_reducible first | exact HB.out | apply below_alloc | apply pw_below_drewN | apply below_drew1) | exact HB.out)⟩⟩
                      ·
                       rw [if_neg c22] at H
                       exact absurd H (by simp)
                     ·
                      rw [if_neg c21] at H
                      exact absurd H (by simp)
                    ·
                     rw [if_neg c20] at H
                     exact absurd H (by simp)
                   ·
                    replace c19 := Bool.eq_false_iff.mpr c19
                    subst c19
                    have H1 : (spec_l06Productive.l2 k3 l0 t196 x4_2 x5_1 x6_2 [rd_T89 ((rd_T34 l0 0).f0) (rd t196 x6_2)] false (wrap64 (x9_3 + 1))) = some r := by first | (rw [if_neg (show ¬ (false = true) by decide)] at H; exact H) | rfl
                    clear H
                    have H := H1
                    clear H1
                    have H' := Aside0.mk H
                    clear H
                    have q207 : 0 < ([rd_T89 ((rd_T34 l0 0).f0) (rd t196 x6_2)].length : Int) := of_decide_eq_true (by assumption)
                    obtain ⟨ad207, e207, hx207_0, hx207_1, hx207_2, hx207_3, hx207_4⟩ := rp_T89 HR206.out q207
                    (try simp only [rd1_T89] at hx207_0 hx207_1 hx207_2 hx207_3 hx207_4)
                    obtain rfl : (Addr.add ad205 ((rd t196 x6_2).toNat * 5)) = ad207 := (by injection e207)
                    replace hx207_0 := (HB.out.cell (World.block_lt_of_cell? w _ hx207_0)).trans hx207_0
                    replace hx207_1 := (HB.out.cell (World.block_lt_of_cell? w _ hx207_1)).trans hx207_1
                    replace hx207_2 := (HB.out.cell (World.block_lt_of_cell? w _ hx207_2)).trans hx207_2
                    replace hx207_3 := (HB.out.cell (World.block_lt_of_cell? w _ hx207_3)).trans hx207_3
                    replace hx207_4 := (HB.out.cell (World.block_lt_of_cell? w _ hx207_4)).trans hx207_4
                    go_wp2
                    repeat (go_quiet (fail); try go_wp2)
                    go_roundg k3
                    case measure => have := HK1.out; have := HK2.out; have := HK3.out; omega
                    case rel => exact ⟨(false), (wrap64 (x9_3 + 1)), (by first | rfl | (simp; done) | (simp [*]; done) | (simp [isE_]; done)), (by first | rfl | (simp; done) | (simp [*]; done) | (simp [isE_]; done)), H', ⟨by have := HK1.out; have := HK2.out; have := HK3.out; omega⟩, ⟨by (with_reducible repeat (first | apply Kd.R_alloc | apply Kd.R_drewN | apply Kd.R_drew)); exact HO_3.out⟩, ⟨by (with_reducible repeat (first | apply Kd.R_alloc | apply Kd.R_drewN | apply Kd.R_drew)); exact HO_4.out⟩, ⟨by repeat (first | (with_reducible first | exact HB.out | apply below_alloc | apply pw_below_drewN | apply below_drew1) | exact HB.out)⟩⟩
                  ·
                   rw [if_neg c18] at H
                   have c18b0 : (((rd_T89 ((rd_T34 l0 0).f0) (rd t196 x6_2)).f0) == 1) = false := beq_eq_false_iff_ne.mpr c18
                   have c18b1 : (((rd_T89 ((rd_T34 l0 0).f0) (rd t196 x6_2)).f0) != 1) = true := bne_iff_ne.mpr c18
                   by_cases c24 : 0 ≤ x6_2
                   ·
                    rw [if_pos c24] at H
                    have c24b0 : decide (0 ≤ x6_2) = true := decide_eq_true c24
                    clear c24
                    by_cases c25 : x6_2 < (t196.length : Int)
                    ·
                     rw [if_pos c25] at H
                     have c25b0 : decide (x6_2 < (t196.length : Int)) = true := decide_eq_true c25
                     clear c25
                     by_cases c26 : 0 ≤ (rd t196 x6_2)
                     ·
                      rw [if_pos c26] at H
                      have c26b0 : decide (0 ≤ (rd t196 x6_2)) = true := decide_eq_true c26
                      clear c26
                      by_cases c27 : (rd t196 x6_2) < (x4_2.length : Int)
                      ·
                       rw [if_pos c27] at H
                       have c27b0 : decide ((rd t196 x6_2) < (x4_2.length : Int)) = true := decide_eq_true c27
                       clear c27
                       obtain ⟨y211, hy211⟩ : ∃ y_ : List Bool, y_ = (x4_2.set ((rd t196 x6_2) : Int).toNat x8_3) := ⟨_, rfl⟩
                       replace H : (spec_l06Productive.l1 k3 l0 t196 y211 x5_1 (wrap64 (x6_2 + 1))) = some r := by first | (rw [hy211]; with_reducible exact H) | (have H2_ := (Option.bind_some _ _).symm.trans H; rw [hy211]; with_reducible exact H2_) | (have H2_ := (Option.bind_some _ _).symm.trans H; with_reducible exact H2_) | with_reducible exact H | (rw [hy211]; exact H) | exact H
                       have Ny211 := Aside0.mk hy211
                       clear hy211
                       have H' := Aside0.mk H
                       clear H
                       have q207 : 0 < ([rd_T89 ((rd_T34 l0 0).f0) (rd t196 x6_2)].length : Int) := of_decide_eq_true (by assumption)
                       obtain ⟨ad207, e207, hx207_0, hx207_1, hx207_2, hx207_3, hx207_4⟩ := rp_T89 HR206.out q207
                       (try simp only [rd1_T89] at hx207_0 hx207_1 hx207_2 hx207_3 hx207_4)
                       obtain rfl : (Addr.add ad205 ((rd t196 x6_2).toNat * 5)) = ad207 := (by injection e207)
                       replace hx207_0 := (HB.out.cell (World.block_lt_of_cell? w _ hx207_0)).trans hx207_0
                       replace hx207_1 := (HB.out.cell (World.block_lt_of_cell? w _ hx207_1)).trans hx207_1
                       replace hx207_2 := (HB.out.cell (World.block_lt_of_cell? w _ hx207_2)).trans hx207_2
                       replace hx207_3 := (HB.out.cell (World.block_lt_of_cell? w _ hx207_3)).trans hx207_3
                       replace hx207_4 := (HB.out.cell (World.block_lt_of_cell? w _ hx207_4)).trans hx207_4
                       have p210 : 0 ≤ (x6_2 : Int) := of_decide_eq_true (by assumption)
                       have q210 : x6_2 < (t196.length : Int) := of_decide_eq_true (by assumption)
                       obtain ⟨ad210, e210, hx210_0⟩ := Kd.at_int (Kd.R_reads' HO_3.out).2.2 x6_2 p210 q210
                       obtain rfl : ad204 = ad210 := (by injection e210)
                       replace p210 := eq_true p210
                       replace q210 := eq_true q210
                       have p28 : 0 ≤ ((rd t196 x6_2) : Int) := of_decide_eq_true (by assumption)
                       have q28 : ((rd t196 x6_2) : Int) < ((x4_2.length : Int) : Int) := of_decide_eq_true (by assumption)
                       obtain ⟨go28, co28, eo28, gb28, gl28, cl28, HG28⟩ := Kd.R_form HO_4.out (by omega)
                       (first | cases eo28 | (injection eo28 with ea_ en_ ec_; (first | subst ea_ | (injection ea_ with ea_; subst ea_)); subst ec_; clear en_))
                       have GB28 := Aside0.mk gb28
                       have GG28 := Aside0.mk HG28
                       clear gb28 gl28 HG28
                       obtain ⟨hx28_0, hf28_0⟩ := Kd.R_celln false HO_4.out ((rd t196 x6_2) : Int) p28 q28
                       replace p28 := eq_true p28
                       replace q28 := eq_true q28
                       have HP29 := Kd.R_putg HO_4.out ((rd t196 x6_2) : Int) x8_3
                       go_wp2_with (first | ((with_reducible refine gate_store (t := 4) (p := 69) rfl ?_); (try (rw [drewN_self wr]; generalize hq_ : World.drewN wr _ = wr; have n0_ := Aside0.mk (Kd.R_at hq_ HO_3.out); have n1_ := Aside0.mk (Kd.R_at hq_ HO_4.out); have n2_ := Aside0.mk (below_at hq_ HB.out); clear hq_ HO_3 HO_4 HB; have HO_3 := n0_; have HO_4 := n1_; have HB := n2_; clear n0_ n1_ n2_; (try (have HP29 := Kd.R_putg HO_4.out ((rd t196 x6_2) : Int) x8_3)))); refine store_event (t := 4) (p := 69) (v := ?vo_w30) (w1 := (wr.setCell ⟨go28, ((rd t196 x6_2) : Int).toNat, none⟩ (.bool x8_3))) ?hg ?ho ?hn ?hr ?_; (case ho => rfl); (case hg => rfl); (case hn => rfl); (case hr => first | (go_simp; done) | (go_simp; rfl)); intro w30 hw; have hg : wr.grownBy w30 (some go28) := (by rw [hw]; exact HP29.2); have hp_ : Kd.R Kd.bool 4 w30 w.heap.size (fun _ => True) (.slice (some ⟨go28, 0, none⟩) x4_2.length co28) y211 := (by rw [hw, Ny211.out]; exact HP29.1); clear HP29; have n0_ := Aside0.mk (Kd.R_over' (v := (.slice (some ⟨go28, 0, none⟩) x4_2.length co28)) (by (with_reducible repeat (first | apply Kd.R_alloc | apply Kd.R_drewN | apply Kd.R_drew)); exact HO_3.out) (Kd.R_typed HO_4.out) (by decide) hg); have n1_ := Aside0.mk (hp_); have n2_ := Aside0.mk ((by rw [hw]; exact below_set (HB.out) GB28.out : Below w.heap.size w w30)); clear HO_3; clear HO_4; clear HB; have HO_3 := n0_; have HO_4 := n1_; have HB := n2_; clear n0_ n1_ n2_; clear hg hw hp_))
                       repeat (go_quiet (first | ((with_reducible refine gate_store (t := 4) (p := 69) rfl ?_); (try (rw [drewN_self wr]; generalize hq_ : World.drewN wr _ = wr; have n0_ := Aside0.mk (Kd.R_at hq_ HO_3.out); have n1_ := Aside0.mk (Kd.R_at hq_ HO_4.out); have n2_ := Aside0.mk (below_at hq_ HB.out); clear hq_ HO_3 HO_4 HB; have HO_3 := n0_; have HO_4 := n1_; have HB := n2_; clear n0_ n1_ n2_; (try (have HP29 := Kd.R_putg HO_4.out ((rd t196 x6_2) : Int) x8_3)))); refine store_event (t := 4) (p := 69) (v := ?vo_w30) (w1 := (wr.setCell ⟨go28, ((rd t196 x6_2) : Int).toNat, none⟩ (.bool x8_3))) ?hg ?ho ?hn ?hr ?_; (case ho => rfl); (case hg => rfl); (case hn => rfl); (case hr => first | (go_simp; done) | (go_simp; rfl)); intro w30 hw; have hg : wr.grownBy w30 (some go28) := (by rw [hw]; exact HP29.2); have hp_ : Kd.R Kd.bool 4 w30 w.heap.size (fun _ => True) (.slice (some ⟨go28, 0, none⟩) x4_2.length co28) y211 := (by rw [hw, Ny211.out]; exact HP29.1); clear HP29; have n0_ := Aside0.mk (Kd.R_over' (v := (.slice (some ⟨go28, 0, none⟩) x4_2.length co28)) (by (with_reducible repeat (first | apply Kd.R_alloc | apply Kd.R_drewN | apply Kd.R_drew)); exact HO_3.out) (Kd.R_typed HO_4.out) (by decide) hg); have n1_ := Aside0.mk (hp_); have n2_ := Aside0.mk ((by rw [hw]; exact below_set (HB.out) GB28.out : Below w.heap.size w w30)); clear HO_3; clear HO_4; clear HB; have HO_3 := n0_; have HO_4 := n1_; have HB := n2_; clear n0_ n1_ n2_; clear hg hw hp_)); try go_wp2_with (first | ((with_reducible refine gate_store (t := 4) (p := 69) rfl ?_); (try (rw [drewN_self wr]; generalize hq_ : World.drewN wr _ = wr; have n0_ := Aside0.mk (Kd.R_at hq_ HO_3.out); have n1_ := Aside0.mk (Kd.R_at hq_ HO_4.out); have n2_ := Aside0.mk (below_at hq_ HB.out); clear hq_ HO_3 HO_4 HB; have HO_3 := n0_; have HO_4 := n1_; have HB := n2_; clear n0_ n1_ n2_; (try (have HP29 := Kd.R_putg HO_4.out ((rd t196 x6_2) : Int) x8_3)))); refine store_event (t := 4) (p := 69) (v := ?vo_w30) (w1 := (wr.setCell ⟨go28, ((rd t196 x6_2) : Int).toNat, none⟩ (.bool x8_3))) ?hg ?ho ?hn ?hr ?_; (case ho => rfl); (case hg => rfl); (case hn => rfl); (case hr => first | (go_simp; done) | (go_simp; rfl)); intro w30 hw; have hg : wr.grownBy w30 (some go28) := (by rw [hw]; exact HP29.2); have hp_ : Kd.R Kd.bool 4 w30 w.heap.size (fun _ => True) (.slice (some ⟨go28, 0, none⟩) x4_2.length co28) y211 := (by rw [hw, Ny211.out]; exact HP29.1); clear HP29; have n0_ := Aside0.mk (Kd.R_over' (v := (.slice (some ⟨go28, 0, none⟩) x4_2.length co28)) (by (with_reducible repeat (first | apply Kd.R_alloc | apply Kd.R_drewN | apply Kd.R_drew)); exact HO_3.out) (Kd.R_typed HO_4.out) (by decide) hg); have n1_ := Aside0.mk (hp_); have n2_ := Aside0.mk ((by rw [hw]; exact below_set (HB.out) GB28.out : Below w.heap.size w w30)); clear HO_3; clear HO_4; clear HB; have HO_3 := n0_; have HO_4 := n1_; have HB := n2_; clear n0_ n1_ n2_; clear hg hw hp_)))
                       go_roundg k3
                       case measure => have := HK1.out; have := HK2.out; have := HK3.out; omega
                       case rel => exact ⟨(y211), (wrap64 (x6_2 + 1)), (by first | rfl | (simp; done) | (simp [*]; done) | (simp [isE_]; done)), H', ⟨by have := HK1.out; have := HK2.out; have := HK3.out; omega⟩, ⟨by (with_reducible repeat (first | apply Kd.R_alloc | apply Kd.R_drewN | apply Kd.R_drew)); exact HO_3.out⟩, ⟨by (with_reducible repeat (first | apply Kd.R_alloc | apply Kd.R_drewN | apply Kd.R_drew)); exact HO_4.out⟩, ⟨by repeat (first | (with_reducible first | exact HB.out | apply below_alloc | apply pw_below_drewN | apply below_drew1) | exact HB.out)⟩⟩
                      ·
                       rw [if_neg c27] at H
                       exact absurd H (by simp)
                     ·
                      rw [if_neg c26] at H
                      exact absurd H (by simp)
                    ·
                     rw [if_neg c25] at H
                     exact absurd H (by simp)
                   ·
                    rw [if_neg c24] at H
                    exact absurd H (by simp)
                 ·
                  rw [if_neg c17] at H
                  exact absurd H (by simp)
                ·
                 rw [if_neg c16] at H
                 have c16b0 : decide (x9_3 < 3) = false := decide_eq_false c16
                 clear c16
                 by_cases c31 : 0 ≤ x6_2
                 ·
                  rw [if_pos c31] at H
                  have c31b0 : decide (0 ≤ x6_2) = true := decide_eq_true c31
                  clear c31
                  by_cases c32 : x6_2 < (t196.length : Int)
                  ·
                   rw [if_pos c32] at H
                   have c32b0 : decide (x6_2 < (t196.length : Int)) = true := decide_eq_true c32
                   clear c32
                   by_cases c33 : 0 ≤ (rd t196 x6_2)
                   ·
                    rw [if_pos c33] at H
                    have c33b0 : decide (0 ≤ (rd t196 x6_2)) = true := decide_eq_true c33
                    clear c33
                    by_cases c34 : (rd t196 x6_2) < (x4_2.length : Int)
                    ·
                     rw [if_pos c34] at H
                     have c34b0 : decide ((rd t196 x6_2) < (x4_2.length : Int)) = true := decide_eq_true c34
                     clear c34
                     obtain ⟨y213, hy213⟩ : ∃ y_ : List Bool, y_ = (x4_2.set ((rd t196 x6_2) : Int).toNat x8_3) := ⟨_, rfl⟩
                     replace H : (spec_l06Productive.l1 k3 l0 t196 y213 x5_1 (wrap64 (x6_2 + 1))) = some r := by first | (rw [hy213]; with_reducible exact H) | (have H2_ := (Option.bind_some _ _).symm.trans H; rw [hy213]; with_reducible exact H2_) | (have H2_ := (Option.bind_some _ _).symm.trans H; with_reducible exact H2_) | with_reducible exact H | (rw [hy213]; exact H) | exact H
                     have Ny213 := Aside0.mk hy213
                     clear hy213
                     have H' := Aside0.mk H
                     clear H
                     have p212 : 0 ≤ (x6_2 : Int) := of_decide_eq_true (by assumption)
                     have q212 : x6_2 < (t196.length : Int) := of_decide_eq_true (by assumption)
                     obtain ⟨ad212, e212, hx212_0⟩ := Kd.at_int (Kd.R_reads' HO_3.out).2.2 x6_2 p212 q212
                     obtain rfl : ad204 = ad212 := (by injection e212)
                     replace p212 := eq_true p212
                     replace q212 := eq_true q212
                     have p35 : 0 ≤ ((rd t196 x6_2) : Int) := of_decide_eq_true (by assumption)
                     have q35 : ((rd t196 x6_2) : Int) < ((x4_2.length : Int) : Int) := of_decide_eq_true (by assumption)
                     obtain ⟨go35, co35, eo35, gb35, gl35, cl35, HG35⟩ := Kd.R_form HO_4.out (by omega)
                     (first | cases eo35 | (injection eo35 with ea_ en_ ec_; (first | subst ea_ | (injection ea_ with ea_; subst ea_)); subst ec_; clear en_))
                     have GB35 := Aside0.mk gb35
                     have GG35 := Aside0.mk HG35
                     clear gb35 gl35 HG35
                     obtain ⟨hx35_0, hf35_0⟩ := Kd.R_celln false HO_4.out ((rd t196 x6_2) : Int) p35 q35
                     replace p35 := eq_true p35
                     replace q35 := eq_true q35
                     have HP36 := Kd.R_putg HO_4.out ((rd t196 x6_2) : Int) x8_3
                     go_wp2_with (first | ((with_reducible refine gate_store (t := 4) (p := 69) rfl ?_); (try (rw [drewN_self wr]; generalize hq_ : World.drewN wr _ = wr; have n0_ := Aside0.mk (Kd.R_at hq_ HO_3.out); have n1_ := Aside0.mk (Kd.R_at hq_ HO_4.out); have n2_ := Aside0.mk (below_at hq_ HB.out); clear hq_ HO_3 HO_4 HB; have HO_3 := n0_; have HO_4 := n1_; have HB := n2_; clear n0_ n1_ n2_; (try (have HP36 := Kd.R_putg HO_4.out ((rd t196 x6_2) : Int) x8_3)))); refine store_event (t := 4) (p := 69) (v := ?vo_w37) (w1 := (wr.setCell ⟨go35, ((rd t196 x6_2) : Int).toNat, none⟩ (.bool x8_3))) ?hg ?ho ?hn ?hr ?_; (case ho => rfl); (case hg => rfl); (case hn => rfl); (case hr => first | (go_simp; done) | (go_simp; rfl)); intro w37 hw; have hg : wr.grownBy w37 (some go35) := (by rw [hw]; exact HP36.2); have hp_ : Kd.R Kd.bool 4 w37 w.heap.size (fun _ => True) (.slice (some ⟨go35, 0, none⟩) x4_2.length co35) y213 := (by rw [hw, Ny213.out]; exact HP36.1); clear HP36; have n0_ := Aside0.mk (Kd.R_over' (v := (.slice (some ⟨go35, 0, none⟩) x4_2.length co35)) (by (with_reducible repeat (first | apply Kd.R_alloc | apply Kd.R_drewN | apply Kd.R_drew)); exact HO_3.out) (Kd.R_typed HO_4.out) (by decide) hg); have n1_ := Aside0.mk (hp_); have n2_ := Aside0.mk ((by rw [hw]; exact below_set (HB.out) GB35.out : Below w.heap.size w w37)); clear HO_3; clear HO_4; clear HB; have HO_3 := n0_; have HO_4 := n1_; have HB := n2_; clear n0_ n1_ n2_; clear hg hw hp_))
                     repeat (go_quiet (first | ((with_reducible refine gate_store (t := 4) (p := 69) rfl ?_); (try (rw [drewN_self wr]; generalize hq_ : World.drewN wr _ = wr; have n0_ := Aside0.mk (Kd.R_at hq_ HO_3.out); have n1_ := Aside0.mk (Kd.R_at hq_ HO_4.out); have n2_ := Aside0.mk (below_at hq_ HB.out); clear hq_ HO_3 HO_4 HB; have HO_3 := n0_; have HO_4 := n1_; have HB := n2_; clear n0_ n1_ n2_; (try (have HP36 := Kd.R_putg HO_4.out ((rd t196 x6_2) : Int) x8_3)))); refine store_event (t := 4) (p := 69) (v := ?vo_w37) (w1 := (wr.setCell ⟨go35, ((rd t196 x6_2) : Int).toNat, none⟩ (.bool x8_3))) ?hg ?ho ?hn ?hr ?_; (case ho => rfl); (case hg => rfl); (case hn => rfl); (case hr => first | (go_simp; done) | (go_simp; rfl)); intro w37 hw; have hg : wr.grownBy w37 (some go35) := (by rw [hw]; exact HP36.2); have hp_ : Kd.R Kd.bool 4 w37 w.heap.size (fun _ => True) (.slice (some ⟨go35, 0, none⟩) x4_2.length co35) y213 := (by rw [hw, Ny213.out]; exact HP36.1); clear HP36; have n0_ := Aside0.mk (Kd.R_over' (v := (.slice (some ⟨go35, 0, none⟩) x4_2.length co35)) (by (with_reducible repeat (first | apply Kd.R_alloc | apply Kd.R_drewN | apply Kd.R_drew)); exact HO_3.out) (Kd.R_typed HO_4.out) (by decide) hg); have n1_ := Aside0.mk (hp_); have n2_ := Aside0.mk ((by rw [hw]; exact below_set (HB.out) GB35.out : Below w.heap.size w w37)); clear HO_3; clear HO_4; clear HB; have HO_3 := n0_; have HO_4 := n1_; have HB := n2_; clear n0_ n1_ n2_; clear hg hw hp_)); try go_wp2_with (first | ((with_reducible refine gate_store (t := 4) (p := 69) rfl ?_); (try (rw [drewN_self wr]; generalize hq_ : World.drewN wr _ = wr; have n0_ := Aside0.mk (Kd.R_at hq_ HO_3.out); have n1_ := Aside0.mk (Kd.R_at hq_ HO_4.out); have n2_ := Aside0.mk (below_at hq_ HB.out); clear hq_ HO_3 HO_4 HB; have HO_3 := n0_; have HO_4 := n1_; have HB := n2_; clear n0_ n1_ n2_; (try (have HP36 := Kd.R_putg HO_4.out ((rd t196 x6_2) : Int) x8_3)))); refine store_event (t := 4) (p := 69) (v := ?vo_w37) (w1 := (wr.setCell ⟨go35, ((rd t196 x6_2) : Int).toNat, none⟩ (.bool x8_3))) ?hg ?ho ?hn ?hr ?_; (case ho => rfl); (case hg => rfl); (case hn => rfl); (case hr => first | (go_simp; done) | (go_simp; rfl)); intro w37 hw; have hg : wr.grownBy w37 (some go35) := (by rw [hw]; exact HP36.2); have hp_ : Kd.R Kd.bool 4 w37 w.heap.size (fun _ => True) (.slice (some ⟨go35, 0, none⟩) x4_2.length co35) y213 := (by rw [hw, Ny213.out]; exact HP36.1); clear HP36; have n0_ := Aside0.mk (Kd.R_over' (v := (.slice (some ⟨go35, 0, none⟩) x4_2.length co35)) (by (with_reducible repeat (first | apply Kd.R_alloc | apply Kd.R_drewN | apply Kd.R_drew)); exact HO_3.out) (Kd.R_typed HO_4.out) (by decide) hg); have n1_ := Aside0.mk (hp_); have n2_ := Aside0.mk ((by rw [hw]; exact below_set (HB.out) GB35.out : Below w.heap.size w w37)); clear HO_3; clear HO_4; clear HB; have HO_3 := n0_; have HO_4 := n1_; have HB := n2_; clear n0_ n1_ n2_; clear hg hw hp_)))
                     go_roundg k3
                     case measure => have := HK1.out; have := HK2.out; have := HK3.out; omega
                     case rel => exact ⟨(y213), (wrap64 (x6_2 + 1)), (by first | rfl | (simp; done) | (simp [*]; done) | (simp [isE_]; done)), H', ⟨by have := HK1.out; have := HK2.out; have := HK3.out; omega⟩, ⟨by (with_reducible repeat (first | apply Kd.R_alloc | apply Kd.R_drewN | apply Kd.R_drew)); exact HO_3.out⟩, ⟨by (with_reducible repeat (first | apply Kd.R_alloc | apply Kd.R_drewN | apply Kd.R_drew)); exact HO_4.out⟩, ⟨by repeat (first | (with_reducible first | exact HB.out | apply below_alloc | apply pw_below_drewN | apply below_drew1) | exact HB.out)⟩⟩
                    ·
                     rw [if_neg c34] at H
                     exact absurd H (by simp)
                   ·
                    rw [if_neg c33] at H
                    exact absurd H (by simp)
                  ·
                   rw [if_neg c32] at H
                   exact absurd H (by simp)
                 ·
                  rw [if_neg c31] at H
                  exact absurd H (by simp)
             ·
              rw [if_neg c15] at H
              exact absurd H (by simp)
            ·
             rw [if_neg c14] at H
             exact absurd H (by simp)
           ·
            rw [if_neg c13] at H
            exact absurd H (by simp)
          ·
           rw [if_neg c12] at H
           exact absurd H (by simp)
         ·
          rw [if_neg c11] at H
          have c11b0 : decide (x6_2 < (t196.length : Int)) = false := decide_eq_false c11
          clear c11
          have H' := Aside0.mk H
          clear H
          go_wp2
          repeat (go_quiet (fail); try go_wp2)
          go_roundg k2
          case measure => have := HK1.out; have := HK2.out; omega
          case rel => exact ⟨(x4_2), (wrap64 (x5_1 + 1)), (by first | rfl | (simp; done) | (simp [*]; done) | (simp [isE_]; done)), H', ⟨by have := HK1.out; have := HK2.out; omega⟩, ⟨by (with_reducible repeat (first | apply Kd.R_alloc | apply Kd.R_drewN | apply Kd.R_drew)); exact HO_3.out⟩, ⟨by (with_reducible repeat (first | apply Kd.R_alloc | apply Kd.R_drewN | apply Kd.R_drew)); exact HO_4.out⟩, ⟨by repeat (first | (with_reducible first | exact HB.out | apply below_alloc | apply pw_below_drewN | apply below_drew1) | exact HB.out)⟩⟩
      ·
       rw [if_neg c9] at H
       have c9b0 : decide (x5_1 < (t196.length : Int)) = false := decide_eq_false c9
       clear c9
       have H' := Aside0.mk H
       clear H
       obtain ⟨Ao38, co38, eo38⟩ := Kd.R_slice HO_3.out
       subst eo38
       go_wp2
       repeat (go_quiet (fail); try go_wp2)
       go_loopg [10] k1 (fun kq v10 w' => ∃ (x10_2 : Int), v10 = .int .i64 x10_2 ∧ Aside0 (spec_l06Productive.l3 kq t196 x4_1 x10_2 = some r) ∧ Aside0 (kq ≤ k1) ∧ Aside0 (Kd.R (Kd.int .i16) 85 w' w.heap.size (fun _ => True) (.slice Ao38 t196.length co38) t196) ∧ Aside0 (Kd.R Kd.bool 4 w' w.heap.size (fun _ => True) v201 x4_1) ∧ Aside0 (Below w.heap.size w w'))
       case atStart => exact ⟨(0), (by first | rfl | (simp; done) | (simp [*]; done) | (simp [isE_]; done)), H', ⟨Nat.le_refl _⟩, ⟨by (with_reducible repeat (first | apply Kd.R_alloc | apply Kd.R_drewN | apply Kd.R_drew)); exact HO_3.out⟩, ⟨by (with_reducible repeat (first | apply Kd.R_alloc | apply Kd.R_drewN | apply Kd.R_drew)); exact HO_4.out⟩, ⟨by repeat (first | (with_reducible first | exact HB.out | apply below_alloc | apply pw_below_drewN | apply below_drew1) | exact HB.out)⟩⟩
       case round =>
        clear H'
        try clear c1
        try clear q1
        try clear hx1
        try clear c2
        try clear p2
        try clear q2
        try clear hx2
        try clear hf2
        try clear c3
        try clear c3b0
        try clear c3b1
        try clear p3
        try clear q3
        try clear hx3
        try clear hf3
        try clear c4
        try clear c4b0
        try clear c4b1
        try clear c5
        try clear c5b0
        try clear c5b1
        try clear p6
        try clear c9
        try clear c9b0
        try clear c11
        try clear c11b0
        try clear c12
        try clear c12b0
        try clear c12b1
        try clear c13
        try clear c13b0
        try clear c14
        try clear c14b0
        try clear c15
        try clear c15b0
        try clear c16
        try clear c16b0
        try clear c17
        try clear c17b0
        try clear c17b1
        try clear c18
        try clear c18b0
        try clear c18b1
        try clear c19
        try clear q19
        try clear hx19
        try clear c20
        try clear c20b0
        try clear p20
        try clear q20
        try clear hx20
        try clear c21
        try clear c21b0
        try clear p21
        try clear q21
        try clear hx21
        try clear c22
        try clear c22b0
        try clear c24
        try clear c24b0
        try clear c25
        try clear c25b0
        try clear c26
        try clear c26b0
        try clear c27
        try clear c27b0
        try clear p28
        try clear q28
        try clear hx28
        try clear hf28
        try clear c31
        try clear c31b0
        try clear c32
        try clear c32b0
        try clear c33
        try clear c33b0
        try clear c34
        try clear c34b0
        try clear p35
        try clear q35
        try clear hx35
        try clear hf35
        try clear hx199_0
        try clear hx203_0
        try clear hx204_0
        try clear hx205_0
        try clear hx205_1
        try clear hx205_2
        try clear hx205_3
        try clear hx205_4
        try clear hx207_0
        try clear hx207_1
        try clear hx207_2
        try clear hx207_3
        try clear hx207_4
        try clear hx208_0
        try clear hx209_0
        try clear hx210_0
        try clear hx212_0
        try clear hx28_0
        try clear hx35_0
        try clear p2
        try clear p204
        try clear p205
        try clear p208
        try clear p209
        try clear p210
        try clear p212
        try clear p28
        try clear p35
        try clear q1
        try clear q199
        try clear q2
        try clear q203
        try clear q204
        try clear q205
        try clear q207
        try clear q208
        try clear q209
        try clear q210
        try clear q212
        try clear q28
        try clear q35
        obtain ⟨x10_2, rfl, HA, HK2, HO_3, HO_4, HB⟩ := hrel
        cases gk with
        | zero => exact absurd HA.out (by simp [spec_l06Productive.l3])
        | succ k2 =>
         have H := HA.out
         clear HA
         simp only [spec_l06Productive.l3] at H
         (repeat (first | rw [rd1_T89] at H))
         by_cases c39 : x10_2 < (t196.length : Int)
         ·
          rw [if_pos c39] at H
          have c39b0 : decide (x10_2 < (t196.length : Int)) = true := decide_eq_true c39
          clear c39
          by_cases c40 : 0 ≤ x10_2
          ·
           rw [if_pos c40] at H
           have c40b0 : decide (0 ≤ x10_2) = true := decide_eq_true c40
           clear c40
           by_cases c41 : 0 ≤ (rd t196 x10_2)
           ·
            rw [if_pos c41] at H
            have c41b0 : decide (0 ≤ (rd t196 x10_2)) = true := decide_eq_true c41
            clear c41
            by_cases c42 : (rd t196 x10_2) < (x4_1.length : Int)
            ·
             rw [if_pos c42] at H
             have c42b0 : decide ((rd t196 x10_2) < (x4_1.length : Int)) = true := decide_eq_true c42
             clear c42
             obtain ⟨bq43, hbq43⟩ : ∃ b_ : Bool, b_ = (rdOf false x4_1 (rd t196 x10_2)) := ⟨_, rfl⟩
             replace H : (if (bq43 = true) then (spec_l06Productive.l3 k2 t196 x4_1 (wrap64 (x10_2 + 1))) else (some false)) = some r := by rw [← hbq43] at H; exact H
             have Nbq43 := Aside0.mk hbq43
             clear hbq43
             by_cases c44 : (bq43 = true)
             ·
              subst c44
              have H1 : (spec_l06Productive.l3 k2 t196 x4_1 (wrap64 (x10_2 + 1))) = some r := by first | (rw [if_pos rfl] at H; exact H) | rfl
              clear H
              have H := H1
              clear H1
              have H' := Aside0.mk H
              clear H
              have p214 : 0 ≤ (x10_2 : Int) := of_decide_eq_true (by assumption)
              have q214 : x10_2 < (t196.length : Int) := of_decide_eq_true (by assumption)
              obtain ⟨ad214, e214, hx214_0⟩ := Kd.at_int (Kd.R_reads' HO_3.out).2.2 x10_2 p214 q214
              cases e214
              replace p214 := eq_true p214
              replace q214 := eq_true q214
              obtain ⟨Ao45, co45, eo45⟩ := Kd.R_slice HO_4.out
              subst eo45
              have p215 : 0 ≤ ((rd t196 x10_2) : Int) := of_decide_eq_true (by assumption)
              have q215 : (rd t196 x10_2) < (x4_1.length : Int) := of_decide_eq_true (by assumption)
              obtain ⟨ad215, e215, hx215_0⟩ := Kd.at_bool (Kd.R_reads' HO_4.out).2.2 (rd t196 x10_2) p215 q215
              (try rw [← Nbq43.out] at hx215_0)
              cases e215
              replace p215 := eq_true p215
              replace q215 := eq_true q215
              go_wp2
              repeat (go_quiet (fail); try go_wp2)
              go_roundg k2
              case measure => have := HK1.out; have := HK2.out; omega
              case rel => exact ⟨(wrap64 (x10_2 + 1)), (by first | rfl | (simp; done) | (simp [*]; done) | (simp [isE_]; done)), H', ⟨by have := HK1.out; have := HK2.out; omega⟩, ⟨by (with_reducible repeat (first | apply Kd.R_alloc | apply Kd.R_drewN | apply Kd.R_drew)); exact HO_3.out⟩, ⟨by (with_reducible repeat (first | apply Kd.R_alloc | apply Kd.R_drewN | apply Kd.R_drew)); exact HO_4.out⟩, ⟨by repeat (first | (with_reducible first | exact HB.out | apply below_alloc | apply pw_below_drewN | apply below_drew1) | exact HB.out)⟩⟩
             ·
              replace c44 := Bool.eq_false_iff.mpr c44
              subst c44
              have H1 : (some false) = some r := by first | (rw [if_neg (show ¬ (false = true) by decide)] at H; exact H) | rfl
              clear H
              have H := H1
              clear H1
              obtain rfl := Option.some.inj H
              have p214 : 0 ≤ (x10_2 : Int) := of_decide_eq_true (by assumption)
              have q214 : x10_2 < (t196.length : Int) := of_decide_eq_true (by assumption)
              obtain ⟨ad214, e214, hx214_0⟩ := Kd.at_int (Kd.R_reads' HO_3.out).2.2 x10_2 p214 q214
              cases e214
              replace p214 := eq_true p214
              replace q214 := eq_true q214
              obtain ⟨Ao46, co46, eo46⟩ := Kd.R_slice HO_4.out
              subst eo46
              have p215 : 0 ≤ ((rd t196 x10_2) : Int) := of_decide_eq_true (by assumption)
              have q215 : (rd t196 x10_2) < (x4_1.length : Int) := of_decide_eq_true (by assumption)
              obtain ⟨ad215, e215, hx215_0⟩ := Kd.at_bool (Kd.R_reads' HO_4.out).2.2 (rd t196 x10_2) p215 q215
              (try rw [← Nbq43.out] at hx215_0)
              cases e215
              replace p215 := eq_true p215
              replace q215 := eq_true q215
              go_wp2
              repeat (go_quiet (fail); try go_wp2)
              go_ret
              exact ⟨by first | rfl | (simp [errW_none, errW_some] <;> rfl) | (simp [*, errW_none, errW_some] <;> rfl), by repeat (first | (with_reducible first | exact HB.out | apply below_alloc | apply pw_below_drewN | apply below_drew1) | exact HB.out)⟩
            ·
             rw [if_neg c42] at H
             exact absurd H (by simp)
           ·
            rw [if_neg c41] at H
            exact absurd H (by simp)
          ·
           rw [if_neg c40] at H
           exact absurd H (by simp)
         ·
          rw [if_neg c39] at H
          have c39b0 : decide (x10_2 < (t196.length : Int)) = false := decide_eq_false c39
          clear c39
          obtain rfl := Option.some.inj H
          go_wp2
          repeat (go_quiet (fail); try go_wp2)
          go_ret
          exact ⟨by first | rfl | (simp [errW_none, errW_some] <;> rfl) | (simp [*, errW_none, errW_some] <;> rfl), by repeat (first | (with_reducible first | exact HB.out | apply below_alloc | apply pw_below_drewN | apply below_drew1) | exact HB.out)⟩
   ·
    rw [if_neg c5] at H
    exact absurd H (by simp)
  ·
   rw [if_neg c4] at H
   exact absurd H (by simp)
 ·
  rw [if_neg c3] at H
  exact absurd H (by simp)
end Go.Proofs.Ytpfnohdnaocpdaa.PT

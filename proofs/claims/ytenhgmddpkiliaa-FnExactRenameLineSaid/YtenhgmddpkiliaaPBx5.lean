-- Written by a program (xprint.py) out of the translation's own print; Lean checks it.
import Derived.Test.YtenhgmddpkiliaaPBx0
import Derived.Test.YtenhgmddpkiliaaPBx4
namespace Go.Proofs.Ytenhgmddpkiliaa.PB
open Go.RowKit Go.Proofs.YtenhgmddpkiliaaW.PrintWords Go.Proofs.YtenhgmddpkiliaaW.PrintLast Go.Proofs.YtenhgmddpkiliaaW.PrintMore Go.Proofs.YtenhgmddpkiliaaRP
attribute [local go_sem] max2_int min2_int max_two min_two max_three min_three max_four min_four Go.Proofs.YtenhgmddpkiliaaRP.max_eight Go.Proofs.YtenhgmddpkiliaaRP.tmod_len   -- for this text's walks alone
set_option linter.unusedVariables false
set_option linter.unusedSimpArgs false
/-! ### spec_l07Needs: function 81 -/
def spec_l07Needs.l0 : Nat → List (S45) → Int → List Bool → List Int → Option (List Bool × Bool)
 | 0, _, _, _, _ => none
 | k + 1, x0, x1, x6, x7 => if (x7.length : Int) > 0 then (if 0 < (x7.length : Int) then (if 1 ≤ (x7.length : Int) then ((some (x7.drop (1 : Int).toNat : List Int)).bind fun y171 => (if (rd x7 0) < 0 then (spec_l07Needs.l0 k x0 x1 x6 y171) else (if 0 ≤ (rd x7 0) then (if (rd x7 0) < (x6.length : Int) then (if rdOf false x6 (rd x7 0) = true then (spec_l07Needs.l0 k x0 x1 x6 y171) else ((spec_l07Uses.f k x0 (rd x7 0)).bind fun t176 => (if y171.length + t176.length < 17592186044416 then (spec_l07Needs.l0 k x0 x1 (x6.set ((rd x7 0) : Int).toNat true) (y171 ++ t176)) else (none)))) else (none)) else (none)))) else (none)) else (none)) else (if 0 ≤ x1 then (if x1 < (x6.length : Int) then (some (x6, !(rdOf false x6 x1))) else (none)) else (none))
def spec_l07Needs.f (k : Nat) (l0 : List (S45)) (a1 : Int) : Option (List Bool × Bool) := if 0 ≤ (l0.length : Int) then (if ((l0.length : Int) : Int).toNat ≤ 281474976710656 then ((spec_l07Uses.f k l0 a1).bind fun t167 => (spec_l07Needs.l0 k l0 a1 (List.replicate ((l0.length : Int) : Int).toNat false) t167)) else (none)) else (none)
theorem spec_l07Needs.mono_l : ∀ k, (∀ y0 y1 y2 y3, LeO (spec_l07Needs.l0 k y0 y1 y2 y3) (spec_l07Needs.l0 (k + 1) y0 y1 y2 y3))
 | 0 => fun _ _ _ _ r h => by simp [spec_l07Needs.l0] at h
 | k + 1 => by
  have ih0 := spec_l07Needs.mono_l k
  ·
   intro y0 y1 y2 y3
   unfold spec_l07Needs.l0
   repeat' first
   | (with_reducible exact ih0 _ _ _ _)
   | (with_reducible exact spec_l07Uses.mono _ _ _)
   | (with_reducible exact LeO.refl _)
   | (with_reducible exact LeO.none _)
   | (with_reducible refine LeO.ite ?_ ?_)
   | (with_reducible refine LeO.bind ?_ (fun _ => ?_))
   | exact ih0 _ _ _ _
   | exact LeO.none _
   | refine LeO.ite ?_ ?_
   | refine LeO.bind ?_ (fun _ => ?_)
theorem spec_l07Needs.mono : ∀ a0 a1 k, LeO (spec_l07Needs.f k a0 a1) (spec_l07Needs.f (k + 1) a0 a1) := by
 intro a0 a1 k
 have ih0 := spec_l07Needs.mono_l k
 unfold spec_l07Needs.f
 repeat' first
   | (with_reducible exact ih0 _ _ _ _)
   | (with_reducible exact spec_l07Uses.mono _ _ _)
   | (with_reducible exact LeO.refl _)
   | (with_reducible exact LeO.none _)
   | (with_reducible refine LeO.ite ?_ ?_)
   | (with_reducible refine LeO.bind ?_ (fun _ => ?_))
   | exact ih0 _ _ _ _
   | exact LeO.none _
   | refine LeO.ite ?_ ?_
   | refine LeO.bind ?_ (fun _ => ?_)
set_option maxHeartbeats 8000000 in
set_option maxRecDepth 100000 in
theorem spec_l07Needs.calls (k : Nat) (A0 : Option Addr) (c0 : Nat) (l0 : List (S45)) (a1 : Int) (r1 : List Bool) (r2 : Bool) (w : World) (hr0 : Kd.C k45 w A0 l0.length l0) (hc0 : l0.length ≤ c0) (h : spec_l07Needs.f k l0 a1 = some (r1, r2)) :
  Calls Try.prog 81 #[.slice A0 l0.length c0, .int .i64 a1] w fun e w' => ∃ v0_ : Value, e = .returned (.tuple #[v0_, .bool r2]) ∧ Kd.R Kd.bool 4 w' w.heap.size (fun _ => True) v0_ r1 ∧ Below w.heap.size w w' := by
 have HR0 := Aside0.mk hr0
 have HC0 := Aside0.mk hc0
 clear hr0 hc0
 have HB := Aside0.mk (Below.refl w.heap.size w)
 have H : (if 0 ≤ (l0.length : Int) then (if ((l0.length : Int) : Int).toNat ≤ 281474976710656 then ((spec_l07Uses.f k l0 a1).bind fun t167 => (spec_l07Needs.l0 k l0 a1 (List.replicate ((l0.length : Int) : Int).toNat false) t167)) else (none)) else (none)) = some (r1, r2) := h
 clear h
 by_cases c3 : 0 ≤ (l0.length : Int)
 ·
  rw [if_pos c3] at H
  have c3b0 := eq_true c3
  have c3b1 : decide (0 ≤ (l0.length : Int)) = true := decide_eq_true c3
  clear c3
  by_cases c4 : ((l0.length : Int) : Int).toNat ≤ 281474976710656
  ·
   rw [if_pos c4] at H
   have c4b0 := eq_true c4
   have c4b1 : decide (((l0.length : Int) : Int).toNat ≤ 281474976710656) = true := decide_eq_true c4
   clear c4
   obtain ⟨y164, hy164⟩ : ∃ y_ : List Bool, y_ = (List.replicate ((l0.length : Int) : Int).toNat false) := ⟨_, rfl⟩
   replace H : ((spec_l07Uses.f k l0 a1).bind fun t167 => (spec_l07Needs.l0 k l0 a1 y164 t167)) = some (r1, r2) := by first | (rw [hy164]; with_reducible exact H) | (have H2_ := (Option.bind_some _ _).symm.trans H; rw [hy164]; with_reducible exact H2_) | (have H2_ := (Option.bind_some _ _).symm.trans H; with_reducible exact H2_) | with_reducible exact H | (rw [hy164]; exact H) | exact H
   have Ny164 := Aside0.mk hy164
   clear hy164
   replace H := Option.bind_eq_some_iff.mp H
   obtain ⟨t167, A50, H⟩ := H
   replace H : (spec_l07Needs.l0 k l0 a1 y164 t167) = some (r1, r2) := H
   have A5 := Aside0.mk A50
   clear A50
   have H' := Aside0.mk H
   clear H
   go_enter Try.func81, Try.ntmps81
   go_wp2_with (first | ((with_reducible refine gate_dst (N := 11) rfl ?_); refine Kd.R_make Kd.bool _ 4 rfl (N := 11) rfl 77 _ _ rfl (l0.length : Int) rfl rfl Try.underlying77 (.bool false) 1 info4 rfl (by decide) (by omega) false (ok := fun _ => True) (okp := fun _ => True) rfl (fun _ hk => hk) trivial (of_decide_eq_true (by assumption)) (Nat.le_trans (Nat.mul_le_mul_right _ (of_decide_eq_true (by assumption) : (l0.length : Int).toNat ≤ 281474976710656)) (by omega)) (Below.refl _ _) (Nat.le_refl _) ?_; intro v165 w6 ho7 hb hg_ hnew_; clear hg_ hnew_; (first | rw [← Ny164.out] at ho7 | (simp only [Int.reduceToNat] at ho7; rw [← Ny164.out] at ho7)); have n0_ := Aside0.mk (Kd.R_lower ho7 (below_size (by repeat (first | (with_reducible first | exact HB.out | apply below_alloc | apply pw_below_drewN | apply below_drew1) | exact HB.out)))); have n1_ := Aside0.mk (below_step (by repeat (first | (with_reducible first | exact HB.out | apply below_alloc | apply pw_below_drewN | apply below_drew1) | exact HB.out)) hb); clear HB; have HO166 := n0_; have HB := n1_; clear n0_ n1_; clear hb ho7) | (go_at_call 104; (with_reducible refine (spec_l07Uses.calls k _ _ l0 a1 t167 _ ?side1 ?side2 A5.out).mono ?_); (case side1 => repeat (first | exact (Kd.C_below HR0.out HB.out) | (with_reducible refine Kd.C_alloc ?_ _) | (with_reducible refine Kd.C_drewN ?_ _) | (with_reducible refine Kd.C_drew ?_))); (case side2 => exact HC0.out); rintro e w8 ⟨v168, rfl, ho0, hb⟩; have n0_ := Aside0.mk (Kd.R_below (by (with_reducible repeat (first | apply Kd.R_alloc | apply Kd.R_drewN | apply Kd.R_drew)); exact HO166.out) hb); have n1_ := Aside0.mk (Kd.R_lower ho0 (below_size (by repeat (first | (with_reducible first | exact HB.out | apply below_alloc | apply pw_below_drewN | apply below_drew1) | exact HB.out)))); have n2_ := Aside0.mk (below_step (by repeat (first | (with_reducible first | exact HB.out | apply below_alloc | apply pw_below_drewN | apply below_drew1) | exact HB.out)) hb); clear HO166; clear HB; have HO166 := n0_; have HO169 := n1_; have HB := n2_; clear n0_ n1_ n2_; (try clear hb); (try clear hb2); (try clear hk); (try clear hi); (try clear ho0)))
   repeat (go_quiet (first | ((with_reducible refine gate_dst (N := 11) rfl ?_); refine Kd.R_make Kd.bool _ 4 rfl (N := 11) rfl 77 _ _ rfl (l0.length : Int) rfl rfl Try.underlying77 (.bool false) 1 info4 rfl (by decide) (by omega) false (ok := fun _ => True) (okp := fun _ => True) rfl (fun _ hk => hk) trivial (of_decide_eq_true (by assumption)) (Nat.le_trans (Nat.mul_le_mul_right _ (of_decide_eq_true (by assumption) : (l0.length : Int).toNat ≤ 281474976710656)) (by omega)) (Below.refl _ _) (Nat.le_refl _) ?_; intro v165 w6 ho7 hb hg_ hnew_; clear hg_ hnew_; (first | rw [← Ny164.out] at ho7 | (simp only [Int.reduceToNat] at ho7; rw [← Ny164.out] at ho7)); have n0_ := Aside0.mk (Kd.R_lower ho7 (below_size (by repeat (first | (with_reducible first | exact HB.out | apply below_alloc | apply pw_below_drewN | apply below_drew1) | exact HB.out)))); have n1_ := Aside0.mk (below_step (by repeat (first | (with_reducible first | exact HB.out | apply below_alloc | apply pw_below_drewN | apply below_drew1) | exact HB.out)) hb); clear HB; have HO166 := n0_; have HB := n1_; clear n0_ n1_; clear hb ho7) | (go_at_call 104; (with_reducible refine (spec_l07Uses.calls k _ _ l0 a1 t167 _ ?side1 ?side2 A5.out).mono ?_); (case side1 => repeat (first | exact (Kd.C_below HR0.out HB.out) | (with_reducible refine Kd.C_alloc ?_ _) | (with_reducible refine Kd.C_drewN ?_ _) | (with_reducible refine Kd.C_drew ?_))); (case side2 => exact HC0.out); rintro e w8 ⟨v168, rfl, ho0, hb⟩; have n0_ := Aside0.mk (Kd.R_below (by (with_reducible repeat (first | apply Kd.R_alloc | apply Kd.R_drewN | apply Kd.R_drew)); exact HO166.out) hb); have n1_ := Aside0.mk (Kd.R_lower ho0 (below_size (by repeat (first | (with_reducible first | exact HB.out | apply below_alloc | apply pw_below_drewN | apply below_drew1) | exact HB.out)))); have n2_ := Aside0.mk (below_step (by repeat (first | (with_reducible first | exact HB.out | apply below_alloc | apply pw_below_drewN | apply below_drew1) | exact HB.out)) hb); clear HO166; clear HB; have HO166 := n0_; have HO169 := n1_; have HB := n2_; clear n0_ n1_ n2_; (try clear hb); (try clear hb2); (try clear hk); (try clear hi); (try clear ho0))); try go_wp2_with (first | ((with_reducible refine gate_dst (N := 11) rfl ?_); refine Kd.R_make Kd.bool _ 4 rfl (N := 11) rfl 77 _ _ rfl (l0.length : Int) rfl rfl Try.underlying77 (.bool false) 1 info4 rfl (by decide) (by omega) false (ok := fun _ => True) (okp := fun _ => True) rfl (fun _ hk => hk) trivial (of_decide_eq_true (by assumption)) (Nat.le_trans (Nat.mul_le_mul_right _ (of_decide_eq_true (by assumption) : (l0.length : Int).toNat ≤ 281474976710656)) (by omega)) (Below.refl _ _) (Nat.le_refl _) ?_; intro v165 w6 ho7 hb hg_ hnew_; clear hg_ hnew_; (first | rw [← Ny164.out] at ho7 | (simp only [Int.reduceToNat] at ho7; rw [← Ny164.out] at ho7)); have n0_ := Aside0.mk (Kd.R_lower ho7 (below_size (by repeat (first | (with_reducible first | exact HB.out | apply below_alloc | apply pw_below_drewN | apply below_drew1) | exact HB.out)))); have n1_ := Aside0.mk (below_step (by repeat (first | (with_reducible first | exact HB.out | apply below_alloc | apply pw_below_drewN | apply below_drew1) | exact HB.out)) hb); clear HB; have HO166 := n0_; have HB := n1_; clear n0_ n1_; clear hb ho7) | (go_at_call 104; (with_reducible refine (spec_l07Uses.calls k _ _ l0 a1 t167 _ ?side1 ?side2 A5.out).mono ?_); (case side1 => repeat (first | exact (Kd.C_below HR0.out HB.out) | (with_reducible refine Kd.C_alloc ?_ _) | (with_reducible refine Kd.C_drewN ?_ _) | (with_reducible refine Kd.C_drew ?_))); (case side2 => exact HC0.out); rintro e w8 ⟨v168, rfl, ho0, hb⟩; have n0_ := Aside0.mk (Kd.R_below (by (with_reducible repeat (first | apply Kd.R_alloc | apply Kd.R_drewN | apply Kd.R_drew)); exact HO166.out) hb); have n1_ := Aside0.mk (Kd.R_lower ho0 (below_size (by repeat (first | (with_reducible first | exact HB.out | apply below_alloc | apply pw_below_drewN | apply below_drew1) | exact HB.out)))); have n2_ := Aside0.mk (below_step (by repeat (first | (with_reducible first | exact HB.out | apply below_alloc | apply pw_below_drewN | apply below_drew1) | exact HB.out)) hb); clear HO166; clear HB; have HO166 := n0_; have HO169 := n1_; have HB := n2_; clear n0_ n1_ n2_; (try clear hb); (try clear hb2); (try clear hk); (try clear hi); (try clear ho0))))
   go_loopg [7] k (fun kq v7 w' => ∃ (x6_1 : List Bool) (x7_1 : List Int), Aside0 (spec_l07Needs.l0 kq l0 a1 x6_1 x7_1 = some (r1, r2)) ∧ Aside0 (kq ≤ k) ∧ Aside0 (Kd.R Kd.bool 4 w' w.heap.size (fun _ => True) v165 x6_1) ∧ Aside0 (Kd.Q (Kd.int .i64) 2 w' w.heap.size (fun _ => True) v7 x7_1) ∧ Aside0 (Below w.heap.size w w'))
   case atStart => exact ⟨(y164), (t167), H', ⟨Nat.le_refl _⟩, ⟨by (with_reducible repeat (first | apply Kd.R_alloc | apply Kd.R_drewN | apply Kd.R_drew)); exact HO166.out⟩, ⟨Kd.Q_of_R (by (with_reducible repeat (first | apply Kd.R_alloc | apply Kd.R_drewN | apply Kd.R_drew)); exact HO169.out)⟩, ⟨by repeat (first | (with_reducible first | exact HB.out | apply below_alloc | apply pw_below_drewN | apply below_drew1) | exact HB.out)⟩⟩
   case round =>
    clear H'
    try clear p2
    try clear c3
    try clear c3b0
    try clear c3b1
    try clear c4
    try clear c4b0
    try clear c4b1
    try clear c8
    obtain ⟨x6_1, x7_1, HA, HK1, HO_6, HO_7, HB⟩ := hrel
    cases gk with
    | zero => exact absurd HA.out (by simp [spec_l07Needs.l0])
    | succ k1 =>
     have H := HA.out
     clear HA
     simp only [spec_l07Needs.l0] at H
     by_cases c9 : (x7_1.length : Int) > 0
     ·
      rw [if_pos c9] at H
      have c9b0 : decide (0 < (x7_1.length : Int)) = true := decide_eq_true c9
      have c9b1 : decide (0 < x7_1.length) = true := decide_eq_true (by omega)
      clear c9
      by_cases c10 : 0 < (x7_1.length : Int)
      ·
       rw [if_pos c10] at H
       have c10b0 : decide (0 < (x7_1.length : Int)) = true := decide_eq_true c10
       have c10b1 : decide (0 < x7_1.length) = true := decide_eq_true (by omega)
       clear c10
       by_cases c11 : 1 ≤ (x7_1.length : Int)
       ·
        rw [if_pos c11] at H
        have c11b0 := eq_true c11
        have c11b1 : decide (1 ≤ (x7_1.length : Int)) = true := decide_eq_true c11
        clear c11
        obtain ⟨y171, hy171⟩ : ∃ y_ : List Int, y_ = (x7_1.drop (1 : Int).toNat) := ⟨_, rfl⟩
        replace H : (if (rd x7_1 0) < 0 then (spec_l07Needs.l0 k1 l0 a1 x6_1 y171) else (if 0 ≤ (rd x7_1 0) then (if (rd x7_1 0) < (x6_1.length : Int) then (if rdOf false x6_1 (rd x7_1 0) = true then (spec_l07Needs.l0 k1 l0 a1 x6_1 y171) else ((spec_l07Uses.f k1 l0 (rd x7_1 0)).bind fun t176 => (if y171.length + t176.length < 17592186044416 then (spec_l07Needs.l0 k1 l0 a1 (x6_1.set ((rd x7_1 0) : Int).toNat true) (y171 ++ t176)) else (none)))) else (none)) else (none))) = some (r1, r2) := by first | (rw [hy171]; with_reducible exact H) | (have H2_ := (Option.bind_some _ _).symm.trans H; rw [hy171]; with_reducible exact H2_) | (have H2_ := (Option.bind_some _ _).symm.trans H; with_reducible exact H2_) | with_reducible exact H | (rw [hy171]; exact H) | exact H
        have Ny171 := Aside0.mk hy171
        clear hy171
        by_cases c12 : (rd x7_1 0) < 0
        ·
         rw [if_pos c12] at H
         have c12b0 : decide ((rd x7_1 0) < 0) = true := decide_eq_true c12
         clear c12
         have H' := Aside0.mk H
         clear H
         obtain ⟨Ao13, co13, eo13, _⟩ := Kd.Q_slice HO_7.out
         subst eo13
         have p170 : 0 ≤ (0 : Int) := (by omega)
         have q170 : 0 < (x7_1.length : Int) := of_decide_eq_true (by assumption)
         obtain ⟨ad170, e170, hx170_0⟩ := Kd.at_int (Kd.Q_reads' HO_7.out).2.2 0 p170 q170
         cases e170
         have qi170 : (0 < x7_1.length) = True := eq_true (by omega)
         (try rw [show ((0 : Int)).toNat = 0 from rfl] at hx170_0)
         (try rw [Addr.add_zero'] at hx170_0)
         replace p170 := eq_true p170
         replace q170 := eq_true q170
         have q14 : (1 : Int) ≤ ((x7_1.length : Int) : Int) := of_decide_eq_true (by assumption)
         obtain ⟨i014, hi014, _, hsz14, _⟩ := info_parts info2
         have hcut14 := cut_from (P := Try.prog) 57 2 .i64 Try.underlying57 hi014 1 hsz14 (some ad170) x7_1.length co13 1 (by omega) q14
         have hr14 := Kd.Q_drop (k := (1 : Int).toNat) HO_7.out (by omega)
         obtain ⟨A14, hA14⟩ : ∃ A1, A1 = (if co13 = (1 : Int).toNat then (some ad170) else ((some ad170) : Option Addr).map (·.add ((1 : Int).toNat * 1))) := ⟨_, rfl⟩
         obtain ⟨c14, hc14⟩ : ∃ c1, c1 = co13 - (1 : Int).toNat := ⟨_, rfl⟩
         have hy14 : y171.length = x7_1.length - (1 : Int).toNat := (by rw [Ny171.out, List.length_drop])
         rw [← Ny171.out] at hr14
         rw [← hy14, ← hA14, ← hc14] at hcut14
         replace hr14 : Kd.Q (Kd.int .i64) 2 wr w.heap.size (fun _ => True) (.slice A14 y171.length c14) y171 := (by rw [hA14, hc14, hy14]; exact hr14)
         have HE14 : Aside0 ((Value.slice A14 y171.length c14).ownBlock = (.slice (some ad170) x7_1.length co13 : Value).ownBlock) := ⟨by rw [hA14]; split <;> (cases ((some ad170) : Option Addr) <;> rfl)⟩
         clear hy14 hi014 hsz14 HO_7 hA14 hc14
         have HO173 := Aside0.mk hr14
         clear hr14
         replace q14 := eq_true q14
         go_wp2
         repeat (go_quiet (fail); try go_wp2)
         go_roundg k1
         case measure => have := HK1.out; omega
         case rel => exact ⟨(x6_1), (y171), H', ⟨by have := HK1.out; omega⟩, ⟨by (with_reducible repeat (first | apply Kd.R_alloc | apply Kd.R_drewN | apply Kd.R_drew)); exact HO_6.out⟩, ⟨by (with_reducible repeat (first | apply Kd.Q_alloc | apply Kd.Q_drewN | apply Kd.Q_drew)); exact HO173.out⟩, ⟨by repeat (first | (with_reducible first | exact HB.out | apply below_alloc | apply pw_below_drewN | apply below_drew1) | exact HB.out)⟩⟩
        ·
         rw [if_neg c12] at H
         have c12b0 : decide ((rd x7_1 0) < 0) = false := decide_eq_false c12
         clear c12
         by_cases c15 : 0 ≤ (rd x7_1 0)
         ·
          rw [if_pos c15] at H
          have c15b0 : decide (0 ≤ (rd x7_1 0)) = true := decide_eq_true c15
          clear c15
          by_cases c16 : (rd x7_1 0) < (x6_1.length : Int)
          ·
           rw [if_pos c16] at H
           have c16b0 : decide ((rd x7_1 0) < (x6_1.length : Int)) = true := decide_eq_true c16
           clear c16
           obtain ⟨bq17, hbq17⟩ : ∃ b_ : Bool, b_ = (rdOf false x6_1 (rd x7_1 0)) := ⟨_, rfl⟩
           replace H : (if bq17 = true then (spec_l07Needs.l0 k1 l0 a1 x6_1 y171) else ((spec_l07Uses.f k1 l0 (rd x7_1 0)).bind fun t176 => (if y171.length + t176.length < 17592186044416 then (spec_l07Needs.l0 k1 l0 a1 (x6_1.set ((rd x7_1 0) : Int).toNat true) (y171 ++ t176)) else (none)))) = some (r1, r2) := by rw [← hbq17] at H; exact H
           have Nbq17 := Aside0.mk hbq17
           clear hbq17
           by_cases c18 : bq17 = true
           ·
            subst c18
            have H1 : (spec_l07Needs.l0 k1 l0 a1 x6_1 y171) = some (r1, r2) := by first | (rw [if_pos rfl] at H; exact H) | rfl
            clear H
            have H := H1
            clear H1
            have H' := Aside0.mk H
            clear H
            obtain ⟨Ao19, co19, eo19, _⟩ := Kd.Q_slice HO_7.out
            subst eo19
            have p170 : 0 ≤ (0 : Int) := (by omega)
            have q170 : 0 < (x7_1.length : Int) := of_decide_eq_true (by assumption)
            obtain ⟨ad170, e170, hx170_0⟩ := Kd.at_int (Kd.Q_reads' HO_7.out).2.2 0 p170 q170
            cases e170
            have qi170 : (0 < x7_1.length) = True := eq_true (by omega)
            (try rw [show ((0 : Int)).toNat = 0 from rfl] at hx170_0)
            (try rw [Addr.add_zero'] at hx170_0)
            replace p170 := eq_true p170
            replace q170 := eq_true q170
            have q20 : (1 : Int) ≤ ((x7_1.length : Int) : Int) := of_decide_eq_true (by assumption)
            obtain ⟨i020, hi020, _, hsz20, _⟩ := info_parts info2
            have hcut20 := cut_from (P := Try.prog) 57 2 .i64 Try.underlying57 hi020 1 hsz20 (some ad170) x7_1.length co19 1 (by omega) q20
            have hr20 := Kd.Q_drop (k := (1 : Int).toNat) HO_7.out (by omega)
            obtain ⟨A20, hA20⟩ : ∃ A1, A1 = (if co19 = (1 : Int).toNat then (some ad170) else ((some ad170) : Option Addr).map (·.add ((1 : Int).toNat * 1))) := ⟨_, rfl⟩
            obtain ⟨c20, hc20⟩ : ∃ c1, c1 = co19 - (1 : Int).toNat := ⟨_, rfl⟩
            have hy20 : y171.length = x7_1.length - (1 : Int).toNat := (by rw [Ny171.out, List.length_drop])
            rw [← Ny171.out] at hr20
            rw [← hy20, ← hA20, ← hc20] at hcut20
            replace hr20 : Kd.Q (Kd.int .i64) 2 wr w.heap.size (fun _ => True) (.slice A20 y171.length c20) y171 := (by rw [hA20, hc20, hy20]; exact hr20)
            have HE20 : Aside0 ((Value.slice A20 y171.length c20).ownBlock = (.slice (some ad170) x7_1.length co19 : Value).ownBlock) := ⟨by rw [hA20]; split <;> (cases ((some ad170) : Option Addr) <;> rfl)⟩
            clear hy20 hi020 hsz20 HO_7 hA20 hc20
            have HO173 := Aside0.mk hr20
            clear hr20
            replace q20 := eq_true q20
            obtain ⟨Ao21, co21, eo21⟩ := Kd.R_slice HO_6.out
            subst eo21
            have p174 : 0 ≤ ((rd x7_1 0) : Int) := of_decide_eq_true (by assumption)
            have q174 : (rd x7_1 0) < (x6_1.length : Int) := of_decide_eq_true (by assumption)
            obtain ⟨ad174, e174, hx174_0⟩ := Kd.at_bool (Kd.R_reads' HO_6.out).2.2 (rd x7_1 0) p174 q174
            (try rw [← Nbq17.out] at hx174_0)
            cases e174
            replace p174 := eq_true p174
            replace q174 := eq_true q174
            go_wp2
            repeat (go_quiet (fail); try go_wp2)
            go_roundg k1
            case measure => have := HK1.out; omega
            case rel => exact ⟨(x6_1), (y171), H', ⟨by have := HK1.out; omega⟩, ⟨by (with_reducible repeat (first | apply Kd.R_alloc | apply Kd.R_drewN | apply Kd.R_drew)); exact HO_6.out⟩, ⟨by (with_reducible repeat (first | apply Kd.Q_alloc | apply Kd.Q_drewN | apply Kd.Q_drew)); exact HO173.out⟩, ⟨by repeat (first | (with_reducible first | exact HB.out | apply below_alloc | apply pw_below_drewN | apply below_drew1) | exact HB.out)⟩⟩
           ·
            replace c18 := Bool.eq_false_iff.mpr c18
            subst c18
            have H1 : ((spec_l07Uses.f k1 l0 (rd x7_1 0)).bind fun t176 => (if y171.length + t176.length < 17592186044416 then (spec_l07Needs.l0 k1 l0 a1 (x6_1.set ((rd x7_1 0) : Int).toNat true) (y171 ++ t176)) else (none))) = some (r1, r2) := by first | (rw [if_neg (show ¬ (false = true) by decide)] at H; exact H) | rfl
            clear H
            have H := H1
            clear H1
            obtain ⟨y175, hy175⟩ : ∃ y_ : List Bool, y_ = (x6_1.set ((rd x7_1 0) : Int).toNat true) := ⟨_, rfl⟩
            replace H : ((spec_l07Uses.f k1 l0 (rd x7_1 0)).bind fun t176 => (if y171.length + t176.length < 17592186044416 then (spec_l07Needs.l0 k1 l0 a1 y175 (y171 ++ t176)) else (none))) = some (r1, r2) := by first | (rw [hy175]; with_reducible exact H) | (have H2_ := (Option.bind_some _ _).symm.trans H; rw [hy175]; with_reducible exact H2_) | (have H2_ := (Option.bind_some _ _).symm.trans H; with_reducible exact H2_) | with_reducible exact H | (rw [hy175]; exact H) | exact H
            have Ny175 := Aside0.mk hy175
            clear hy175
            replace H := Option.bind_eq_some_iff.mp H
            obtain ⟨t176, A230, H⟩ := H
            replace H : (if y171.length + t176.length < 17592186044416 then (spec_l07Needs.l0 k1 l0 a1 y175 (y171 ++ t176)) else (none)) = some (r1, r2) := H
            have A23 := Aside0.mk A230
            clear A230
            by_cases c24 : y171.length + t176.length < 17592186044416
            ·
             rw [if_pos c24] at H
             have LMc24 := Aside0.mk c24
             clear c24
             obtain ⟨y179, hy179⟩ : ∃ y_ : List Int, y_ = (y171 ++ t176) := ⟨_, rfl⟩
             replace H : (spec_l07Needs.l0 k1 l0 a1 y175 y179) = some (r1, r2) := by first | (rw [hy179]; with_reducible exact H) | (have H2_ := (Option.bind_some _ _).symm.trans H; rw [hy179]; with_reducible exact H2_) | (have H2_ := (Option.bind_some _ _).symm.trans H; with_reducible exact H2_) | with_reducible exact H | (rw [hy179]; exact H) | exact H
             have Ny179 := Aside0.mk hy179
             clear hy179
             have H' := Aside0.mk H
             clear H
             obtain ⟨Ao25, co25, eo25, _⟩ := Kd.Q_slice HO_7.out
             subst eo25
             have p170 : 0 ≤ (0 : Int) := (by omega)
             have q170 : 0 < (x7_1.length : Int) := of_decide_eq_true (by assumption)
             obtain ⟨ad170, e170, hx170_0⟩ := Kd.at_int (Kd.Q_reads' HO_7.out).2.2 0 p170 q170
             cases e170
             have qi170 : (0 < x7_1.length) = True := eq_true (by omega)
             (try rw [show ((0 : Int)).toNat = 0 from rfl] at hx170_0)
             (try rw [Addr.add_zero'] at hx170_0)
             replace p170 := eq_true p170
             replace q170 := eq_true q170
             have q26 : (1 : Int) ≤ ((x7_1.length : Int) : Int) := of_decide_eq_true (by assumption)
             obtain ⟨i026, hi026, _, hsz26, _⟩ := info_parts info2
             have hcut26 := cut_from (P := Try.prog) 57 2 .i64 Try.underlying57 hi026 1 hsz26 (some ad170) x7_1.length co25 1 (by omega) q26
             have hr26 := Kd.Q_drop (k := (1 : Int).toNat) HO_7.out (by omega)
             obtain ⟨A26, hA26⟩ : ∃ A1, A1 = (if co25 = (1 : Int).toNat then (some ad170) else ((some ad170) : Option Addr).map (·.add ((1 : Int).toNat * 1))) := ⟨_, rfl⟩
             obtain ⟨c26, hc26⟩ : ∃ c1, c1 = co25 - (1 : Int).toNat := ⟨_, rfl⟩
             have hy26 : y171.length = x7_1.length - (1 : Int).toNat := (by rw [Ny171.out, List.length_drop])
             rw [← Ny171.out] at hr26
             rw [← hy26, ← hA26, ← hc26] at hcut26
             replace hr26 : Kd.Q (Kd.int .i64) 2 wr w.heap.size (fun _ => True) (.slice A26 y171.length c26) y171 := (by rw [hA26, hc26, hy26]; exact hr26)
             have HE26 : Aside0 ((Value.slice A26 y171.length c26).ownBlock = (.slice (some ad170) x7_1.length co25 : Value).ownBlock) := ⟨by rw [hA26]; split <;> (cases ((some ad170) : Option Addr) <;> rfl)⟩
             clear hy26 hi026 hsz26 HO_7 hA26 hc26
             have HO173 := Aside0.mk hr26
             clear hr26
             replace q26 := eq_true q26
             obtain ⟨Ao27, co27, eo27⟩ := Kd.R_slice HO_6.out
             subst eo27
             have p174 : 0 ≤ ((rd x7_1 0) : Int) := of_decide_eq_true (by assumption)
             have q174 : (rd x7_1 0) < (x6_1.length : Int) := of_decide_eq_true (by assumption)
             obtain ⟨ad174, e174, hx174_0⟩ := Kd.at_bool (Kd.R_reads' HO_6.out).2.2 (rd x7_1 0) p174 q174
             (try rw [← Nbq17.out] at hx174_0)
             cases e174
             replace p174 := eq_true p174
             replace q174 := eq_true q174
             have p22 : 0 ≤ ((rd x7_1 0) : Int) := of_decide_eq_true (by assumption)
             have q22 : ((rd x7_1 0) : Int) < ((x6_1.length : Int) : Int) := of_decide_eq_true (by assumption)
             obtain ⟨go22, co22, eo22, gb22, gl22, cl22, HG22⟩ := Kd.R_form HO_6.out (by omega)
             (first | cases eo22 | (injection eo22 with ea_ en_ ec_; (first | subst ea_ | (injection ea_ with ea_; subst ea_)); subst ec_; clear en_))
             have GB22 := Aside0.mk gb22
             have GG22 := Aside0.mk HG22
             clear gb22 gl22 HG22
             (first | simp only [add_plain] at hx174_0 | skip)
             obtain ⟨hx22_0, hf22_0⟩ := Kd.R_celln false HO_6.out ((rd x7_1 0) : Int) p22 q22
             replace p22 := eq_true p22
             replace q22 := eq_true q22
             have HP28 := Kd.R_putg HO_6.out ((rd x7_1 0) : Int) true
             go_wp2_with (first | ((with_reducible refine gate_store (t := 4) (p := 33) rfl ?_); (try (rw [drewN_self wr]; generalize hq_ : World.drewN wr _ = wr; have n0_ := Aside0.mk (Kd.R_at hq_ HO_6.out); have n1_ := Aside0.mk (Kd.Q_at hq_ HO173.out); have n2_ := Aside0.mk (below_at hq_ HB.out); clear hq_ HO_6 HO173 HB; have HO_6 := n0_; have HO173 := n1_; have HB := n2_; clear n0_ n1_ n2_; (try (have HP28 := Kd.R_putg HO_6.out ((rd x7_1 0) : Int) true)))); refine store_event (t := 4) (p := 33) (v := ?vo_w29) (w1 := (wr.setCell ⟨go22, ((rd x7_1 0) : Int).toNat, none⟩ (.bool true))) ?hg ?ho ?hn ?hr ?_; (case ho => rfl); (case hg => rfl); (case hn => rfl); (case hr => first | (go_simp; done) | (go_simp; rfl)); intro w29 hw; have hg : wr.grownBy w29 (some go22) := (by rw [hw]; exact HP28.2); have hp_ : Kd.R Kd.bool 4 w29 w.heap.size (fun _ => True) (.slice (some ⟨go22, 0, none⟩) x6_1.length co27) y175 := (by rw [hw, Ny175.out]; exact HP28.1); clear HP28; have n0_ := Aside0.mk (hp_); have n1_ := Aside0.mk (Kd.Q_over' (v := (.slice (some ⟨go22, 0, none⟩) x6_1.length co27)) (by (with_reducible repeat (first | apply Kd.Q_alloc | apply Kd.Q_drewN | apply Kd.Q_drew)); exact HO173.out) (Kd.R_typed HO_6.out) (by decide) hg); have n2_ := Aside0.mk ((by rw [hw]; exact below_set (HB.out) GB22.out : Below w.heap.size w w29)); clear HO_6; clear HO173; clear HB; have HO_6 := n0_; have HO173 := n1_; have HB := n2_; clear n0_ n1_ n2_; clear hg hw hp_) | (go_at_call 104; (with_reducible refine (spec_l07Uses.calls k1 _ _ l0 (rd x7_1 0) t176 _ ?side1 ?side2 A23.out).mono ?_); (case side1 => repeat (first | exact (Kd.C_below HR0.out HB.out) | (with_reducible refine Kd.C_alloc ?_ _) | (with_reducible refine Kd.C_drewN ?_ _) | (with_reducible refine Kd.C_drew ?_))); (case side2 => exact HC0.out); rintro e w30 ⟨v177, rfl, ho0, hb⟩; have n0_ := Aside0.mk (Kd.R_below (by (with_reducible repeat (first | apply Kd.R_alloc | apply Kd.R_drewN | apply Kd.R_drew)); exact HO_6.out) hb); have n1_ := Aside0.mk (Kd.Q_elder' (by (with_reducible repeat (first | apply Kd.Q_alloc | apply Kd.Q_drewN | apply Kd.Q_drew)); exact HO173.out) (Kd.R_base ho0) hb); have n2_ := Aside0.mk (Kd.R_lower (Kd.R_new' ho0 (Kd.Q_lt (by (with_reducible repeat (first | apply Kd.Q_alloc | apply Kd.Q_drewN | apply Kd.Q_drew)); exact HO173.out))) (below_size (by repeat (first | (with_reducible first | exact HB.out | apply below_alloc | apply pw_below_drewN | apply below_drew1) | exact HB.out)))); have n3_ := Aside0.mk (below_step (by repeat (first | (with_reducible first | exact HB.out | apply below_alloc | apply pw_below_drewN | apply below_drew1) | exact HB.out)) hb); clear HO_6; clear HO173; clear HB; have HO_6 := n0_; have HO173 := n1_; have HO178 := n2_; have HB := n3_; clear n0_ n1_ n2_ n3_; (try clear hb); (try clear hb2); (try clear hk); (try clear hi); (try clear ho0); obtain ⟨Ao32, co32, eo32⟩ := Kd.R_slice HO178.out; subst eo32) | ((with_reducible refine gate_builtin (b := .append) (xs := #[.tmp 34, .tmp 37]) rfl ?_); at_builtin; refine Kd.Q_append_rows (Kd.int .i64) (w0 := w) w.heap.size rfl (.tmp 34) (.tmp 37) 57 2 (.int .i64 0) 8 rfl Try.underlying57 info2 rfl (by decide) (by omega) (.slice A26 y171.length c26) y171 t176 _ _ _ (fun k_ => some k_ ≠ (.slice Ao32 t176.length co32 : Value).ownBlock) (fun _ => False) rfl rfl ?aO ?aR (fun _ _ h => h) (fun _ h => h.elim) ?aF ?aB ?aS ?aL ?_; (case aR => repeat (first | exact (Kd.R_reads' HO178.out).2.2 | (with_reducible refine Kd.C_alloc ?_ _) | (with_reducible refine Kd.C_drewN ?_ _) | (with_reducible refine Kd.C_drew ?_))); (case aB => exact (by repeat (first | (with_reducible first | exact HB.out | apply below_alloc | apply pw_below_drewN | apply below_drew1) | exact HB.out))); (case aF => exact (fun k_ hk => Kd.fresh' (Kd.R_lt (by (with_reducible repeat (first | apply Kd.R_alloc | apply Kd.R_drewN | apply Kd.R_drew)); exact HO178.out)) k_ hk)); (case aO => exact (by (with_reducible repeat (first | apply Kd.Q_alloc | apply Kd.Q_drewN | apply Kd.Q_drew)); exact Kd.Q_mono HO173.out (fun _ hk => hk.2))); (case aS => exact (below_size (by repeat (first | (with_reducible first | exact HB.out | apply below_alloc | apply pw_below_drewN | apply below_drew1) | exact HB.out)))); (case aL => have := LMc24.out; omega); intro v180 w31 ho hb hg hat; rw [← Ny179.out] at ho; have n0_ := Aside0.mk (Kd.R_over' (by (with_reducible repeat (first | apply Kd.R_alloc | apply Kd.R_drewN | apply Kd.R_drew)); exact HO_6.out) (Kd.Q_typed (by (with_reducible repeat (first | apply Kd.Q_alloc | apply Kd.Q_drewN | apply Kd.Q_drew)); exact HO173.out)) (by decide) hg); have n1_ := Aside0.mk (Kd.R_after (ok := (fun _ => True)) (by (with_reducible repeat (first | apply Kd.R_alloc | apply Kd.R_drewN | apply Kd.R_drew)); exact HO178.out) hg hat); have n2_ := Aside0.mk (hb); have n3_ := Aside0.mk (ho); clear HO_6; clear HO178; clear HB; clear HO173; have HO_6 := n0_; have HO178 := n1_; have HB := n2_; have HO181 := n3_; clear n0_ n1_ n2_ n3_; clear ho hb hg hat))
             repeat (go_quiet (first | ((with_reducible refine gate_store (t := 4) (p := 33) rfl ?_); (try (rw [drewN_self wr]; generalize hq_ : World.drewN wr _ = wr; have n0_ := Aside0.mk (Kd.R_at hq_ HO_6.out); have n1_ := Aside0.mk (Kd.Q_at hq_ HO173.out); have n2_ := Aside0.mk (below_at hq_ HB.out); clear hq_ HO_6 HO173 HB; have HO_6 := n0_; have HO173 := n1_; have HB := n2_; clear n0_ n1_ n2_; (try (have HP28 := Kd.R_putg HO_6.out ((rd x7_1 0) : Int) true)))); refine store_event (t := 4) (p := 33) (v := ?vo_w29) (w1 := (wr.setCell ⟨go22, ((rd x7_1 0) : Int).toNat, none⟩ (.bool true))) ?hg ?ho ?hn ?hr ?_; (case ho => rfl); (case hg => rfl); (case hn => rfl); (case hr => first | (go_simp; done) | (go_simp; rfl)); intro w29 hw; have hg : wr.grownBy w29 (some go22) := (by rw [hw]; exact HP28.2); have hp_ : Kd.R Kd.bool 4 w29 w.heap.size (fun _ => True) (.slice (some ⟨go22, 0, none⟩) x6_1.length co27) y175 := (by rw [hw, Ny175.out]; exact HP28.1); clear HP28; have n0_ := Aside0.mk (hp_); have n1_ := Aside0.mk (Kd.Q_over' (v := (.slice (some ⟨go22, 0, none⟩) x6_1.length co27)) (by (with_reducible repeat (first | apply Kd.Q_alloc | apply Kd.Q_drewN | apply Kd.Q_drew)); exact HO173.out) (Kd.R_typed HO_6.out) (by decide) hg); have n2_ := Aside0.mk ((by rw [hw]; exact below_set (HB.out) GB22.out : Below w.heap.size w w29)); clear HO_6; clear HO173; clear HB; have HO_6 := n0_; have HO173 := n1_; have HB := n2_; clear n0_ n1_ n2_; clear hg hw hp_) | (go_at_call 104; (with_reducible refine (spec_l07Uses.calls k1 _ _ l0 (rd x7_1 0) t176 _ ?side1 ?side2 A23.out).mono ?_); (case side1 => repeat (first | exact (Kd.C_below HR0.out HB.out) | (with_reducible refine Kd.C_alloc ?_ _) | (with_reducible refine Kd.C_drewN ?_ _) | (with_reducible refine Kd.C_drew ?_))); (case side2 => exact HC0.out); rintro e w30 ⟨v177, rfl, ho0, hb⟩; have n0_ := Aside0.mk (Kd.R_below (by (with_reducible repeat (first | apply Kd.R_alloc | apply Kd.R_drewN | apply Kd.R_drew)); exact HO_6.out) hb); have n1_ := Aside0.mk (Kd.Q_elder' (by (with_reducible repeat (first | apply Kd.Q_alloc | apply Kd.Q_drewN | apply Kd.Q_drew)); exact HO173.out) (Kd.R_base ho0) hb); have n2_ := Aside0.mk (Kd.R_lower (Kd.R_new' ho0 (Kd.Q_lt (by (with_reducible repeat (first | apply Kd.Q_alloc | apply Kd.Q_drewN | apply Kd.Q_drew)); exact HO173.out))) (below_size (by repeat (first | (with_reducible first | exact HB.out | apply below_alloc | apply pw_below_drewN | apply below_drew1) | exact HB.out)))); have n3_ := Aside0.mk (below_step (by repeat (first | (with_reducible first | exact HB.out | apply below_alloc | apply pw_below_drewN | apply below_drew1) | exact HB.out)) hb); clear HO_6; clear HO173; clear HB; have HO_6 := n0_; have HO173 := n1_; have HO178 := n2_; have HB := n3_; clear n0_ n1_ n2_ n3_; (try clear hb); (try clear hb2); (try clear hk); (try clear hi); (try clear ho0); obtain ⟨Ao32, co32, eo32⟩ := Kd.R_slice HO178.out; subst eo32) | ((with_reducible refine gate_builtin (b := .append) (xs := #[.tmp 34, .tmp 37]) rfl ?_); at_builtin; refine Kd.Q_append_rows (Kd.int .i64) (w0 := w) w.heap.size rfl (.tmp 34) (.tmp 37) 57 2 (.int .i64 0) 8 rfl Try.underlying57 info2 rfl (by decide) (by omega) (.slice A26 y171.length c26) y171 t176 _ _ _ (fun k_ => some k_ ≠ (.slice Ao32 t176.length co32 : Value).ownBlock) (fun _ => False) rfl rfl ?aO ?aR (fun _ _ h => h) (fun _ h => h.elim) ?aF ?aB ?aS ?aL ?_; (case aR => repeat (first | exact (Kd.R_reads' HO178.out).2.2 | (with_reducible refine Kd.C_alloc ?_ _) | (with_reducible refine Kd.C_drewN ?_ _) | (with_reducible refine Kd.C_drew ?_))); (case aB => exact (by repeat (first | (with_reducible first | exact HB.out | apply below_alloc | apply pw_below_drewN | apply below_drew1) | exact HB.out))); (case aF => exact (fun k_ hk => Kd.fresh' (Kd.R_lt (by (with_reducible repeat (first | apply Kd.R_alloc | apply Kd.R_drewN | apply Kd.R_drew)); exact HO178.out)) k_ hk)); (case aO => exact (by (with_reducible repeat (first | apply Kd.Q_alloc | apply Kd.Q_drewN | apply Kd.Q_drew)); exact Kd.Q_mono HO173.out (fun _ hk => hk.2))); (case aS => exact (below_size (by repeat (first | (with_reducible first | exact HB.out | apply below_alloc | apply pw_below_drewN | apply below_drew1) | exact HB.out)))); (case aL => have := LMc24.out; omega); intro v180 w31 ho hb hg hat; rw [← Ny179.out] at ho; have n0_ := Aside0.mk (Kd.R_over' (by (with_reducible repeat (first | apply Kd.R_alloc | apply Kd.R_drewN | apply Kd.R_drew)); exact HO_6.out) (Kd.Q_typed (by (with_reducible repeat (first | apply Kd.Q_alloc | apply Kd.Q_drewN | apply Kd.Q_drew)); exact HO173.out)) (by decide) hg); have n1_ := Aside0.mk (Kd.R_after (ok := (fun _ => True)) (by (with_reducible repeat (first | apply Kd.R_alloc | apply Kd.R_drewN | apply Kd.R_drew)); exact HO178.out) hg hat); have n2_ := Aside0.mk (hb); have n3_ := Aside0.mk (ho); clear HO_6; clear HO178; clear HB; clear HO173; have HO_6 := n0_; have HO178 := n1_; have HB := n2_; have HO181 := n3_; clear n0_ n1_ n2_ n3_; clear ho hb hg hat)); try go_wp2_with (first | ((with_reducible refine gate_store (t := 4) (p := 33) rfl ?_); (try (rw [drewN_self wr]; generalize hq_ : World.drewN wr _ = wr; have n0_ := Aside0.mk (Kd.R_at hq_ HO_6.out); have n1_ := Aside0.mk (Kd.Q_at hq_ HO173.out); have n2_ := Aside0.mk (below_at hq_ HB.out); clear hq_ HO_6 HO173 HB; have HO_6 := n0_; have HO173 := n1_; have HB := n2_; clear n0_ n1_ n2_; (try (have HP28 := Kd.R_putg HO_6.out ((rd x7_1 0) : Int) true)))); refine store_event (t := 4) (p := 33) (v := ?vo_w29) (w1 := (wr.setCell ⟨go22, ((rd x7_1 0) : Int).toNat, none⟩ (.bool true))) ?hg ?ho ?hn ?hr ?_; (case ho => rfl); (case hg => rfl); (case hn => rfl); (case hr => first | (go_simp; done) | (go_simp; rfl)); intro w29 hw; have hg : wr.grownBy w29 (some go22) := (by rw [hw]; exact HP28.2); have hp_ : Kd.R Kd.bool 4 w29 w.heap.size (fun _ => True) (.slice (some ⟨go22, 0, none⟩) x6_1.length co27) y175 := (by rw [hw, Ny175.out]; exact HP28.1); clear HP28; have n0_ := Aside0.mk (hp_); have n1_ := Aside0.mk (Kd.Q_over' (v := (.slice (some ⟨go22, 0, none⟩) x6_1.length co27)) (by (with_reducible repeat (first | apply Kd.Q_alloc | apply Kd.Q_drewN | apply Kd.Q_drew)); exact HO173.out) (Kd.R_typed HO_6.out) (by decide) hg); have n2_ := Aside0.mk ((by rw [hw]; exact below_set (HB.out) GB22.out : Below w.heap.size w w29)); clear HO_6; clear HO173; clear HB; have HO_6 := n0_; have HO173 := n1_; have HB := n2_; clear n0_ n1_ n2_; clear hg hw hp_) | (go_at_call 104; (with_reducible refine (spec_l07Uses.calls k1 _ _ l0 (rd x7_1 0) t176 _ ?side1 ?side2 A23.out).mono ?_); (case side1 => repeat (first | exact (Kd.C_below HR0.out HB.out) | (with_reducible refine Kd.C_alloc ?_ _) | (with_reducible refine Kd.C_drewN ?_ _) | (with_reducible refine Kd.C_drew ?_))); (case side2 => exact HC0.out); rintro e w30 ⟨v177, rfl, ho0, hb⟩; have n0_ := Aside0.mk (Kd.R_below (by (with_reducible repeat (first | apply Kd.R_alloc | apply Kd.R_drewN | apply Kd.R_drew)); exact HO_6.out) hb); have n1_ := Aside0.mk (Kd.Q_elder' (by (with_reducible repeat (first | apply Kd.Q_alloc | apply Kd.Q_drewN | apply Kd.Q_drew)); exact HO173.out) (Kd.R_base ho0) hb); have n2_ := Aside0.mk (Kd.R_lower (Kd.R_new' ho0 (Kd.Q_lt (by (with_reducible repeat (first | apply Kd.Q_alloc | apply Kd.Q_drewN | apply Kd.Q_drew)); exact HO173.out))) (below_size (by repeat (first | (with_reducible first | exact HB.out | apply below_alloc | apply pw_below_drewN | apply below_drew1) | exact HB.out)))); have n3_ := Aside0.mk (below_step (by repeat (first | (with_reducible first | exact HB.out | apply below_alloc | apply pw_below_drewN | apply below_drew1) | exact HB.out)) hb); clear HO_6; clear HO173; clear HB; have HO_6 := n0_; have HO173 := n1_; have HO178 := n2_; have HB := n3_; clear n0_ n1_ n2_ n3_; (try clear hb); (try clear hb2); (try clear hk); (try clear hi); (try clear ho0); obtain ⟨Ao32, co32, eo32⟩ := Kd.R_slice HO178.out; subst eo32) | ((with_reducible refine gate_builtin (b := .append) (xs := #[.tmp 34, .tmp 37]) rfl ?_); at_builtin; refine Kd.Q_append_rows (Kd.int .i64) (w0 := w) w.heap.size rfl (.tmp 34) (.tmp 37) 57 2 (.int .i64 0) 8 rfl Try.underlying57 info2 rfl (by decide) (by omega) (.slice A26 y171.length c26) y171 t176 _ _ _ (fun k_ => some k_ ≠ (.slice Ao32 t176.length co32 : Value).ownBlock) (fun _ => False) rfl rfl ?aO ?aR (fun _ _ h => h) (fun _ h => h.elim) ?aF ?aB ?aS ?aL ?_; (case aR => repeat (first | exact (Kd.R_reads' HO178.out).2.2 | (with_reducible refine Kd.C_alloc ?_ _) | (with_reducible refine Kd.C_drewN ?_ _) | (with_reducible refine Kd.C_drew ?_))); (case aB => exact (by repeat (first | (with_reducible first | exact HB.out | apply below_alloc | apply pw_below_drewN | apply below_drew1) | exact HB.out))); (case aF => exact (fun k_ hk => Kd.fresh' (Kd.R_lt (by (with_reducible repeat (first | apply Kd.R_alloc | apply Kd.R_drewN | apply Kd.R_drew)); exact HO178.out)) k_ hk)); (case aO => exact (by (with_reducible repeat (first | apply Kd.Q_alloc | apply Kd.Q_drewN | apply Kd.Q_drew)); exact Kd.Q_mono HO173.out (fun _ hk => hk.2))); (case aS => exact (below_size (by repeat (first | (with_reducible first | exact HB.out | apply below_alloc | apply pw_below_drewN | apply below_drew1) | exact HB.out)))); (case aL => have := LMc24.out; omega); intro v180 w31 ho hb hg hat; rw [← Ny179.out] at ho; have n0_ := Aside0.mk (Kd.R_over' (by (with_reducible repeat (first | apply Kd.R_alloc | apply Kd.R_drewN | apply Kd.R_drew)); exact HO_6.out) (Kd.Q_typed (by (with_reducible repeat (first | apply Kd.Q_alloc | apply Kd.Q_drewN | apply Kd.Q_drew)); exact HO173.out)) (by decide) hg); have n1_ := Aside0.mk (Kd.R_after (ok := (fun _ => True)) (by (with_reducible repeat (first | apply Kd.R_alloc | apply Kd.R_drewN | apply Kd.R_drew)); exact HO178.out) hg hat); have n2_ := Aside0.mk (hb); have n3_ := Aside0.mk (ho); clear HO_6; clear HO178; clear HB; clear HO173; have HO_6 := n0_; have HO178 := n1_; have HB := n2_; have HO181 := n3_; clear n0_ n1_ n2_ n3_; clear ho hb hg hat)))
             go_roundg k1
             case measure => have := HK1.out; omega
             case rel => exact ⟨(y175), (y179), H', ⟨by have := HK1.out; omega⟩, ⟨by (with_reducible repeat (first | apply Kd.R_alloc | apply Kd.R_drewN | apply Kd.R_drew)); exact HO_6.out⟩, ⟨by (with_reducible repeat (first | apply Kd.Q_alloc | apply Kd.Q_drewN | apply Kd.Q_drew)); exact Kd.Q_mono HO181.out (fun _ hk => trivial)⟩, ⟨by repeat (first | (with_reducible first | exact HB.out | apply below_alloc | apply pw_below_drewN | apply below_drew1) | exact HB.out)⟩⟩
            ·
             rw [if_neg c24] at H
             exact absurd H (by simp)
          ·
           rw [if_neg c16] at H
           exact absurd H (by simp)
         ·
          rw [if_neg c15] at H
          exact absurd H (by simp)
       ·
        rw [if_neg c11] at H
        exact absurd H (by simp)
      ·
       rw [if_neg c10] at H
       exact absurd H (by simp)
     ·
      rw [if_neg c9] at H
      have c9b0 : decide (0 < (x7_1.length : Int)) = false := decide_eq_false c9
      have c9b1 : decide (0 < x7_1.length) = false := decide_eq_false (by omega)
      clear c9
      by_cases c33 : 0 ≤ a1
      ·
       rw [if_pos c33] at H
       have c33b0 : decide (0 ≤ a1) = true := decide_eq_true c33
       clear c33
       by_cases c34 : a1 < (x6_1.length : Int)
       ·
        rw [if_pos c34] at H
        have c34b0 : decide (a1 < (x6_1.length : Int)) = true := decide_eq_true c34
        clear c34
        simp only [Option.some.injEq, Prod.mk.injEq] at H
        obtain ⟨rfl, rfl⟩ := H
        obtain ⟨Ao35, co35, eo35, _⟩ := Kd.Q_slice HO_7.out
        subst eo35
        obtain ⟨Ao36, co36, eo36⟩ := Kd.R_slice HO_6.out
        subst eo36
        have p182 : 0 ≤ (a1 : Int) := of_decide_eq_true (by assumption)
        have q182 : a1 < (x6_1.length : Int) := of_decide_eq_true (by assumption)
        obtain ⟨ad182, e182, hx182_0⟩ := Kd.at_bool (Kd.R_reads' HO_6.out).2.2 a1 p182 q182
        cases e182
        replace p182 := eq_true p182
        replace q182 := eq_true q182
        go_wp2
        repeat (go_quiet (fail); try go_wp2)
        go_ret2
        exact ⟨_, by first | rfl | (simp [errW_none, errW_some] <;> rfl) | (simp [*, errW_none, errW_some] <;> rfl), by (with_reducible repeat (first | apply Kd.R_alloc | apply Kd.R_drewN | apply Kd.R_drew)); exact HO_6.out, by repeat (first | (with_reducible first | exact HB.out | apply below_alloc | apply pw_below_drewN | apply below_drew1) | exact HB.out)⟩
       ·
        rw [if_neg c34] at H
        exact absurd H (by simp)
      ·
       rw [if_neg c33] at H
       exact absurd H (by simp)
  ·
   rw [if_neg c4] at H
   exact absurd H (by simp)
 ·
  rw [if_neg c3] at H
  exact absurd H (by simp)
/-! ### spec_l07Name: function 88 -/
def spec_l07Name.l0 : Nat → ByteArray → Int → Option (Bool)
 | 0, _, _ => none
 | k + 1, x0, x3 => if x3 < (x0.size : Int) then (if 0 ≤ x3 then (if (bt x0 x3) < 97 then (some false) else (if (bt x0 x3) > 122 then (some false) else (spec_l07Name.l0 k x0 (wrap64 (x3 + 1))))) else (none)) else (if x0.toList = ([] : List UInt8) then (some false) else (some (decide ((x0.size : Int) ≤ 8))))
def spec_l07Name.f (k : Nat) (a0 : ByteArray) : Option (Bool) := spec_l07Name.l0 k a0 0
theorem spec_l07Name.mono_l : ∀ k, (∀ y0 y1, LeO (spec_l07Name.l0 k y0 y1) (spec_l07Name.l0 (k + 1) y0 y1))
 | 0 => fun _ _ r h => by simp [spec_l07Name.l0] at h
 | k + 1 => by
  have ih0 := spec_l07Name.mono_l k
  ·
   intro y0 y1
   unfold spec_l07Name.l0
   repeat' first
   | (with_reducible exact ih0 _ _)
   | (with_reducible exact LeO.refl _)
   | (with_reducible exact LeO.none _)
   | (with_reducible refine LeO.ite ?_ ?_)
   | (with_reducible refine LeO.bind ?_ (fun _ => ?_))
   | exact ih0 _ _
   | exact LeO.none _
   | refine LeO.ite ?_ ?_
   | refine LeO.bind ?_ (fun _ => ?_)
theorem spec_l07Name.mono : ∀ a0 k, LeO (spec_l07Name.f k a0) (spec_l07Name.f (k + 1) a0) := by
 intro a0 k
 have ih0 := spec_l07Name.mono_l k
 unfold spec_l07Name.f
 repeat' first
   | (with_reducible exact ih0 _ _)
   | (with_reducible exact LeO.refl _)
   | (with_reducible exact LeO.none _)
   | (with_reducible refine LeO.ite ?_ ?_)
   | (with_reducible refine LeO.bind ?_ (fun _ => ?_))
   | exact ih0 _ _
   | exact LeO.none _
   | refine LeO.ite ?_ ?_
   | refine LeO.bind ?_ (fun _ => ?_)
set_option maxHeartbeats 8000000 in
set_option maxRecDepth 100000 in
theorem spec_l07Name.calls (k : Nat) (a0 : ByteArray) (r : Bool) (w : World) (h : spec_l07Name.f k a0 = some r) :
  Calls Try.prog 88 #[.string a0] w fun e w' => e = .returned (.bool r) ∧ Drawn0 w w' := by
 have H : (spec_l07Name.l0 k a0 0) = some r := h
 clear h
 have H' := Aside0.mk H
 clear H
 go_enter Try.func88, Try.ntmps88
 go_wp2
 go_loopg [3] k (fun kq v3 w' => ∃ (x3_1 : Int), v3 = .int .i64 x3_1 ∧ Aside0 (spec_l07Name.l0 kq a0 x3_1 = some r) ∧ Aside0 (kq ≤ k) ∧ Drawn0 w w')
 case atStart => exact ⟨(0), (by first | rfl | (simp; done) | (simp [*]; done) | (simp [isE_]; done)), H', ⟨Nat.le_refl _⟩, by repeat (first | exact Drawn0.refl _ | apply Drawn0.step)⟩
 case round =>
  clear H'
  obtain ⟨x3_1, rfl, HA, HK1, ⟨m1, rfl⟩⟩ := hrel
  cases gk with
  | zero => exact absurd HA.out (by simp [spec_l07Name.l0])
  | succ k1 =>
   have H := HA.out
   clear HA
   simp only [spec_l07Name.l0] at H
   by_cases c2 : x3_1 < (a0.size : Int)
   ·
    rw [if_pos c2] at H
    have c2b0 : decide (x3_1 < (a0.size : Int)) = true := decide_eq_true c2
    clear c2
    by_cases c3 : 0 ≤ x3_1
    ·
     rw [if_pos c3] at H
     have c3b0 : decide (0 ≤ x3_1) = true := decide_eq_true c3
     clear c3
     by_cases c5 : (bt a0 x3_1) < 97
     ·
      rw [if_pos c5] at H
      have c5b0 : decide ((bt a0 x3_1) < 97) = true := decide_eq_true c5
      clear c5
      obtain rfl := Option.some.inj H
      have p4 : 0 ≤ (x3_1 : Int) := of_decide_eq_true (by assumption)
      have q4 : x3_1 < (a0.size : Int) := of_decide_eq_true (by assumption)
      have hx4 := bt_at a0 x3_1
      replace p4 := eq_true p4
      replace q4 := eq_true q4
      go_wp2
      go_ret
      exact ⟨by first | rfl | (simp; done) | (simp [*]; done) | (simp [isE_]; done), by repeat (first | exact Drawn0.refl _ | apply Drawn0.step)⟩
     ·
      rw [if_neg c5] at H
      have c5b0 : decide ((bt a0 x3_1) < 97) = false := decide_eq_false c5
      clear c5
      by_cases c7 : (bt a0 x3_1) > 122
      ·
       rw [if_pos c7] at H
       have c7b0 : decide (122 < (bt a0 x3_1)) = true := decide_eq_true c7
       clear c7
       obtain rfl := Option.some.inj H
       have p4 : 0 ≤ (x3_1 : Int) := of_decide_eq_true (by assumption)
       have q4 : x3_1 < (a0.size : Int) := of_decide_eq_true (by assumption)
       have hx4 := bt_at a0 x3_1
       replace p4 := eq_true p4
       replace q4 := eq_true q4
       have p6 : 0 ≤ (x3_1 : Int) := of_decide_eq_true (by assumption)
       have q6 : x3_1 < (a0.size : Int) := of_decide_eq_true (by assumption)
       have hx6 := bt_at a0 x3_1
       replace p6 := eq_true p6
       replace q6 := eq_true q6
       go_wp2
       go_ret
       exact ⟨by first | rfl | (simp; done) | (simp [*]; done) | (simp [isE_]; done), by repeat (first | exact Drawn0.refl _ | apply Drawn0.step)⟩
      ·
       rw [if_neg c7] at H
       have c7b0 : decide (122 < (bt a0 x3_1)) = false := decide_eq_false c7
       clear c7
       have H' := Aside0.mk H
       clear H
       have p4 : 0 ≤ (x3_1 : Int) := of_decide_eq_true (by assumption)
       have q4 : x3_1 < (a0.size : Int) := of_decide_eq_true (by assumption)
       have hx4 := bt_at a0 x3_1
       replace p4 := eq_true p4
       replace q4 := eq_true q4
       have p6 : 0 ≤ (x3_1 : Int) := of_decide_eq_true (by assumption)
       have q6 : x3_1 < (a0.size : Int) := of_decide_eq_true (by assumption)
       have hx6 := bt_at a0 x3_1
       replace p6 := eq_true p6
       replace q6 := eq_true q6
       go_wp2
       go_roundg k1
       case measure => have := HK1.out; omega
       case rel => exact ⟨(wrap64 (x3_1 + 1)), (by first | rfl | (simp; done) | (simp [*]; done) | (simp [isE_]; done)), H', ⟨by have := HK1.out; omega⟩, by repeat (first | exact Drawn0.refl _ | apply Drawn0.step)⟩
    ·
     rw [if_neg c3] at H
     exact absurd H (by simp)
   ·
    rw [if_neg c2] at H
    have c2b0 : decide (x3_1 < (a0.size : Int)) = false := decide_eq_false c2
    clear c2
    by_cases c8 : a0.toList = ([] : List UInt8)
    ·
     rw [if_pos c8] at H
     have c8b0 : (a0.toList == ([] : List UInt8)) = true := beq_iff_eq.mpr c8
     have c8b1 : (a0.toList != ([] : List UInt8)) = false := bne_eq_false_iff_eq.mpr c8
     clear c8
     obtain rfl := Option.some.inj H
     go_wp2
     go_ret
     exact ⟨by first | rfl | (simp; done) | (simp [*]; done) | (simp [isE_]; done), by repeat (first | exact Drawn0.refl _ | apply Drawn0.step)⟩
    ·
     rw [if_neg c8] at H
     have c8b0 : (a0.toList == ([] : List UInt8)) = false := beq_eq_false_iff_ne.mpr c8
     have c8b1 : (a0.toList != ([] : List UInt8)) = true := bne_iff_ne.mpr c8
     obtain rfl := Option.some.inj H
     go_wp2
     go_ret
     exact ⟨by first | rfl | (simp; done) | (simp [*]; done) | (simp [isE_]; done), by repeat (first | exact Drawn0.refl _ | apply Drawn0.step)⟩
/-! ### spec_l00In: function 107 -/
def spec_l00In.f (a0 : Int) (a1 : Int) (a2 : Int) : Option (Bool) := if a0 ≥ a1 then (some (decide (a0 ≤ a2))) else (some false)
set_option maxHeartbeats 8000000 in
set_option maxRecDepth 100000 in
theorem spec_l00In.calls (a0 : Int) (a1 : Int) (a2 : Int) (r : Bool) (w : World) (h : spec_l00In.f a0 a1 a2 = some r) :
  Calls Try.prog 107 #[.int .i64 a0, .int .i64 a1, .int .i64 a2] w fun e w' => e = .returned (.bool r) ∧ Drawn0 w w' := by
 have H : (if a0 ≥ a1 then (some (decide (a0 ≤ a2))) else (some false)) = some r := h
 clear h
 by_cases c4 : a0 ≥ a1
 ·
  rw [if_pos c4] at H
  have c4b0 : decide (a1 ≤ a0) = true := decide_eq_true c4
  clear c4
  obtain rfl := Option.some.inj H
  go_enter Try.func107, Try.ntmps107
  go_wp2
  go_ret
  exact ⟨by first | rfl | (simp; done) | (simp [*]; done) | (simp [isE_]; done), by repeat (first | exact Drawn0.refl _ | apply Drawn0.step)⟩
 ·
  rw [if_neg c4] at H
  have c4b0 : decide (a1 ≤ a0) = false := decide_eq_false c4
  clear c4
  obtain rfl := Option.some.inj H
  go_enter Try.func107, Try.ntmps107
  go_wp2
  go_ret
  exact ⟨by first | rfl | (simp; done) | (simp [*]; done) | (simp [isE_]; done), by repeat (first | exact Drawn0.refl _ | apply Drawn0.step)⟩
end Go.Proofs.Ytenhgmddpkiliaa.PB

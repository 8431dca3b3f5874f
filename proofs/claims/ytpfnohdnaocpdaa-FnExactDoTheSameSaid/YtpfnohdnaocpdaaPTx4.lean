import Derived.Test.YtpfnohdnaocpdaaPTx0
import Derived.Test.YtpfnohdnaocpdaaPTx1
namespace Go.Proofs.Ytpfnohdnaocpdaa.PT
open Go.RowKit Go.Proofs.YtpfnohdnaocpdaaW.PrintWords Go.Proofs.YtpfnohdnaocpdaaW.PrintLast Go.Proofs.YtpfnohdnaocpdaaW.PrintMore Go.Proofs.YtpfnohdnaocpdaaRP
attribute [local go_sem] max2_int min2_int max_two min_two max_three min_three max_four min_four Go.Proofs.YtpfnohdnaocpdaaRP.max_eight Go.Proofs.YtpfnohdnaocpdaaRP.tmod_len   -- for this text's walks alone
set_option linter.unusedVariables false
set_option linter.unusedSimpArgs false
attribute [local go_sem high] eqA89
theorem z4_1_ {P : Prop} (h : P := by first | rfl | (simp; done) | (simp [*]; done) | (simp [isE_]; done)) : P := h
theorem z4_2_ {P : Prop} (h : P := by repeat (first | exact Drawn0.refl _ | apply Drawn0.step)) : P := h
/-! ### spec_l06Same: function 78 -/
def spec_l06Same.l0 : Nat → List (S34) → List (S34) → Int → Option (Bool)
 | 0, _, _, _ => none
 | k + 1, x0, x1, x5 => if 0 < (x0.length : Int) then (if x5 < (((rd_T34 x0 0).f0).length : Int) then (if 0 ≤ x5 then (if 0 < (x1.length : Int) then (if x5 < (((rd_T34 x1 0).f0).length : Int) then (if (!(((rd_T89 ((rd_T34 x0 0).f0) x5).f0) == ((rd_T89 ((rd_T34 x1 0).f0) x5).f0)) || (!(((rd_T89 ((rd_T34 x0 0).f0) x5).f1) == ((rd_T89 ((rd_T34 x1 0).f0) x5).f1)) || ((!(((rd_T89 ((rd_T34 x0 0).f0) x5).f2.f0) == ((rd_T89 ((rd_T34 x1 0).f0) x5).f2.f0)) || (!(((rd_T89 ((rd_T34 x0 0).f0) x5).f2.f1) == ((rd_T89 ((rd_T34 x1 0).f0) x5).f2.f1)) || (!(((rd_T89 ((rd_T34 x0 0).f0) x5).f2.f2) == ((rd_T89 ((rd_T34 x1 0).f0) x5).f2.f2)))))))) = true then (some false) else (spec_l06Same.l0 k x0 x1 (wrap64 (x5 + 1)))) else (none)) else (none)) else (none)) else (some true)) else (none)
def spec_l06Same.f (k : Nat) (l0 : List (S34)) (l1 : List (S34)) : Option (Bool) := if 0 < (l0.length : Int) then (if 0 < (l1.length : Int) then (if (((rd_T34 l0 0).f0).length : Int) = (((rd_T34 l1 0).f0).length : Int) then (spec_l06Same.l0 k l0 l1 0) else (some false)) else (none)) else (none)
theorem spec_l06Same.mono_l : ∀ k, (∀ y0 y1 y2, LeO (spec_l06Same.l0 k y0 y1 y2) (spec_l06Same.l0 (k + 1) y0 y1 y2))
 | 0 => fun _ _ _ r h => by simp [spec_l06Same.l0] at h
 | k + 1 => by
  have ih0 := spec_l06Same.mono_l k
  ·
   intro y0 y1 y2
   unfold spec_l06Same.l0
   repeat' first
   | (with_reducible exact ih0 _ _ _)
   | (with_reducible exact LeO.refl _)
   | (with_reducible exact LeO.none _)
   | (with_reducible refine LeO.ite ?_ ?_)
   | (with_reducible refine LeO.bind ?_ (fun _ => ?_))
   | exact ih0 _ _ _
   | exact LeO.none _
   | refine LeO.ite ?_ ?_
   | refine LeO.bind ?_ (fun _ => ?_)
theorem spec_l06Same.mono : ∀ a0 a1 k, LeO (spec_l06Same.f k a0 a1) (spec_l06Same.f (k + 1) a0 a1) := by
 intro a0 a1 k
 have ih0 := spec_l06Same.mono_l k
 unfold spec_l06Same.f
 repeat' first
   | (with_reducible exact ih0 _ _ _)
   | (with_reducible exact LeO.refl _)
   | (with_reducible exact LeO.none _)
   | (with_reducible refine LeO.ite ?_ ?_)
   | (with_reducible refine LeO.bind ?_ (fun _ => ?_))
   | exact ih0 _ _ _
   | exact LeO.none _
   | refine LeO.ite ?_ ?_
   | refine LeO.bind ?_ (fun _ => ?_)
set_option maxHeartbeats 8000000 in
set_option maxRecDepth 100000 in
theorem spec_l06Same.calls (k : Nat) (A0 : Option Addr) (c0 : Nat) (l0 : List (S34)) (A1 : Option Addr) (c1 : Nat) (l1 : List (S34)) (r : Bool) (w : World) (hr0 : Kd.C k34 w A0 l0.length l0) (hc0 : l0.length ≤ c0) (hr1 : Kd.C k34 w A1 l1.length l1) (hc1 : l1.length ≤ c1) (h : spec_l06Same.f k l0 l1 = some r) :
  Calls Try.prog 78 #[.pointer A0, .pointer A1] w fun e w' => e = .returned (.bool r) ∧ Drawn0 w w' := by
 have hu89 := Try.underlying89
 have HR0 := A_ hr0
 have HC0 := A_ hc0
 clear hr0 hc0
 have HR1 := A_ hr1
 have HC1 := A_ hc1
 clear hr1 hc1
 have H : (if 0 < (l0.length : Int) then (if 0 < (l1.length : Int) then (if (((rd_T34 l0 0).f0).length : Int) = (((rd_T34 l1 0).f0).length : Int) then (spec_l06Same.l0 k l0 l1 0) else (some false)) else (none)) else (none)) = some r := h
 clear h
 by_cases c3 : 0 < (l0.length : Int)
 ·
  rw [if_pos c3] at H
  have c3b0 := decide_eq_true c3
  have c3b1 : decide (0 < l0.length) = true := decide_eq_true (by omega)
  clear c3
  by_cases c4 : 0 < (l1.length : Int)
  ·
   rw [if_pos c4] at H
   have c4b0 := decide_eq_true c4
   have c4b1 : decide (0 < l1.length) = true := decide_eq_true (by omega)
   clear c4
   by_cases c5 : (((rd_T34 l0 0).f0).length : Int) = (((rd_T34 l1 0).f0).length : Int)
   ·
    rw [if_pos c5] at H
    have c5b0 := beq_iff_eq.mpr c5
    have c5b1 := bne_eq_false_iff_eq.mpr c5
    have c5b2 : (((rd_T34 l0 0).f0).length == ((rd_T34 l1 0).f0).length) = true := by first | simpa using c5 | (simp at c5 ⊢; omega)
    clear c5
    have H' := A_ H
    clear H
    have q210 : 0 < (l0.length : Int) := of_decide_eq_true (by assumption)
    obtain ⟨ad210, A210_0, c210_0, e210, hx210_0, hl210_0, hi210_0⟩ := rp_T34 HR0.out q210
    cases e210
    have HR210_0 := A_ hi210_0
    have HC210_0 := A_ hl210_0
    clear hi210_0 hl210_0
    have q211 : 0 < (l1.length : Int) := of_decide_eq_true (by assumption)
    obtain ⟨ad211, A211_0, c211_0, e211, hx211_0, hl211_0, hi211_0⟩ := rp_T34 HR1.out q211
    cases e211
    have HR211_0 := A_ hi211_0
    have HC211_0 := A_ hl211_0
    clear hi211_0 hl211_0
    go_enter Try.func78, Try.ntmps78
    go_wp2
    repeat (go_quiet (fail); try go_wp2)
    go_loopg [5] k (fun kq v5 w' => ∃ (x5_1 : Int), v5 = .int .i64 x5_1 ∧ Aside0 (spec_l06Same.l0 kq l0 l1 x5_1 = some r) ∧ Aside0 (kq ≤ k) ∧ Drawn0 w w')
    case atStart => exact ⟨(0), z4_1_, H', ⟨Nat.le_refl _⟩, z4_2_⟩
    case round =>
     clear H'
     try clear c1
     try clear c2
     try clear p2
     try clear q2
     try clear hx2
     try clear c3
     try clear c3b0
     try clear c3b1
     try clear c4
     try clear c4b0
     try clear c4b1
     try clear c5
     try clear c5b0
     try clear c5b1
     try clear c5b2
     try clear hx210_0
     try clear hx211_0
     try clear q210
     try clear q211
     obtain ⟨x5_1, rfl, HA, HK1, ⟨m1, rfl⟩⟩ := hrel
     cases gk with
     | zero => exact absurd HA.out (by simp [spec_l06Same.l0])
     | succ k1 =>
      have H := HA.out
      clear HA
      simp only [spec_l06Same.l0] at H
      by_cases c6 : 0 < (l0.length : Int)
      ·
       rw [if_pos c6] at H
       have c6b0 := decide_eq_true c6
       have c6b1 : decide (0 < l0.length) = true := decide_eq_true (by omega)
       clear c6
       by_cases c7 : x5_1 < (((rd_T34 l0 0).f0).length : Int)
       ·
        rw [if_pos c7] at H
        have c7b0 := decide_eq_true c7
        clear c7
        by_cases c8 : 0 ≤ x5_1
        ·
         rw [if_pos c8] at H
         have c8b0 := decide_eq_true c8
         clear c8
         by_cases c9 : 0 < (l1.length : Int)
         ·
          rw [if_pos c9] at H
          have c9b0 := decide_eq_true c9
          have c9b1 : decide (0 < l1.length) = true := decide_eq_true (by omega)
          clear c9
          by_cases c10 : x5_1 < (((rd_T34 l1 0).f0).length : Int)
          ·
           rw [if_pos c10] at H
           have c10b0 := decide_eq_true c10
           clear c10
           by_cases c11 : (!(((rd_T89 ((rd_T34 l0 0).f0) x5_1).f0) == ((rd_T89 ((rd_T34 l1 0).f0) x5_1).f0)) || (!(((rd_T89 ((rd_T34 l0 0).f0) x5_1).f1) == ((rd_T89 ((rd_T34 l1 0).f0) x5_1).f1)) || ((!(((rd_T89 ((rd_T34 l0 0).f0) x5_1).f2.f0) == ((rd_T89 ((rd_T34 l1 0).f0) x5_1).f2.f0)) || (!(((rd_T89 ((rd_T34 l0 0).f0) x5_1).f2.f1) == ((rd_T89 ((rd_T34 l1 0).f0) x5_1).f2.f1)) || (!(((rd_T89 ((rd_T34 l0 0).f0) x5_1).f2.f2) == ((rd_T89 ((rd_T34 l1 0).f0) x5_1).f2.f2)))))))) = true
           ·
            rw [if_pos c11] at H
            have c11b0 : (!(((rd_T89 ((rd_T34 l0 0).f0) x5_1).f0) == ((rd_T89 ((rd_T34 l1 0).f0) x5_1).f0)) || (!(((rd_T89 ((rd_T34 l0 0).f0) x5_1).f1) == ((rd_T89 ((rd_T34 l1 0).f0) x5_1).f1)) || ((!(((rd_T89 ((rd_T34 l0 0).f0) x5_1).f2.f0) == ((rd_T89 ((rd_T34 l1 0).f0) x5_1).f2.f0)) || (!(((rd_T89 ((rd_T34 l0 0).f0) x5_1).f2.f1) == ((rd_T89 ((rd_T34 l1 0).f0) x5_1).f2.f1)) || (!(((rd_T89 ((rd_T34 l0 0).f0) x5_1).f2.f2) == ((rd_T89 ((rd_T34 l1 0).f0) x5_1).f2.f2)))))))) = true := c11
            clear c11
            obtain rfl := Option.some.inj H
            have q212 : 0 < (l0.length : Int) := of_decide_eq_true (by assumption)
            obtain ⟨ad212, A212_0, c212_0, e212, hx212_0, hl212_0, hi212_0⟩ := rp_T34 HR0.out q212
            obtain rfl : ad210 = ad212 := (by injection e212)
            have HR212_0 := A_ hi212_0
            have HC212_0 := A_ hl212_0
            clear hi212_0 hl212_0
            have p213 : 0 ≤ (x5_1 : Int) := of_decide_eq_true (by assumption)
            have q213 : x5_1 < (((rd_T34 l0 0).f0).length : Int) := of_decide_eq_true (by assumption)
            obtain ⟨ad213, e213, hx213_0, hx213_1, hx213_2, hx213_3, hx213_4⟩ := at_T89 HR212_0.out x5_1 p213 q213
            cases e213
            replace p213 := eq_true p213
            replace q213 := eq_true q213
            have q214 : 0 < (l1.length : Int) := of_decide_eq_true (by assumption)
            obtain ⟨ad214, A214_0, c214_0, e214, hx214_0, hl214_0, hi214_0⟩ := rp_T34 HR1.out q214
            obtain rfl : ad211 = ad214 := (by injection e214)
            have HR214_0 := A_ hi214_0
            have HC214_0 := A_ hl214_0
            clear hi214_0 hl214_0
            have p215 : 0 ≤ (x5_1 : Int) := of_decide_eq_true (by assumption)
            have q215 : x5_1 < (((rd_T34 l1 0).f0).length : Int) := of_decide_eq_true (by assumption)
            obtain ⟨ad215, e215, hx215_0, hx215_1, hx215_2, hx215_3, hx215_4⟩ := at_T89 HR214_0.out x5_1 p215 q215
            cases e215
            replace p215 := eq_true p215
            replace q215 := eq_true q215
            go_wp2
            repeat (go_quiet (fail); try go_wp2)
            go_ret
            exact ⟨z4_1_, z4_2_⟩
           ·
            rw [if_neg c11] at H
            have c11b0 : (!(((rd_T89 ((rd_T34 l0 0).f0) x5_1).f0) == ((rd_T89 ((rd_T34 l1 0).f0) x5_1).f0)) || (!(((rd_T89 ((rd_T34 l0 0).f0) x5_1).f1) == ((rd_T89 ((rd_T34 l1 0).f0) x5_1).f1)) || ((!(((rd_T89 ((rd_T34 l0 0).f0) x5_1).f2.f0) == ((rd_T89 ((rd_T34 l1 0).f0) x5_1).f2.f0)) || (!(((rd_T89 ((rd_T34 l0 0).f0) x5_1).f2.f1) == ((rd_T89 ((rd_T34 l1 0).f0) x5_1).f2.f1)) || (!(((rd_T89 ((rd_T34 l0 0).f0) x5_1).f2.f2) == ((rd_T89 ((rd_T34 l1 0).f0) x5_1).f2.f2)))))))) = false := by simpa using c11
            clear c11
            have H' := A_ H
            clear H
            have q212 : 0 < (l0.length : Int) := of_decide_eq_true (by assumption)
            obtain ⟨ad212, A212_0, c212_0, e212, hx212_0, hl212_0, hi212_0⟩ := rp_T34 HR0.out q212
            obtain rfl : ad210 = ad212 := (by injection e212)
            have HR212_0 := A_ hi212_0
            have HC212_0 := A_ hl212_0
            clear hi212_0 hl212_0
            have p213 : 0 ≤ (x5_1 : Int) := of_decide_eq_true (by assumption)
            have q213 : x5_1 < (((rd_T34 l0 0).f0).length : Int) := of_decide_eq_true (by assumption)
            obtain ⟨ad213, e213, hx213_0, hx213_1, hx213_2, hx213_3, hx213_4⟩ := at_T89 HR212_0.out x5_1 p213 q213
            cases e213
            replace p213 := eq_true p213
            replace q213 := eq_true q213
            have q214 : 0 < (l1.length : Int) := of_decide_eq_true (by assumption)
            obtain ⟨ad214, A214_0, c214_0, e214, hx214_0, hl214_0, hi214_0⟩ := rp_T34 HR1.out q214
            obtain rfl : ad211 = ad214 := (by injection e214)
            have HR214_0 := A_ hi214_0
            have HC214_0 := A_ hl214_0
            clear hi214_0 hl214_0
            have p215 : 0 ≤ (x5_1 : Int) := of_decide_eq_true (by assumption)
            have q215 : x5_1 < (((rd_T34 l1 0).f0).length : Int) := of_decide_eq_true (by assumption)
            obtain ⟨ad215, e215, hx215_0, hx215_1, hx215_2, hx215_3, hx215_4⟩ := at_T89 HR214_0.out x5_1 p215 q215
            cases e215
            replace p215 := eq_true p215
            replace q215 := eq_true q215
            go_wp2
            repeat (go_quiet (fail); try go_wp2)
            go_roundg k1
            case measure => have := HK1.out; omega
            case rel => exact ⟨(wrap64 (x5_1 + 1)), z4_1_, H', ⟨(by have := HK1.out; omega)⟩, z4_2_⟩
          ·
           rw [if_neg c10] at H
           exact absurd H (by simp)
         ·
          rw [if_neg c9] at H
          exact absurd H (by simp)
        ·
         rw [if_neg c8] at H
         exact absurd H (by simp)
       ·
        rw [if_neg c7] at H
        have c7b0 := decide_eq_false c7
        clear c7
        obtain rfl := Option.some.inj H
        have q212 : 0 < (l0.length : Int) := of_decide_eq_true (by assumption)
        obtain ⟨ad212, A212_0, c212_0, e212, hx212_0, hl212_0, hi212_0⟩ := rp_T34 HR0.out q212
        obtain rfl : ad210 = ad212 := (by injection e212)
        have HR212_0 := A_ hi212_0
        have HC212_0 := A_ hl212_0
        clear hi212_0 hl212_0
        go_wp2
        repeat (go_quiet (fail); try go_wp2)
        go_ret
        exact ⟨z4_1_, z4_2_⟩
      ·
       rw [if_neg c6] at H
       exact absurd H (by simp)
   ·
    rw [if_neg c5] at H
    have c5b0 : ((((rd_T34 l0 0).f0).length : Int) == (((rd_T34 l1 0).f0).length : Int)) = false := beq_eq_false_iff_ne.mpr c5
    have c5b1 : ((((rd_T34 l0 0).f0).length : Int) != (((rd_T34 l1 0).f0).length : Int)) = true := bne_iff_ne.mpr c5
    have c5b2 : (((rd_T34 l0 0).f0).length == ((rd_T34 l1 0).f0).length) = false := by first | simpa using c5 | (simp at c5 ⊢; omega)
    obtain rfl := Option.some.inj H
    have q210 : 0 < (l0.length : Int) := of_decide_eq_true (by assumption)
    obtain ⟨ad210, A210_0, c210_0, e210, hx210_0, hl210_0, hi210_0⟩ := rp_T34 HR0.out q210
    cases e210
    have HR210_0 := A_ hi210_0
    have HC210_0 := A_ hl210_0
    clear hi210_0 hl210_0
    have q211 : 0 < (l1.length : Int) := of_decide_eq_true (by assumption)
    obtain ⟨ad211, A211_0, c211_0, e211, hx211_0, hl211_0, hi211_0⟩ := rp_T34 HR1.out q211
    cases e211
    have HR211_0 := A_ hi211_0
    have HC211_0 := A_ hl211_0
    clear hi211_0 hl211_0
    go_enter Try.func78, Try.ntmps78
    go_wp2
    repeat (go_quiet (fail); try go_wp2)
    go_ret
    exact ⟨z4_1_, z4_2_⟩
  ·
   rw [if_neg c4] at H
   exact absurd H (by simp)
 ·
  rw [if_neg c3] at H
  exact absurd H (by simp)
/-! ### impl_Fork_122: function 122 -/
def impl_Fork_122.l0 : Nat → List (S89) → List (S89) → Int → Int → Option (Bool)
 | 0, _, _, _, _ => none
 | k + 1, x0, x1, x12, x13 => if x13 < x12 then (if 0 ≤ x13 then (if x13 < (x0.length : Int) then (if x13 < (x1.length : Int) then (if (!(((rd_T89 x0 x13).f0) == ((rd_T89 x1 x13).f0)) || (!(((rd_T89 x0 x13).f1) == ((rd_T89 x1 x13).f1)) || ((!(((rd_T89 x0 x13).f2.f0) == ((rd_T89 x1 x13).f2.f0)) || (!(((rd_T89 x0 x13).f2.f1) == ((rd_T89 x1 x13).f2.f1)) || (!(((rd_T89 x0 x13).f2.f2) == ((rd_T89 x1 x13).f2.f2)))))))) = true then (some false) else (impl_Fork_122.l0 k x0 x1 x12 (wrap64 (x13 + 1)))) else (none)) else (none)) else (none)) else (some true)
def impl_Fork_122.f (k : Nat) (l0 : List (S89)) (l1 : List (S89)) : Option (Bool) := if (l0.length : Int) = (l1.length : Int) then (impl_Fork_122.l0 k l0 l1 (l0.length : Int) 0) else (some false)
theorem impl_Fork_122.mono_l : ∀ k, (∀ y0 y1 y2 y3, LeO (impl_Fork_122.l0 k y0 y1 y2 y3) (impl_Fork_122.l0 (k + 1) y0 y1 y2 y3))
 | 0 => fun _ _ _ _ r h => by simp [impl_Fork_122.l0] at h
 | k + 1 => by
  have ih0 := impl_Fork_122.mono_l k
  ·
   intro y0 y1 y2 y3
   unfold impl_Fork_122.l0
   repeat' first
   | (with_reducible exact ih0 _ _ _ _)
   | (with_reducible exact LeO.refl _)
   | (with_reducible exact LeO.none _)
   | (with_reducible refine LeO.ite ?_ ?_)
   | (with_reducible refine LeO.bind ?_ (fun _ => ?_))
   | exact ih0 _ _ _ _
   | exact LeO.none _
   | refine LeO.ite ?_ ?_
   | refine LeO.bind ?_ (fun _ => ?_)
theorem impl_Fork_122.mono : ∀ a0 a1 k, LeO (impl_Fork_122.f k a0 a1) (impl_Fork_122.f (k + 1) a0 a1) := by
 intro a0 a1 k
 have ih0 := impl_Fork_122.mono_l k
 unfold impl_Fork_122.f
 repeat' first
   | (with_reducible exact ih0 _ _ _ _)
   | (with_reducible exact LeO.refl _)
   | (with_reducible exact LeO.none _)
   | (with_reducible refine LeO.ite ?_ ?_)
   | (with_reducible refine LeO.bind ?_ (fun _ => ?_))
   | exact ih0 _ _ _ _
   | exact LeO.none _
   | refine LeO.ite ?_ ?_
   | refine LeO.bind ?_ (fun _ => ?_)
set_option maxHeartbeats 8000000 in
set_option maxRecDepth 100000 in
theorem impl_Fork_122.calls (k : Nat) (A0 : Option Addr) (c0 : Nat) (l0 : List (S89)) (A1 : Option Addr) (c1 : Nat) (l1 : List (S89)) (r : Bool) (w : World) (hr0 : Kd.C k89 w A0 l0.length l0) (hc0 : l0.length ≤ c0) (hr1 : Kd.C k89 w A1 l1.length l1) (hc1 : l1.length ≤ c1) (h : impl_Fork_122.f k l0 l1 = some r) :
  Calls Try.prog 122 #[.slice A0 l0.length c0, .slice A1 l1.length c1] w fun e w' => e = .returned (.bool r) ∧ Drawn0 w w' := by
 have hu89 := Try.underlying89
 have HR0 := A_ hr0
 have HC0 := A_ hc0
 clear hr0 hc0
 have HR1 := A_ hr1
 have HC1 := A_ hc1
 clear hr1 hc1
 have H : (if (l0.length : Int) = (l1.length : Int) then (impl_Fork_122.l0 k l0 l1 (l0.length : Int) 0) else (some false)) = some r := h
 clear h
 by_cases c3 : (l0.length : Int) = (l1.length : Int)
 ·
  rw [if_pos c3] at H
  have c3b0 := beq_iff_eq.mpr c3
  have c3b1 := bne_eq_false_iff_eq.mpr c3
  have c3b2 : (l0.length == l1.length) = true := by first | simpa using c3 | (simp at c3 ⊢; omega)
  clear c3
  have H' := A_ H
  clear H
  go_enter Try.func122, Try.ntmps122
  go_wp2
  repeat (go_quiet (fail); try go_wp2)
  go_loopg [13] k (fun kq v13 w' => ∃ (x13_1 : Int), v13 = .int .i64 x13_1 ∧ Aside0 (impl_Fork_122.l0 kq l0 l1 (l0.length : Int) x13_1 = some r) ∧ Aside0 (kq ≤ k) ∧ Drawn0 w w')
  case atStart => exact ⟨(0), z4_1_, H', ⟨Nat.le_refl _⟩, z4_2_⟩
  case round =>
   clear H'
   try clear c1
   try clear p2
   try clear c3
   try clear c3b0
   try clear c3b1
   try clear c3b2
   obtain ⟨x13_1, rfl, HA, HK1, ⟨m1, rfl⟩⟩ := hrel
   cases gk with
   | zero => exact absurd HA.out (by simp [impl_Fork_122.l0])
   | succ k1 =>
    have H := HA.out
    clear HA
    simp only [impl_Fork_122.l0] at H
    by_cases c4 : x13_1 < (l0.length : Int)
    ·
     rw [if_pos c4] at H
     have c4b0 := decide_eq_true c4
     clear c4
     by_cases c5 : 0 ≤ x13_1
     ·
      rw [if_pos c5] at H
      have c5b0 := decide_eq_true c5
      clear c5
      by_cases c6 : x13_1 < (l0.length : Int)
      ·
       rw [if_pos c6] at H
       have c6b0 := decide_eq_true c6
       clear c6
       by_cases c7 : x13_1 < (l1.length : Int)
       ·
        rw [if_pos c7] at H
        have c7b0 := decide_eq_true c7
        clear c7
        by_cases c8 : (!(((rd_T89 l0 x13_1).f0) == ((rd_T89 l1 x13_1).f0)) || (!(((rd_T89 l0 x13_1).f1) == ((rd_T89 l1 x13_1).f1)) || ((!(((rd_T89 l0 x13_1).f2.f0) == ((rd_T89 l1 x13_1).f2.f0)) || (!(((rd_T89 l0 x13_1).f2.f1) == ((rd_T89 l1 x13_1).f2.f1)) || (!(((rd_T89 l0 x13_1).f2.f2) == ((rd_T89 l1 x13_1).f2.f2)))))))) = true
        ·
         rw [if_pos c8] at H
         have c8b0 : (!(((rd_T89 l0 x13_1).f0) == ((rd_T89 l1 x13_1).f0)) || (!(((rd_T89 l0 x13_1).f1) == ((rd_T89 l1 x13_1).f1)) || ((!(((rd_T89 l0 x13_1).f2.f0) == ((rd_T89 l1 x13_1).f2.f0)) || (!(((rd_T89 l0 x13_1).f2.f1) == ((rd_T89 l1 x13_1).f2.f1)) || (!(((rd_T89 l0 x13_1).f2.f2) == ((rd_T89 l1 x13_1).f2.f2)))))))) = true := c8
         clear c8
         obtain rfl := Option.some.inj H
         have p235 : 0 ≤ (x13_1 : Int) := of_decide_eq_true (by assumption)
         have q235 : x13_1 < (l0.length : Int) := of_decide_eq_true (by assumption)
         obtain ⟨ad235, e235, hx235_0, hx235_1, hx235_2, hx235_3, hx235_4⟩ := at_T89 HR0.out x13_1 p235 q235
         cases e235
         replace p235 := eq_true p235
         replace q235 := eq_true q235
         have p236 : 0 ≤ (x13_1 : Int) := of_decide_eq_true (by assumption)
         have q236 : x13_1 < (l1.length : Int) := of_decide_eq_true (by assumption)
         obtain ⟨ad236, e236, hx236_0, hx236_1, hx236_2, hx236_3, hx236_4⟩ := at_T89 HR1.out x13_1 p236 q236
         cases e236
         replace p236 := eq_true p236
         replace q236 := eq_true q236
         go_wp2
         repeat (go_quiet (fail); try go_wp2)
         go_ret
         exact ⟨z4_1_, z4_2_⟩
        ·
         rw [if_neg c8] at H
         have c8b0 : (!(((rd_T89 l0 x13_1).f0) == ((rd_T89 l1 x13_1).f0)) || (!(((rd_T89 l0 x13_1).f1) == ((rd_T89 l1 x13_1).f1)) || ((!(((rd_T89 l0 x13_1).f2.f0) == ((rd_T89 l1 x13_1).f2.f0)) || (!(((rd_T89 l0 x13_1).f2.f1) == ((rd_T89 l1 x13_1).f2.f1)) || (!(((rd_T89 l0 x13_1).f2.f2) == ((rd_T89 l1 x13_1).f2.f2)))))))) = false := by simpa using c8
         clear c8
         have H' := A_ H
         clear H
         have p235 : 0 ≤ (x13_1 : Int) := of_decide_eq_true (by assumption)
         have q235 : x13_1 < (l0.length : Int) := of_decide_eq_true (by assumption)
         obtain ⟨ad235, e235, hx235_0, hx235_1, hx235_2, hx235_3, hx235_4⟩ := at_T89 HR0.out x13_1 p235 q235
         cases e235
         replace p235 := eq_true p235
         replace q235 := eq_true q235
         have p236 : 0 ≤ (x13_1 : Int) := of_decide_eq_true (by assumption)
         have q236 : x13_1 < (l1.length : Int) := of_decide_eq_true (by assumption)
         obtain ⟨ad236, e236, hx236_0, hx236_1, hx236_2, hx236_3, hx236_4⟩ := at_T89 HR1.out x13_1 p236 q236
         cases e236
         replace p236 := eq_true p236
         replace q236 := eq_true q236
         go_wp2
         repeat (go_quiet (fail); try go_wp2)
         go_roundg k1
         case measure => have := HK1.out; omega
         case rel => exact ⟨(wrap64 (x13_1 + 1)), z4_1_, H', ⟨(by have := HK1.out; omega)⟩, z4_2_⟩
       ·
        rw [if_neg c7] at H
        exact absurd H (by simp)
      ·
       rw [if_neg c6] at H
       exact absurd H (by simp)
     ·
      rw [if_neg c5] at H
      exact absurd H (by simp)
    ·
     rw [if_neg c4] at H
     have c4b0 := decide_eq_false c4
     clear c4
     obtain rfl := Option.some.inj H
     go_wp2
     repeat (go_quiet (fail); try go_wp2)
     go_ret
     exact ⟨z4_1_, z4_2_⟩
 ·
  rw [if_neg c3] at H
  have c3b0 : ((l0.length : Int) == (l1.length : Int)) = false := beq_eq_false_iff_ne.mpr c3
  have c3b1 : ((l0.length : Int) != (l1.length : Int)) = true := bne_iff_ne.mpr c3
  have c3b2 : (l0.length == l1.length) = false := by first | simpa using c3 | (simp at c3 ⊢; omega)
  obtain rfl := Option.some.inj H
  go_enter Try.func122, Try.ntmps122
  go_wp2
  repeat (go_quiet (fail); try go_wp2)
  go_ret
  exact ⟨z4_1_, z4_2_⟩
end Go.Proofs.Ytpfnohdnaocpdaa.PT

-- Written by a program (xprint.py) out of the translation's own print; Lean checks it.
import Derived.Test.YtpfnohdnaocpdaaPTx0
import Derived.Test.YtpfnohdnaocpdaaPTx2
namespace Go.Proofs.Ytpfnohdnaocpdaa.PT
open Go.RowKit Go.Proofs.YtpfnohdnaocpdaaW.PrintWords Go.Proofs.YtpfnohdnaocpdaaW.PrintLast Go.Proofs.YtpfnohdnaocpdaaW.PrintMore Go.Proofs.YtpfnohdnaocpdaaRP
attribute [local go_sem] max2_int min2_int max_two min_two max_three min_three max_four min_four Go.Proofs.YtpfnohdnaocpdaaRP.max_eight   -- for this text's walks alone
set_option linter.unusedVariables false
set_option linter.unusedSimpArgs false
/-! ### spec_l06Ok: function 66 -/
mutual
def spec_l06Ok.l0 : Nat → List (S34) → Int → Int → Option (Bool)
 | 0, _, _, _ => none
 | k + 1, x0, x3, x4 => if x4 < x3 then (if 0 < (x0.length : Int) then (if 0 ≤ x4 then (if x4 < (((rd_T34 x0 0).f0).length : Int) then (spec_l06Ok.l1 k x0 x3 x4 [rd_T89 ((rd_T34 x0 0).f0) x4] 0) else (none)) else (none)) else (none)) else (some true)
def spec_l06Ok.l1 : Nat → List (S34) → Int → Int → List (S89) → Int → Option (Bool)
 | 0, _, _, _, _, _ => none
 | k + 1, x0, x3, x4, x5, x6 => if x6 < 3 then (if 0 < (x5.length : Int) then (if 0 ≤ x6 then ((spec_l00In.f (wrap64 (rd [(rd_T89 x5 0).f2.f0, (rd_T89 x5 0).f2.f1, (rd_T89 x5 0).f2.f2] x6)) 0 (wrap64 (x3 - 1))).bind fun t173 => (if t173 = true then (spec_l06Ok.l1 k x0 x3 x4 x5 (wrap64 (x6 + 1))) else (some false))) else (none)) else (none)) else (if 0 < (x5.length : Int) then (if ((rd_T89 x5 0).f0) = 1 then (if ((rd_T89 x5 0).f1) = 0 then (spec_l06Ok.l0 k x0 x3 (wrap64 (x4 + 1))) else (some false)) else (if ((rd_T89 x5 0).f0) = 2 then (if ((rd_T89 x5 0).f1) < (-1) then (some false) else (if ((rd_T89 x5 0).f1) > 1 then (some false) else (if ((rd_T89 x5 0).f2.f1) = 0 then (if ((rd_T89 x5 0).f2.f2) = 0 then (spec_l06Ok.l0 k x0 x3 (wrap64 (x4 + 1))) else (some false)) else (some false)))) else (some false))) else (none))
end
def spec_l06Ok.f (k : Nat) (l0 : List (S34)) : Option (Bool) := if 0 < (l0.length : Int) then ((spec_l00In.f (((rd_T34 l0 0).f0).length : Int) 1 60).bind fun t167 => (if t167 = true then (spec_l06Ok.l0 k l0 (((rd_T34 l0 0).f0).length : Int) 0) else (some false))) else (none)
theorem spec_l06Ok.mono_l : ∀ k, (∀ y0 y1 y2, LeO (spec_l06Ok.l0 k y0 y1 y2) (spec_l06Ok.l0 (k + 1) y0 y1 y2)) ∧ (∀ y0 y1 y2 y3 y4, LeO (spec_l06Ok.l1 k y0 y1 y2 y3 y4) (spec_l06Ok.l1 (k + 1) y0 y1 y2 y3 y4))
 | 0 => ⟨fun _ _ _ r h => by simp [spec_l06Ok.l0] at h, fun _ _ _ _ _ r h => by simp [spec_l06Ok.l1] at h⟩
 | k + 1 => by
  obtain ⟨ih0, ih1⟩ := spec_l06Ok.mono_l k
  refine ⟨?_, ?_⟩
  ·
   intro y0 y1 y2
   unfold spec_l06Ok.l0
   repeat' first
   | (with_reducible exact ih0 _ _ _)
   | (with_reducible exact ih1 _ _ _ _ _)
   | (with_reducible exact LeO.refl _)
   | (with_reducible exact LeO.none _)
   | (with_reducible refine LeO.ite ?_ ?_)
   | (with_reducible refine LeO.bind ?_ (fun _ => ?_))
   | exact ih0 _ _ _
   | exact ih1 _ _ _ _ _
   | exact LeO.none _
   | refine LeO.ite ?_ ?_
   | refine LeO.bind ?_ (fun _ => ?_)
  ·
   intro y0 y1 y2 y3 y4
   unfold spec_l06Ok.l1
   repeat' first
   | (with_reducible exact ih0 _ _ _)
   | (with_reducible exact ih1 _ _ _ _ _)
   | (with_reducible exact LeO.refl _)
   | (with_reducible exact LeO.none _)
   | (with_reducible refine LeO.ite ?_ ?_)
   | (with_reducible refine LeO.bind ?_ (fun _ => ?_))
   | exact ih0 _ _ _
   | exact ih1 _ _ _ _ _
   | exact LeO.none _
   | refine LeO.ite ?_ ?_
   | refine LeO.bind ?_ (fun _ => ?_)
theorem spec_l06Ok.mono : ∀ a0 k, LeO (spec_l06Ok.f k a0) (spec_l06Ok.f (k + 1) a0) := by
 intro a0 k
 obtain ⟨ih0, ih1⟩ := spec_l06Ok.mono_l k
 unfold spec_l06Ok.f
 repeat' first
   | (with_reducible exact ih0 _ _ _)
   | (with_reducible exact ih1 _ _ _ _ _)
   | (with_reducible exact LeO.refl _)
   | (with_reducible exact LeO.none _)
   | (with_reducible refine LeO.ite ?_ ?_)
   | (with_reducible refine LeO.bind ?_ (fun _ => ?_))
   | exact ih0 _ _ _
   | exact ih1 _ _ _ _ _
   | exact LeO.none _
   | refine LeO.ite ?_ ?_
   | refine LeO.bind ?_ (fun _ => ?_)
set_option maxHeartbeats 8000000 in
set_option maxRecDepth 100000 in
theorem spec_l06Ok.calls (k : Nat) (A0 : Option Addr) (c0 : Nat) (l0 : List (S34)) (r : Bool) (w : World) (hr0 : Kd.C k34 w A0 l0.length l0) (hc0 : l0.length ≤ c0) (h : spec_l06Ok.f k l0 = some r) :
  Calls Try.prog 66 #[.pointer A0] w fun e w' => e = .returned (.bool r) ∧ Drawn0 w w' := by
 have HR0 := Aside0.mk hr0
 have HC0 := Aside0.mk hc0
 clear hr0 hc0
 have H : (if 0 < (l0.length : Int) then ((spec_l00In.f (((rd_T34 l0 0).f0).length : Int) 1 60).bind fun t167 => (if t167 = true then (spec_l06Ok.l0 k l0 (((rd_T34 l0 0).f0).length : Int) 0) else (some false))) else (none)) = some r := h
 clear h
 by_cases c2 : 0 < (l0.length : Int)
 ·
  rw [if_pos c2] at H
  have c2b0 : decide (0 < (l0.length : Int)) = true := decide_eq_true c2
  have c2b1 : decide (0 < l0.length) = true := decide_eq_true (by omega)
  clear c2
  replace H := Option.bind_eq_some_iff.mp H
  obtain ⟨t167, A30, H⟩ := H
  replace H : (if t167 = true then (spec_l06Ok.l0 k l0 (((rd_T34 l0 0).f0).length : Int) 0) else (some false)) = some r := H
  have A3 := Aside0.mk A30
  clear A30
  by_cases c4 : t167 = true
  ·
   subst c4
   have H1 : (spec_l06Ok.l0 k l0 (((rd_T34 l0 0).f0).length : Int) 0) = some r := by first | (rw [if_pos rfl] at H; exact H) | rfl
   clear H
   have H := H1
   clear H1
   have H' := Aside0.mk H
   clear H
   have q166 : 0 < (l0.length : Int) := of_decide_eq_true (by assumption)
   obtain ⟨ad166, A166_0, c166_0, e166, hx166_0, hl166_0, hi166_0⟩ := rp_T34 HR0.out q166
   cases e166
   have HR166_0 := Aside0.mk hi166_0
   have HC166_0 := Aside0.mk hl166_0
   clear hi166_0 hl166_0
   go_enter Try.func66, Try.ntmps66
   go_wp2_with (first | ((with_reducible refine gate_callee (f := 109) rfl ?_); refine goesL_ (some 13) rfl rfl Try.func109 (by kernel_rfl) rfl #[.int .i64 (((rd_T34 l0 0).f0).length : Int), .int .i64 1, .int .i64 60] rfl (by (try simp only [List.map_toArray, List.map_cons, List.map_nil]); first | done | rfl | (simp only [List.length_drop, List.length_take]; rfl)) ?_; (with_reducible refine (spec_l00In.calls (((rd_T34 l0 0).f0).length : Int) 1 60 true _ A3.out).mono ?_); rintro e w' ⟨rfl, ⟨nd, rfl⟩⟩; refine ⟨_, rfl, ?_⟩))
   go_loopg [4] k (fun kq v4 w' => ∃ (x4_1 : Int), v4 = .int .i64 x4_1 ∧ Aside0 (spec_l06Ok.l0 kq l0 (((rd_T34 l0 0).f0).length : Int) x4_1 = some r) ∧ Aside0 (kq ≤ k) ∧ Drawn0 w w')
   case atStart => exact ⟨(0), (by first | rfl | (simp; done) | (simp [*]; done) | (simp [isE_]; done)), H', ⟨Nat.le_refl _⟩, by repeat (first | exact Drawn0.refl _ | apply Drawn0.step)⟩
   case round =>
    clear H'
    try clear c1
    try clear q1
    try clear hx1
    try clear c2
    try clear c2b0
    try clear c2b1
    try clear p2
    try clear c4
    try clear hx166_0
    try clear q166
    obtain ⟨x4_1, rfl, HA, HK1, ⟨m1, rfl⟩⟩ := hrel
    cases gk with
    | zero => exact absurd HA.out (by simp [spec_l06Ok.l0])
    | succ k1 =>
     have H := HA.out
     clear HA
     simp only [spec_l06Ok.l0] at H
     (repeat (first | rw [rd1_T89] at H))
     by_cases c5 : x4_1 < (((rd_T34 l0 0).f0).length : Int)
     ·
      rw [if_pos c5] at H
      have c5b0 : decide (x4_1 < (((rd_T34 l0 0).f0).length : Int)) = true := decide_eq_true c5
      clear c5
      by_cases c6 : 0 < (l0.length : Int)
      ·
       rw [if_pos c6] at H
       have c6b0 : decide (0 < (l0.length : Int)) = true := decide_eq_true c6
       have c6b1 : decide (0 < l0.length) = true := decide_eq_true (by omega)
       clear c6
       by_cases c7 : 0 ≤ x4_1
       ·
        rw [if_pos c7] at H
        have c7b0 : decide (0 ≤ x4_1) = true := decide_eq_true c7
        clear c7
        by_cases c8 : x4_1 < (((rd_T34 l0 0).f0).length : Int)
        ·
         rw [if_pos c8] at H
         have c8b0 : decide (x4_1 < (((rd_T34 l0 0).f0).length : Int)) = true := decide_eq_true c8
         clear c8
         have H' := Aside0.mk H
         clear H
         have q168 : 0 < (l0.length : Int) := of_decide_eq_true (by assumption)
         obtain ⟨ad168, A168_0, c168_0, e168, hx168_0, hl168_0, hi168_0⟩ := rp_T34 HR0.out q168
         obtain rfl : ad166 = ad168 := (by injection e168)
         have HR168_0 := Aside0.mk hi168_0
         have HC168_0 := Aside0.mk hl168_0
         clear hi168_0 hl168_0
         have p169 : 0 ≤ (x4_1 : Int) := of_decide_eq_true (by assumption)
         have q169 : x4_1 < (((rd_T34 l0 0).f0).length : Int) := of_decide_eq_true (by assumption)
         obtain ⟨ad169, e169, hx169_0, hx169_1, hx169_2, hx169_3, hx169_4⟩ := at_T89 HR168_0.out x4_1 p169 q169
         cases e169
         replace p169 := eq_true p169
         replace q169 := eq_true q169
         have HR170 := Aside0.mk (show Kd.C k89 w (some (Addr.add ad169 (x4_1.toNat * 5))) [rd_T89 ((rd_T34 l0 0).f0) x4_1].length [rd_T89 ((rd_T34 l0 0).f0) x4_1] from Kd.C_el k89 z89 HR168_0.out (x4_1 : Int) (of_eq_true p169) (of_eq_true q169))
         go_wp2
         go_loopg [6] k1 (fun kq v6 w' => ∃ (x6_2 : Int), v6 = .int .i64 x6_2 ∧ Aside0 (spec_l06Ok.l1 kq l0 (((rd_T34 l0 0).f0).length : Int) x4_1 [rd_T89 ((rd_T34 l0 0).f0) x4_1] x6_2 = some r) ∧ Aside0 (kq ≤ k1) ∧ Drawn0 w w')
         case atStart => exact ⟨(0), (by first | rfl | (simp; done) | (simp [*]; done) | (simp [isE_]; done)), H', ⟨Nat.le_refl _⟩, by repeat (first | exact Drawn0.refl _ | apply Drawn0.step)⟩
         case round =>
          clear H'
          try clear c1
          try clear p1
          try clear q1
          try clear hx1
          try clear c2
          try clear c2b0
          try clear c2b1
          try clear p2
          try clear c4
          try clear c5
          try clear c5b0
          try clear c6
          try clear c6b0
          try clear c6b1
          try clear c7
          try clear c7b0
          try clear c8
          try clear c8b0
          try clear hx166_0
          try clear hx168_0
          try clear hx169_0
          try clear hx169_1
          try clear hx169_2
          try clear hx169_3
          try clear hx169_4
          try clear p169
          try clear p2
          try clear q1
          try clear q166
          try clear q168
          try clear q169
          obtain ⟨x6_2, rfl, HA, HK2, ⟨m2, rfl⟩⟩ := hrel
          cases gk with
          | zero => exact absurd HA.out (by simp [spec_l06Ok.l1])
          | succ k2 =>
           have H := HA.out
           clear HA
           simp only [spec_l06Ok.l1] at H
           (repeat (first | rw [rd1_T89] at H))
           by_cases c9 : x6_2 < 3
           ·
            rw [if_pos c9] at H
            have c9b0 : decide (x6_2 < 3) = true := decide_eq_true c9
            clear c9
            by_cases c10 : 0 < ([rd_T89 ((rd_T34 l0 0).f0) x4_1].length : Int)
            ·
             rw [if_pos c10] at H
             have c10b0 : decide (0 < ([rd_T89 ((rd_T34 l0 0).f0) x4_1].length : Int)) = true := decide_eq_true c10
             have c10b1 : decide (0 < [rd_T89 ((rd_T34 l0 0).f0) x4_1].length) = true := decide_eq_true (by omega)
             clear c10
             by_cases c11 : 0 ≤ x6_2
             ·
              rw [if_pos c11] at H
              have c11b0 : decide (0 ≤ x6_2) = true := decide_eq_true c11
              clear c11
              replace H := Option.bind_eq_some_iff.mp H
              obtain ⟨t173, A120, H⟩ := H
              replace H : (if t173 = true then (spec_l06Ok.l1 k2 l0 (((rd_T34 l0 0).f0).length : Int) x4_1 [rd_T89 ((rd_T34 l0 0).f0) x4_1] (wrap64 (x6_2 + 1))) else (some false)) = some r := H
              have A12 := Aside0.mk A120
              clear A120
              by_cases c13 : t173 = true
              ·
               subst c13
               have H1 : (spec_l06Ok.l1 k2 l0 (((rd_T34 l0 0).f0).length : Int) x4_1 [rd_T89 ((rd_T34 l0 0).f0) x4_1] (wrap64 (x6_2 + 1))) = some r := by first | (rw [if_pos rfl] at H; exact H) | rfl
               clear H
               have H := H1
               clear H1
               have H' := Aside0.mk H
               clear H
               have q171 : 0 < ([rd_T89 ((rd_T34 l0 0).f0) x4_1].length : Int) := of_decide_eq_true (by assumption)
               obtain ⟨ad171, e171, hx171_0, hx171_1, hx171_2, hx171_3, hx171_4⟩ := rp_T89 HR170.out q171
               (try simp only [rd1_T89] at hx171_0 hx171_1 hx171_2 hx171_3 hx171_4)
               obtain rfl : (Addr.add ad169 (x4_1.toNat * 5)) = ad171 := (by injection e171)
               have p172 : 0 ≤ (x6_2 : Int) := of_decide_eq_true (by assumption)
               have q172 : (x6_2 : Int) < 3 := of_decide_eq_true (by assumption)
               have hx172_0 := cell_arr3 hx171_2 hx171_3 hx171_4 x6_2 p172 q172
               (try simp only [Nat.zero_add, Nat.add_zero] at hx172_0)
               replace p172 := eq_true p172
               replace q172 := eq_true q172
               go_wp2_with (first | ((with_reducible refine gate_callee (f := 109) rfl ?_); refine goesL_ (some 39) rfl rfl Try.func109 (by kernel_rfl) rfl #[.int .i64 (wrap64 (rd [(rd_T89 ((rd_T34 l0 0).f0) x4_1).f2.f0, (rd_T89 ((rd_T34 l0 0).f0) x4_1).f2.f1, (rd_T89 ((rd_T34 l0 0).f0) x4_1).f2.f2] x6_2)), .int .i64 0, .int .i64 (wrap64 ((((rd_T34 l0 0).f0).length : Int) - 1))] rfl (by (try simp only [List.map_toArray, List.map_cons, List.map_nil]); first | done | rfl | (simp only [List.length_drop, List.length_take]; rfl)) ?_; (with_reducible refine (spec_l00In.calls (wrap64 (rd [(rd_T89 ((rd_T34 l0 0).f0) x4_1).f2.f0, (rd_T89 ((rd_T34 l0 0).f0) x4_1).f2.f1, (rd_T89 ((rd_T34 l0 0).f0) x4_1).f2.f2] x6_2)) 0 (wrap64 ((((rd_T34 l0 0).f0).length : Int) - 1)) true _ A12.out).mono ?_); rintro e w' ⟨rfl, ⟨nd, rfl⟩⟩; refine ⟨_, rfl, ?_⟩))
               go_roundg k2
               case measure => have := HK1.out; have := HK2.out; omega
               case rel => exact ⟨(wrap64 (x6_2 + 1)), (by first | rfl | (simp; done) | (simp [*]; done) | (simp [isE_]; done)), H', ⟨by have := HK1.out; have := HK2.out; omega⟩, by repeat (first | exact Drawn0.refl _ | apply Drawn0.step)⟩
              ·
               replace c13 := Bool.eq_false_iff.mpr c13
               subst c13
               have H1 : (some false) = some r := by first | (rw [if_neg (show ¬ (false = true) by decide)] at H; exact H) | rfl
               clear H
               have H := H1
               clear H1
               obtain rfl := Option.some.inj H
               have q171 : 0 < ([rd_T89 ((rd_T34 l0 0).f0) x4_1].length : Int) := of_decide_eq_true (by assumption)
               obtain ⟨ad171, e171, hx171_0, hx171_1, hx171_2, hx171_3, hx171_4⟩ := rp_T89 HR170.out q171
               (try simp only [rd1_T89] at hx171_0 hx171_1 hx171_2 hx171_3 hx171_4)
               obtain rfl : (Addr.add ad169 (x4_1.toNat * 5)) = ad171 := (by injection e171)
               have p172 : 0 ≤ (x6_2 : Int) := of_decide_eq_true (by assumption)
               have q172 : (x6_2 : Int) < 3 := of_decide_eq_true (by assumption)
               have hx172_0 := cell_arr3 hx171_2 hx171_3 hx171_4 x6_2 p172 q172
               (try simp only [Nat.zero_add, Nat.add_zero] at hx172_0)
               replace p172 := eq_true p172
               replace q172 := eq_true q172
               go_wp2_with (first | ((with_reducible refine gate_callee (f := 109) rfl ?_); refine goesL_ (some 39) rfl rfl Try.func109 (by kernel_rfl) rfl #[.int .i64 (wrap64 (rd [(rd_T89 ((rd_T34 l0 0).f0) x4_1).f2.f0, (rd_T89 ((rd_T34 l0 0).f0) x4_1).f2.f1, (rd_T89 ((rd_T34 l0 0).f0) x4_1).f2.f2] x6_2)), .int .i64 0, .int .i64 (wrap64 ((((rd_T34 l0 0).f0).length : Int) - 1))] rfl (by (try simp only [List.map_toArray, List.map_cons, List.map_nil]); first | done | rfl | (simp only [List.length_drop, List.length_take]; rfl)) ?_; (with_reducible refine (spec_l00In.calls (wrap64 (rd [(rd_T89 ((rd_T34 l0 0).f0) x4_1).f2.f0, (rd_T89 ((rd_T34 l0 0).f0) x4_1).f2.f1, (rd_T89 ((rd_T34 l0 0).f0) x4_1).f2.f2] x6_2)) 0 (wrap64 ((((rd_T34 l0 0).f0).length : Int) - 1)) false _ A12.out).mono ?_); rintro e w' ⟨rfl, ⟨nd, rfl⟩⟩; refine ⟨_, rfl, ?_⟩))
               go_ret
               exact ⟨by first | rfl | (simp; done) | (simp [*]; done) | (simp [isE_]; done), by repeat (first | exact Drawn0.refl _ | apply Drawn0.step)⟩
             ·
              rw [if_neg c11] at H
              exact absurd H (by simp)
            ·
             rw [if_neg c10] at H
             exact absurd H (by simp)
           ·
            rw [if_neg c9] at H
            have c9b0 : decide (x6_2 < 3) = false := decide_eq_false c9
            clear c9
            by_cases c14 : 0 < ([rd_T89 ((rd_T34 l0 0).f0) x4_1].length : Int)
            ·
             rw [if_pos c14] at H
             have c14b0 : decide (0 < ([rd_T89 ((rd_T34 l0 0).f0) x4_1].length : Int)) = true := decide_eq_true c14
             have c14b1 : decide (0 < [rd_T89 ((rd_T34 l0 0).f0) x4_1].length) = true := decide_eq_true (by omega)
             clear c14
             by_cases c15 : ((rd_T89 ((rd_T34 l0 0).f0) x4_1).f0) = 1
             ·
              rw [if_pos c15] at H
              have c15b0 : (((rd_T89 ((rd_T34 l0 0).f0) x4_1).f0) == 1) = true := beq_iff_eq.mpr c15
              have c15b1 : (((rd_T89 ((rd_T34 l0 0).f0) x4_1).f0) != 1) = false := bne_eq_false_iff_eq.mpr c15
              clear c15
              by_cases c16 : ((rd_T89 ((rd_T34 l0 0).f0) x4_1).f1) = 0
              ·
               rw [if_pos c16] at H
               have c16b0 : (((rd_T89 ((rd_T34 l0 0).f0) x4_1).f1) == 0) = true := beq_iff_eq.mpr c16
               have c16b1 : (((rd_T89 ((rd_T34 l0 0).f0) x4_1).f1) != 0) = false := bne_eq_false_iff_eq.mpr c16
               clear c16
               have H' := Aside0.mk H
               clear H
               have q174 : 0 < ([rd_T89 ((rd_T34 l0 0).f0) x4_1].length : Int) := of_decide_eq_true (by assumption)
               obtain ⟨ad174, e174, hx174_0, hx174_1, hx174_2, hx174_3, hx174_4⟩ := rp_T89 HR170.out q174
               (try simp only [rd1_T89] at hx174_0 hx174_1 hx174_2 hx174_3 hx174_4)
               obtain rfl : (Addr.add ad169 (x4_1.toNat * 5)) = ad174 := (by injection e174)
               go_wp2
               go_roundg k2
               case measure => have := HK1.out; have := HK2.out; omega
               case rel => exact ⟨(wrap64 (x4_1 + 1)), (by first | rfl | (simp; done) | (simp [*]; done) | (simp [isE_]; done)), H', ⟨by have := HK1.out; have := HK2.out; omega⟩, by repeat (first | exact Drawn0.refl _ | apply Drawn0.step)⟩
              ·
               rw [if_neg c16] at H
               have c16b0 : (((rd_T89 ((rd_T34 l0 0).f0) x4_1).f1) == 0) = false := beq_eq_false_iff_ne.mpr c16
               have c16b1 : (((rd_T89 ((rd_T34 l0 0).f0) x4_1).f1) != 0) = true := bne_iff_ne.mpr c16
               obtain rfl := Option.some.inj H
               have q174 : 0 < ([rd_T89 ((rd_T34 l0 0).f0) x4_1].length : Int) := of_decide_eq_true (by assumption)
               obtain ⟨ad174, e174, hx174_0, hx174_1, hx174_2, hx174_3, hx174_4⟩ := rp_T89 HR170.out q174
               (try simp only [rd1_T89] at hx174_0 hx174_1 hx174_2 hx174_3 hx174_4)
               obtain rfl : (Addr.add ad169 (x4_1.toNat * 5)) = ad174 := (by injection e174)
               go_wp2
               go_ret
               exact ⟨by first | rfl | (simp; done) | (simp [*]; done) | (simp [isE_]; done), by repeat (first | exact Drawn0.refl _ | apply Drawn0.step)⟩
             ·
              rw [if_neg c15] at H
              have c15b0 : (((rd_T89 ((rd_T34 l0 0).f0) x4_1).f0) == 1) = false := beq_eq_false_iff_ne.mpr c15
              have c15b1 : (((rd_T89 ((rd_T34 l0 0).f0) x4_1).f0) != 1) = true := bne_iff_ne.mpr c15
              by_cases c17 : ((rd_T89 ((rd_T34 l0 0).f0) x4_1).f0) = 2
              ·
               rw [if_pos c17] at H
               have c17b0 : (((rd_T89 ((rd_T34 l0 0).f0) x4_1).f0) == 2) = true := beq_iff_eq.mpr c17
               have c17b1 : (((rd_T89 ((rd_T34 l0 0).f0) x4_1).f0) != 2) = false := bne_eq_false_iff_eq.mpr c17
               clear c17
               by_cases c18 : ((rd_T89 ((rd_T34 l0 0).f0) x4_1).f1) < (-1)
               ·
                rw [if_pos c18] at H
                have c18b0 : decide (((rd_T89 ((rd_T34 l0 0).f0) x4_1).f1) < (-1)) = true := decide_eq_true c18
                clear c18
                obtain rfl := Option.some.inj H
                have q174 : 0 < ([rd_T89 ((rd_T34 l0 0).f0) x4_1].length : Int) := of_decide_eq_true (by assumption)
                obtain ⟨ad174, e174, hx174_0, hx174_1, hx174_2, hx174_3, hx174_4⟩ := rp_T89 HR170.out q174
                (try simp only [rd1_T89] at hx174_0 hx174_1 hx174_2 hx174_3 hx174_4)
                obtain rfl : (Addr.add ad169 (x4_1.toNat * 5)) = ad174 := (by injection e174)
                go_wp2
                go_ret
                exact ⟨by first | rfl | (simp; done) | (simp [*]; done) | (simp [isE_]; done), by repeat (first | exact Drawn0.refl _ | apply Drawn0.step)⟩
               ·
                rw [if_neg c18] at H
                have c18b0 : decide (((rd_T89 ((rd_T34 l0 0).f0) x4_1).f1) < (-1)) = false := decide_eq_false c18
                clear c18
                by_cases c19 : ((rd_T89 ((rd_T34 l0 0).f0) x4_1).f1) > 1
                ·
                 rw [if_pos c19] at H
                 have c19b0 : decide (1 < ((rd_T89 ((rd_T34 l0 0).f0) x4_1).f1)) = true := decide_eq_true c19
                 clear c19
                 obtain rfl := Option.some.inj H
                 have q174 : 0 < ([rd_T89 ((rd_T34 l0 0).f0) x4_1].length : Int) := of_decide_eq_true (by assumption)
                 obtain ⟨ad174, e174, hx174_0, hx174_1, hx174_2, hx174_3, hx174_4⟩ := rp_T89 HR170.out q174
                 (try simp only [rd1_T89] at hx174_0 hx174_1 hx174_2 hx174_3 hx174_4)
                 obtain rfl : (Addr.add ad169 (x4_1.toNat * 5)) = ad174 := (by injection e174)
                 go_wp2
                 go_ret
                 exact ⟨by first | rfl | (simp; done) | (simp [*]; done) | (simp [isE_]; done), by repeat (first | exact Drawn0.refl _ | apply Drawn0.step)⟩
                ·
                 rw [if_neg c19] at H
                 have c19b0 : decide (1 < ((rd_T89 ((rd_T34 l0 0).f0) x4_1).f1)) = false := decide_eq_false c19
                 clear c19
                 by_cases c20 : ((rd_T89 ((rd_T34 l0 0).f0) x4_1).f2.f1) = 0
                 ·
                  rw [if_pos c20] at H
                  have c20b0 : (((rd_T89 ((rd_T34 l0 0).f0) x4_1).f2.f1) == 0) = true := beq_iff_eq.mpr c20
                  have c20b1 : (((rd_T89 ((rd_T34 l0 0).f0) x4_1).f2.f1) != 0) = false := bne_eq_false_iff_eq.mpr c20
                  clear c20
                  by_cases c21 : ((rd_T89 ((rd_T34 l0 0).f0) x4_1).f2.f2) = 0
                  ·
                   rw [if_pos c21] at H
                   have c21b0 : (((rd_T89 ((rd_T34 l0 0).f0) x4_1).f2.f2) == 0) = true := beq_iff_eq.mpr c21
                   have c21b1 : (((rd_T89 ((rd_T34 l0 0).f0) x4_1).f2.f2) != 0) = false := bne_eq_false_iff_eq.mpr c21
                   clear c21
                   have H' := Aside0.mk H
                   clear H
                   have q174 : 0 < ([rd_T89 ((rd_T34 l0 0).f0) x4_1].length : Int) := of_decide_eq_true (by assumption)
                   obtain ⟨ad174, e174, hx174_0, hx174_1, hx174_2, hx174_3, hx174_4⟩ := rp_T89 HR170.out q174
                   (try simp only [rd1_T89] at hx174_0 hx174_1 hx174_2 hx174_3 hx174_4)
                   obtain rfl : (Addr.add ad169 (x4_1.toNat * 5)) = ad174 := (by injection e174)
                   go_wp2
                   go_roundg k2
                   case measure => have := HK1.out; have := HK2.out; omega
                   case rel => exact ⟨(wrap64 (x4_1 + 1)), (by first | rfl | (simp; done) | (simp [*]; done) | (simp [isE_]; done)), H', ⟨by have := HK1.out; have := HK2.out; omega⟩, by repeat (first | exact Drawn0.refl _ | apply Drawn0.step)⟩
                  ·
                   rw [if_neg c21] at H
                   have c21b0 : (((rd_T89 ((rd_T34 l0 0).f0) x4_1).f2.f2) == 0) = false := beq_eq_false_iff_ne.mpr c21
                   have c21b1 : (((rd_T89 ((rd_T34 l0 0).f0) x4_1).f2.f2) != 0) = true := bne_iff_ne.mpr c21
                   obtain rfl := Option.some.inj H
                   have q174 : 0 < ([rd_T89 ((rd_T34 l0 0).f0) x4_1].length : Int) := of_decide_eq_true (by assumption)
                   obtain ⟨ad174, e174, hx174_0, hx174_1, hx174_2, hx174_3, hx174_4⟩ := rp_T89 HR170.out q174
                   (try simp only [rd1_T89] at hx174_0 hx174_1 hx174_2 hx174_3 hx174_4)
                   obtain rfl : (Addr.add ad169 (x4_1.toNat * 5)) = ad174 := (by injection e174)
                   go_wp2
                   go_ret
                   exact ⟨by first | rfl | (simp; done) | (simp [*]; done) | (simp [isE_]; done), by repeat (first | exact Drawn0.refl _ | apply Drawn0.step)⟩
                 ·
                  rw [if_neg c20] at H
                  have c20b0 : (((rd_T89 ((rd_T34 l0 0).f0) x4_1).f2.f1) == 0) = false := beq_eq_false_iff_ne.mpr c20
                  have c20b1 : (((rd_T89 ((rd_T34 l0 0).f0) x4_1).f2.f1) != 0) = true := bne_iff_ne.mpr c20
                  obtain rfl := Option.some.inj H
                  have q174 : 0 < ([rd_T89 ((rd_T34 l0 0).f0) x4_1].length : Int) := of_decide_eq_true (by assumption)
                  obtain ⟨ad174, e174, hx174_0, hx174_1, hx174_2, hx174_3, hx174_4⟩ := rp_T89 HR170.out q174
                  (try simp only [rd1_T89] at hx174_0 hx174_1 hx174_2 hx174_3 hx174_4)
                  obtain rfl : (Addr.add ad169 (x4_1.toNat * 5)) = ad174 := (by injection e174)
                  go_wp2
                  go_ret
                  exact ⟨by first | rfl | (simp; done) | (simp [*]; done) | (simp [isE_]; done), by repeat (first | exact Drawn0.refl _ | apply Drawn0.step)⟩
              ·
               rw [if_neg c17] at H
               have c17b0 : (((rd_T89 ((rd_T34 l0 0).f0) x4_1).f0) == 2) = false := beq_eq_false_iff_ne.mpr c17
               have c17b1 : (((rd_T89 ((rd_T34 l0 0).f0) x4_1).f0) != 2) = true := bne_iff_ne.mpr c17
               obtain rfl := Option.some.inj H
               have q174 : 0 < ([rd_T89 ((rd_T34 l0 0).f0) x4_1].length : Int) := of_decide_eq_true (by assumption)
               obtain ⟨ad174, e174, hx174_0, hx174_1, hx174_2, hx174_3, hx174_4⟩ := rp_T89 HR170.out q174
               (try simp only [rd1_T89] at hx174_0 hx174_1 hx174_2 hx174_3 hx174_4)
               obtain rfl : (Addr.add ad169 (x4_1.toNat * 5)) = ad174 := (by injection e174)
               go_wp2
               go_ret
               exact ⟨by first | rfl | (simp; done) | (simp [*]; done) | (simp [isE_]; done), by repeat (first | exact Drawn0.refl _ | apply Drawn0.step)⟩
            ·
             rw [if_neg c14] at H
             exact absurd H (by simp)
        ·
         rw [if_neg c8] at H
         exact absurd H (by simp)
       ·
        rw [if_neg c7] at H
        exact absurd H (by simp)
      ·
       rw [if_neg c6] at H
       exact absurd H (by simp)
     ·
      rw [if_neg c5] at H
      have c5b0 : decide (x4_1 < (((rd_T34 l0 0).f0).length : Int)) = false := decide_eq_false c5
      clear c5
      obtain rfl := Option.some.inj H
      go_wp2
      go_ret
      exact ⟨by first | rfl | (simp; done) | (simp [*]; done) | (simp [isE_]; done), by repeat (first | exact Drawn0.refl _ | apply Drawn0.step)⟩
  ·
   replace c4 := Bool.eq_false_iff.mpr c4
   subst c4
   have H1 : (some false) = some r := by first | (rw [if_neg (show ¬ (false = true) by decide)] at H; exact H) | rfl
   clear H
   have H := H1
   clear H1
   obtain rfl := Option.some.inj H
   have q166 : 0 < (l0.length : Int) := of_decide_eq_true (by assumption)
   obtain ⟨ad166, A166_0, c166_0, e166, hx166_0, hl166_0, hi166_0⟩ := rp_T34 HR0.out q166
   cases e166
   have HR166_0 := Aside0.mk hi166_0
   have HC166_0 := Aside0.mk hl166_0
   clear hi166_0 hl166_0
   go_enter Try.func66, Try.ntmps66
   go_wp2_with (first | ((with_reducible refine gate_callee (f := 109) rfl ?_); refine goesL_ (some 13) rfl rfl Try.func109 (by kernel_rfl) rfl #[.int .i64 (((rd_T34 l0 0).f0).length : Int), .int .i64 1, .int .i64 60] rfl (by (try simp only [List.map_toArray, List.map_cons, List.map_nil]); first | done | rfl | (simp only [List.length_drop, List.length_take]; rfl)) ?_; (with_reducible refine (spec_l00In.calls (((rd_T34 l0 0).f0).length : Int) 1 60 false _ A3.out).mono ?_); rintro e w' ⟨rfl, ⟨nd, rfl⟩⟩; refine ⟨_, rfl, ?_⟩))
   go_ret
   exact ⟨by first | rfl | (simp; done) | (simp [*]; done) | (simp [isE_]; done), by repeat (first | exact Drawn0.refl _ | apply Drawn0.step)⟩
 ·
  rw [if_neg c2] at H
  exact absurd H (by simp)
/-! ### spec_l03Digits: function 135 -/
def spec_l03Digits.l0 : Nat → List Int → Int → Option (Bool)
 | 0, _, _ => none
 | k + 1, x0, x3 => if x3 < (x0.length : Int) then (if 0 ≤ x3 then (if (rd x0 x3) < (-1) then (some false) else (if (rd x0 x3) > 1 then (some false) else (spec_l03Digits.l0 k x0 (wrap64 (x3 + 1))))) else (none)) else (some true)
def spec_l03Digits.f (k : Nat) (l0 : List Int) : Option (Bool) := spec_l03Digits.l0 k l0 0
theorem spec_l03Digits.mono_l : ∀ k, (∀ y0 y1, LeO (spec_l03Digits.l0 k y0 y1) (spec_l03Digits.l0 (k + 1) y0 y1))
 | 0 => fun _ _ r h => by simp [spec_l03Digits.l0] at h
 | k + 1 => by
  have ih0 := spec_l03Digits.mono_l k
  ·
   intro y0 y1
   unfold spec_l03Digits.l0
   repeat' first
   | (with_reducible exact ih0 _ _)
   | (with_reducible exact LeO.refl _)
   | (with_reducible exact LeO.none _)
   | (with_reducible refine LeO.ite ?_ ?_)
   | (with_reducible refine LeO.bind ?_ (fun _ => ?_))
   | exact ih0 _ _
   | exact LeO.none _
   | refine LeO.ite ?_ ?_
   | refine LeO.bind ?_ (fun _ => ?_)
theorem spec_l03Digits.mono : ∀ a0 k, LeO (spec_l03Digits.f k a0) (spec_l03Digits.f (k + 1) a0) := by
 intro a0 k
 have ih0 := spec_l03Digits.mono_l k
 unfold spec_l03Digits.f
 repeat' first
   | (with_reducible exact ih0 _ _)
   | (with_reducible exact LeO.refl _)
   | (with_reducible exact LeO.none _)
   | (with_reducible refine LeO.ite ?_ ?_)
   | (with_reducible refine LeO.bind ?_ (fun _ => ?_))
   | exact ih0 _ _
   | exact LeO.none _
   | refine LeO.ite ?_ ?_
   | refine LeO.bind ?_ (fun _ => ?_)
set_option maxHeartbeats 8000000 in
set_option maxRecDepth 100000 in
theorem spec_l03Digits.calls (k : Nat) (A0 : Option Addr) (c0 : Nat) (l0 : List Int) (r : Bool) (w : World) (hr0 : Kd.C (Kd.int .i8) w A0 l0.length l0) (hc0 : l0.length ≤ c0) (h : spec_l03Digits.f k l0 = some r) :
  Calls Try.prog 135 #[.slice A0 l0.length c0] w fun e w' => e = .returned (.bool r) ∧ Drawn0 w w' := by
 have HR0 := Aside0.mk hr0
 have HC0 := Aside0.mk hc0
 clear hr0 hc0
 have H : (spec_l03Digits.l0 k l0 0) = some r := h
 clear h
 have H' := Aside0.mk H
 clear H
 go_enter Try.func135, Try.ntmps135
 go_wp2
 go_loopg [3] k (fun kq v3 w' => ∃ (x3_1 : Int), v3 = .int .i64 x3_1 ∧ Aside0 (spec_l03Digits.l0 kq l0 x3_1 = some r) ∧ Aside0 (kq ≤ k) ∧ Drawn0 w w')
 case atStart => exact ⟨(0), (by first | rfl | (simp; done) | (simp [*]; done) | (simp [isE_]; done)), H', ⟨Nat.le_refl _⟩, by repeat (first | exact Drawn0.refl _ | apply Drawn0.step)⟩
 case round =>
  clear H'
  try clear c1
  obtain ⟨x3_1, rfl, HA, HK1, ⟨m1, rfl⟩⟩ := hrel
  cases gk with
  | zero => exact absurd HA.out (by simp [spec_l03Digits.l0])
  | succ k1 =>
   have H := HA.out
   clear HA
   simp only [spec_l03Digits.l0] at H
   by_cases c2 : x3_1 < (l0.length : Int)
   ·
    rw [if_pos c2] at H
    have c2b0 : decide (x3_1 < (l0.length : Int)) = true := decide_eq_true c2
    clear c2
    by_cases c3 : 0 ≤ x3_1
    ·
     rw [if_pos c3] at H
     have c3b0 : decide (0 ≤ x3_1) = true := decide_eq_true c3
     clear c3
     by_cases c4 : (rd l0 x3_1) < (-1)
     ·
      rw [if_pos c4] at H
      have c4b0 : decide ((rd l0 x3_1) < (-1)) = true := decide_eq_true c4
      clear c4
      obtain rfl := Option.some.inj H
      have p175 : 0 ≤ (x3_1 : Int) := of_decide_eq_true (by assumption)
      have q175 : x3_1 < (l0.length : Int) := of_decide_eq_true (by assumption)
      obtain ⟨ad175, e175, hx175_0⟩ := Kd.at_int HR0.out x3_1 p175 q175
      cases e175
      replace p175 := eq_true p175
      replace q175 := eq_true q175
      go_wp2
      go_ret
      exact ⟨by first | rfl | (simp; done) | (simp [*]; done) | (simp [isE_]; done), by repeat (first | exact Drawn0.refl _ | apply Drawn0.step)⟩
     ·
      rw [if_neg c4] at H
      have c4b0 : decide ((rd l0 x3_1) < (-1)) = false := decide_eq_false c4
      clear c4
      by_cases c5 : (rd l0 x3_1) > 1
      ·
       rw [if_pos c5] at H
       have c5b0 : decide (1 < (rd l0 x3_1)) = true := decide_eq_true c5
       clear c5
       obtain rfl := Option.some.inj H
       have p175 : 0 ≤ (x3_1 : Int) := of_decide_eq_true (by assumption)
       have q175 : x3_1 < (l0.length : Int) := of_decide_eq_true (by assumption)
       obtain ⟨ad175, e175, hx175_0⟩ := Kd.at_int HR0.out x3_1 p175 q175
       cases e175
       replace p175 := eq_true p175
       replace q175 := eq_true q175
       have p176 : 0 ≤ (x3_1 : Int) := of_decide_eq_true (by assumption)
       have q176 : x3_1 < (l0.length : Int) := of_decide_eq_true (by assumption)
       obtain ⟨ad176, e176, hx176_0⟩ := Kd.at_int HR0.out x3_1 p176 q176
       obtain rfl : ad175 = ad176 := (by injection e176)
       replace p176 := eq_true p176
       replace q176 := eq_true q176
       go_wp2
       go_ret
       exact ⟨by first | rfl | (simp; done) | (simp [*]; done) | (simp [isE_]; done), by repeat (first | exact Drawn0.refl _ | apply Drawn0.step)⟩
      ·
       rw [if_neg c5] at H
       have c5b0 : decide (1 < (rd l0 x3_1)) = false := decide_eq_false c5
       clear c5
       have H' := Aside0.mk H
       clear H
       have p175 : 0 ≤ (x3_1 : Int) := of_decide_eq_true (by assumption)
       have q175 : x3_1 < (l0.length : Int) := of_decide_eq_true (by assumption)
       obtain ⟨ad175, e175, hx175_0⟩ := Kd.at_int HR0.out x3_1 p175 q175
       cases e175
       replace p175 := eq_true p175
       replace q175 := eq_true q175
       have p176 : 0 ≤ (x3_1 : Int) := of_decide_eq_true (by assumption)
       have q176 : x3_1 < (l0.length : Int) := of_decide_eq_true (by assumption)
       obtain ⟨ad176, e176, hx176_0⟩ := Kd.at_int HR0.out x3_1 p176 q176
       obtain rfl : ad175 = ad176 := (by injection e176)
       replace p176 := eq_true p176
       replace q176 := eq_true q176
       go_wp2
       go_roundg k1
       case measure => have := HK1.out; omega
       case rel => exact ⟨(wrap64 (x3_1 + 1)), (by first | rfl | (simp; done) | (simp [*]; done) | (simp [isE_]; done)), H', ⟨by have := HK1.out; omega⟩, by repeat (first | exact Drawn0.refl _ | apply Drawn0.step)⟩
    ·
     rw [if_neg c3] at H
     exact absurd H (by simp)
   ·
    rw [if_neg c2] at H
    have c2b0 : decide (x3_1 < (l0.length : Int)) = false := decide_eq_false c2
    clear c2
    obtain rfl := Option.some.inj H
    go_wp2
    go_ret
    exact ⟨by first | rfl | (simp; done) | (simp [*]; done) | (simp [isE_]; done), by repeat (first | exact Drawn0.refl _ | apply Drawn0.step)⟩
/-! ### spec_l03Ok: function 98 -/
def spec_l03Ok.f (k : Nat) (l0 : List (S36)) : Option (Bool) := if 0 < (l0.length : Int) then (if (((rd_T36 l0 0).f0).length : Int) ≤ 16 then ((spec_l00In.f (((rd_T36 l0 0).f1).length : Int) 1 14).bind fun t178 => (if t178 = true then ((spec_l03Digits.f k ((rd_T36 l0 0).f0)).bind fun t179 => (if t179 = true then ((spec_l03Digits.f k ((rd_T36 l0 0).f1)).bind fun t180 => (some t180)) else (some false))) else (some false))) else (some false)) else (none)
theorem spec_l03Ok.mono : ∀ a0 k, LeO (spec_l03Ok.f k a0) (spec_l03Ok.f (k + 1) a0) := by
 intro a0 k
 unfold spec_l03Ok.f
 repeat' first
   | (with_reducible exact spec_l03Digits.mono _ _)
   | (with_reducible exact LeO.refl _)
   | (with_reducible exact LeO.none _)
   | (with_reducible refine LeO.ite ?_ ?_)
   | (with_reducible refine LeO.bind ?_ (fun _ => ?_))
   | exact LeO.none _
   | refine LeO.ite ?_ ?_
   | refine LeO.bind ?_ (fun _ => ?_)
set_option maxHeartbeats 8000000 in
set_option maxRecDepth 100000 in
theorem spec_l03Ok.calls (k : Nat) (A0 : Option Addr) (c0 : Nat) (l0 : List (S36)) (r : Bool) (w : World) (hr0 : Kd.C k36 w A0 l0.length l0) (hc0 : l0.length ≤ c0) (h : spec_l03Ok.f k l0 = some r) :
  Calls Try.prog 98 #[.pointer A0] w fun e w' => e = .returned (.bool r) ∧ Drawn0 w w' := by
 have HR0 := Aside0.mk hr0
 have HC0 := Aside0.mk hc0
 clear hr0 hc0
 have H : (if 0 < (l0.length : Int) then (if (((rd_T36 l0 0).f0).length : Int) ≤ 16 then ((spec_l00In.f (((rd_T36 l0 0).f1).length : Int) 1 14).bind fun t178 => (if t178 = true then ((spec_l03Digits.f k ((rd_T36 l0 0).f0)).bind fun t179 => (if t179 = true then ((spec_l03Digits.f k ((rd_T36 l0 0).f1)).bind fun t180 => (some t180)) else (some false))) else (some false))) else (some false)) else (none)) = some r := h
 clear h
 by_cases c2 : 0 < (l0.length : Int)
 ·
  rw [if_pos c2] at H
  have c2b0 : decide (0 < (l0.length : Int)) = true := decide_eq_true c2
  have c2b1 : decide (0 < l0.length) = true := decide_eq_true (by omega)
  clear c2
  by_cases c3 : (((rd_T36 l0 0).f0).length : Int) ≤ 16
  ·
   rw [if_pos c3] at H
   have c3b0 : decide ((((rd_T36 l0 0).f0).length : Int) ≤ 16) = true := decide_eq_true c3
   have c3b1 : decide (((rd_T36 l0 0).f0).length ≤ 16) = true := decide_eq_true (by omega)
   clear c3
   replace H := Option.bind_eq_some_iff.mp H
   obtain ⟨t178, A40, H⟩ := H
   replace H : (if t178 = true then ((spec_l03Digits.f k ((rd_T36 l0 0).f0)).bind fun t179 => (if t179 = true then ((spec_l03Digits.f k ((rd_T36 l0 0).f1)).bind fun t180 => (some t180)) else (some false))) else (some false)) = some r := H
   have A4 := Aside0.mk A40
   clear A40
   by_cases c5 : t178 = true
   ·
    subst c5
    have H1 : ((spec_l03Digits.f k ((rd_T36 l0 0).f0)).bind fun t179 => (if t179 = true then ((spec_l03Digits.f k ((rd_T36 l0 0).f1)).bind fun t180 => (some t180)) else (some false))) = some r := by first | (rw [if_pos rfl] at H; exact H) | rfl
    clear H
    have H := H1
    clear H1
    replace H := Option.bind_eq_some_iff.mp H
    obtain ⟨t179, A60, H⟩ := H
    replace H : (if t179 = true then ((spec_l03Digits.f k ((rd_T36 l0 0).f1)).bind fun t180 => (some t180)) else (some false)) = some r := H
    have A6 := Aside0.mk A60
    clear A60
    by_cases c7 : t179 = true
    ·
     subst c7
     have H1 : ((spec_l03Digits.f k ((rd_T36 l0 0).f1)).bind fun t180 => (some t180)) = some r := by first | (rw [if_pos rfl] at H; exact H) | rfl
     clear H
     have H := H1
     clear H1
     replace H := Option.bind_eq_some_iff.mp H
     obtain ⟨t180, A80, H⟩ := H
     replace H : (some t180) = some r := H
     have A8 := Aside0.mk A80
     clear A80
     obtain rfl := Option.some.inj H
     have q177 : 0 < (l0.length : Int) := of_decide_eq_true (by assumption)
     obtain ⟨ad177, A177_0, c177_0, A177_1, c177_1, e177, hx177_0, hx177_1, hl177_0, hi177_0, hl177_1, hi177_1⟩ := rp_T36 HR0.out q177
     cases e177
     have HR177_0 := Aside0.mk hi177_0
     have HC177_0 := Aside0.mk hl177_0
     clear hi177_0 hl177_0
     have HR177_1 := Aside0.mk hi177_1
     have HC177_1 := Aside0.mk hl177_1
     clear hi177_1 hl177_1
     go_enter Try.func98, Try.ntmps98
     go_wp2_with (first | (go_at_call 109; (with_reducible refine (spec_l00In.calls (((rd_T36 l0 0).f1).length : Int) 1 14 true _ A4.out).mono ?_); rintro e w' ⟨rfl, ⟨nd, rfl⟩⟩) | (go_at_call 135; (with_reducible refine (spec_l03Digits.calls k _ _ ((rd_T36 l0 0).f0) true _ ?side1 ?side2 A6.out).mono ?_); (case side1 => repeat (first | exact HR177_0.out | (with_reducible refine Kd.C_alloc ?_ _) | (with_reducible refine Kd.C_drewN ?_ _) | (with_reducible refine Kd.C_drew ?_))); (case side2 => exact HC177_0.out); rintro e w' ⟨rfl, ⟨nd, rfl⟩⟩) | (go_at_call 135; (with_reducible refine (spec_l03Digits.calls k _ _ ((rd_T36 l0 0).f1) t180 _ ?side1 ?side2 A8.out).mono ?_); (case side1 => repeat (first | exact HR177_1.out | (with_reducible refine Kd.C_alloc ?_ _) | (with_reducible refine Kd.C_drewN ?_ _) | (with_reducible refine Kd.C_drew ?_))); (case side2 => exact HC177_1.out); rintro e w' ⟨rfl, ⟨nd, rfl⟩⟩))
     go_ret
     exact ⟨by first | rfl | (simp; done) | (simp [*]; done) | (simp [isE_]; done), by repeat (first | exact Drawn0.refl _ | apply Drawn0.step)⟩
    ·
     replace c7 := Bool.eq_false_iff.mpr c7
     subst c7
     have H1 : (some false) = some r := by first | (rw [if_neg (show ¬ (false = true) by decide)] at H; exact H) | rfl
     clear H
     have H := H1
     clear H1
     obtain rfl := Option.some.inj H
     have q177 : 0 < (l0.length : Int) := of_decide_eq_true (by assumption)
     obtain ⟨ad177, A177_0, c177_0, A177_1, c177_1, e177, hx177_0, hx177_1, hl177_0, hi177_0, hl177_1, hi177_1⟩ := rp_T36 HR0.out q177
     cases e177
     have HR177_0 := Aside0.mk hi177_0
     have HC177_0 := Aside0.mk hl177_0
     clear hi177_0 hl177_0
     have HR177_1 := Aside0.mk hi177_1
     have HC177_1 := Aside0.mk hl177_1
     clear hi177_1 hl177_1
     go_enter Try.func98, Try.ntmps98
     go_wp2_with (first | (go_at_call 109; (with_reducible refine (spec_l00In.calls (((rd_T36 l0 0).f1).length : Int) 1 14 true _ A4.out).mono ?_); rintro e w' ⟨rfl, ⟨nd, rfl⟩⟩) | (go_at_call 135; (with_reducible refine (spec_l03Digits.calls k _ _ ((rd_T36 l0 0).f0) false _ ?side1 ?side2 A6.out).mono ?_); (case side1 => repeat (first | exact HR177_0.out | (with_reducible refine Kd.C_alloc ?_ _) | (with_reducible refine Kd.C_drewN ?_ _) | (with_reducible refine Kd.C_drew ?_))); (case side2 => exact HC177_0.out); rintro e w' ⟨rfl, ⟨nd, rfl⟩⟩))
     go_ret
     exact ⟨by first | rfl | (simp; done) | (simp [*]; done) | (simp [isE_]; done), by repeat (first | exact Drawn0.refl _ | apply Drawn0.step)⟩
   ·
    replace c5 := Bool.eq_false_iff.mpr c5
    subst c5
    have H1 : (some false) = some r := by first | (rw [if_neg (show ¬ (false = true) by decide)] at H; exact H) | rfl
    clear H
    have H := H1
    clear H1
    obtain rfl := Option.some.inj H
    have q177 : 0 < (l0.length : Int) := of_decide_eq_true (by assumption)
    obtain ⟨ad177, A177_0, c177_0, A177_1, c177_1, e177, hx177_0, hx177_1, hl177_0, hi177_0, hl177_1, hi177_1⟩ := rp_T36 HR0.out q177
    cases e177
    have HR177_0 := Aside0.mk hi177_0
    have HC177_0 := Aside0.mk hl177_0
    clear hi177_0 hl177_0
    have HR177_1 := Aside0.mk hi177_1
    have HC177_1 := Aside0.mk hl177_1
    clear hi177_1 hl177_1
    go_enter Try.func98, Try.ntmps98
    go_wp2_with (first | (go_at_call 109; (with_reducible refine (spec_l00In.calls (((rd_T36 l0 0).f1).length : Int) 1 14 false _ A4.out).mono ?_); rintro e w' ⟨rfl, ⟨nd, rfl⟩⟩))
    go_ret
    exact ⟨by first | rfl | (simp; done) | (simp [*]; done) | (simp [isE_]; done), by repeat (first | exact Drawn0.refl _ | apply Drawn0.step)⟩
  ·
   rw [if_neg c3] at H
   have c3b0 : decide ((((rd_T36 l0 0).f0).length : Int) ≤ 16) = false := decide_eq_false c3
   have c3b1 : decide (((rd_T36 l0 0).f0).length ≤ 16) = false := decide_eq_false (by omega)
   clear c3
   obtain rfl := Option.some.inj H
   have q177 : 0 < (l0.length : Int) := of_decide_eq_true (by assumption)
   obtain ⟨ad177, A177_0, c177_0, A177_1, c177_1, e177, hx177_0, hx177_1, hl177_0, hi177_0, hl177_1, hi177_1⟩ := rp_T36 HR0.out q177
   cases e177
   have HR177_0 := Aside0.mk hi177_0
   have HC177_0 := Aside0.mk hl177_0
   clear hi177_0 hl177_0
   have HR177_1 := Aside0.mk hi177_1
   have HC177_1 := Aside0.mk hl177_1
   clear hi177_1 hl177_1
   go_enter Try.func98, Try.ntmps98
   go_wp2
   go_ret
   exact ⟨by first | rfl | (simp; done) | (simp [*]; done) | (simp [isE_]; done), by repeat (first | exact Drawn0.refl _ | apply Drawn0.step)⟩
 ·
  rw [if_neg c2] at H
  exact absurd H (by simp)
/-! ### spec_l06Given: function 56 -/
def spec_l06Given.j0 : Nat → Int → Bool → Option (Int)
 | 0, _, _ => none
 | k + 1, x2, x14 => if x14 = true then (some 1) else ((spec_l00In.f x2 0 60).bind fun t183 => (if t183 = true then (some 0) else (some 2)))
def spec_l06Given.f (k : Nat) (l0 : List (S34)) (l1 : List (S36)) (a2 : Int) : Option (Int) := (spec_l06Ok.f k l0).bind fun t181 => (if t181 = true then ((spec_l03Ok.f k l1).bind fun t182 => (spec_l06Given.j0 k a2 (!t182))) else (spec_l06Given.j0 k a2 true))
theorem spec_l06Given.mono_l : ∀ k, (∀ y0 y1, LeO (spec_l06Given.j0 k y0 y1) (spec_l06Given.j0 (k + 1) y0 y1))
 | 0 => fun _ _ r h => by simp [spec_l06Given.j0] at h
 | k + 1 => by
  have ih0 := spec_l06Given.mono_l k
  ·
   intro y0 y1
   unfold spec_l06Given.j0
   repeat' first
   | (with_reducible exact ih0 _ _)
   | (with_reducible exact spec_l03Ok.mono _ _)
   | (with_reducible exact spec_l06Ok.mono _ _)
   | (with_reducible exact LeO.refl _)
   | (with_reducible exact LeO.none _)
   | (with_reducible refine LeO.ite ?_ ?_)
   | (with_reducible refine LeO.bind ?_ (fun _ => ?_))
   | exact ih0 _ _
   | exact LeO.none _
   | refine LeO.ite ?_ ?_
   | refine LeO.bind ?_ (fun _ => ?_)
theorem spec_l06Given.mono : ∀ a0 a1 a2 k, LeO (spec_l06Given.f k a0 a1 a2) (spec_l06Given.f (k + 1) a0 a1 a2) := by
 intro a0 a1 a2 k
 have ih0 := spec_l06Given.mono_l k
 unfold spec_l06Given.f
 repeat' first
   | (with_reducible exact ih0 _ _)
   | (with_reducible exact spec_l03Ok.mono _ _)
   | (with_reducible exact spec_l06Ok.mono _ _)
   | (with_reducible exact LeO.refl _)
   | (with_reducible exact LeO.none _)
   | (with_reducible refine LeO.ite ?_ ?_)
   | (with_reducible refine LeO.bind ?_ (fun _ => ?_))
   | exact ih0 _ _
   | exact LeO.none _
   | refine LeO.ite ?_ ?_
   | refine LeO.bind ?_ (fun _ => ?_)
set_option maxHeartbeats 8000000 in
set_option maxRecDepth 100000 in
theorem spec_l06Given.calls (k : Nat) (A0 : Option Addr) (c0 : Nat) (l0 : List (S34)) (A1 : Option Addr) (c1 : Nat) (l1 : List (S36)) (a2 : Int) (r : Int) (w : World) (hr0 : Kd.C k34 w A0 l0.length l0) (hc0 : l0.length ≤ c0) (hr1 : Kd.C k36 w A1 l1.length l1) (hc1 : l1.length ≤ c1) (h : spec_l06Given.f k l0 l1 a2 = some r) :
  Calls Try.prog 56 #[.pointer A0, .pointer A1, .int .i64 a2] w fun e w' => e = .returned (.int .i64 r) ∧ Drawn0 w w' := by
 have HR0 := Aside0.mk hr0
 have HC0 := Aside0.mk hc0
 clear hr0 hc0
 have HR1 := Aside0.mk hr1
 have HC1 := Aside0.mk hc1
 clear hr1 hc1
 have H : ((spec_l06Ok.f k l0).bind fun t181 => (if t181 = true then ((spec_l03Ok.f k l1).bind fun t182 => (spec_l06Given.j0 k a2 (!t182))) else (spec_l06Given.j0 k a2 true))) = some r := h
 clear h
 have HC4 := Aside0.mk H
 clear H
 go_enter Try.func56, Try.ntmps56
 go_upto_region 1 with (fail)
 go_cut [14] (fun v14 wc => ∃ (kq : Nat) (x14_3 : Bool), v14 = .bool x14_3 ∧ Aside0 (spec_l06Given.j0 kq a2 x14_3 = some r) ∧ Aside0 (kq ≤ k) ∧ Drawn0 w wc)
 case first =>
  have H := HC4.out
  clear HC4
  replace H := Option.bind_eq_some_iff.mp H
  obtain ⟨t181, A50, H⟩ := H
  replace H : (if t181 = true then ((spec_l03Ok.f k l1).bind fun t182 => (spec_l06Given.j0 k a2 (!t182))) else (spec_l06Given.j0 k a2 true)) = some r := H
  have A5 := Aside0.mk A50
  clear A50
  by_cases c6 : t181 = true
  ·
   subst c6
   have H1 : ((spec_l03Ok.f k l1).bind fun t182 => (spec_l06Given.j0 k a2 (!t182))) = some r := by first | (rw [if_pos rfl] at H; exact H) | rfl
   clear H
   have H := H1
   clear H1
   replace H := Option.bind_eq_some_iff.mp H
   obtain ⟨t182, A70, H⟩ := H
   replace H : (spec_l06Given.j0 k a2 (!t182)) = some r := H
   have A7 := Aside0.mk A70
   clear A70
   have H' := Aside0.mk H
   clear H
   go_wp2_with (first | ((with_reducible refine gate_callee (f := 66) rfl ?_); refine goesL_ (some 8) rfl rfl Try.func66 (by kernel_rfl) rfl #[.pointer A0] rfl (by (try simp only [List.map_toArray, List.map_cons, List.map_nil]); first | done | rfl | (simp only [List.length_drop, List.length_take]; rfl)) ?_; (with_reducible refine (spec_l06Ok.calls k _ (l0).length l0 true _ ?side1 ?side2 A5.out).mono ?_); (case side1 => repeat (first | exact HR0.out | (with_reducible refine Kd.C_alloc ?_ _) | (with_reducible refine Kd.C_drewN ?_ _) | (with_reducible refine Kd.C_drew ?_))); (case side2 => exact Nat.le_refl _); rintro e w' ⟨rfl, ⟨nd, rfl⟩⟩; refine ⟨_, rfl, ?_⟩) | (go_at_call 98; (with_reducible refine (spec_l03Ok.calls k _ (l1).length l1 t182 _ ?side1 ?side2 A7.out).mono ?_); (case side1 => repeat (first | exact HR1.out | (with_reducible refine Kd.C_alloc ?_ _) | (with_reducible refine Kd.C_drewN ?_ _) | (with_reducible refine Kd.C_drew ?_))); (case side2 => exact Nat.le_refl _); rintro e w' ⟨rfl, ⟨nd, rfl⟩⟩))
   go_meet
   case rel => exact ⟨_, (!t182), (by first | rfl | (simp; done) | (simp [*]; done) | (simp [isE_]; done)), H', ⟨by first | omega | exact Nat.le_refl _⟩, by repeat (first | exact Drawn0.refl _ | apply Drawn0.step)⟩
  ·
   replace c6 := Bool.eq_false_iff.mpr c6
   subst c6
   have H1 : (spec_l06Given.j0 k a2 true) = some r := by first | (rw [if_neg (show ¬ (false = true) by decide)] at H; exact H) | rfl
   clear H
   have H := H1
   clear H1
   have H' := Aside0.mk H
   clear H
   go_wp2_with (first | ((with_reducible refine gate_callee (f := 66) rfl ?_); refine goesL_ (some 8) rfl rfl Try.func66 (by kernel_rfl) rfl #[.pointer A0] rfl (by (try simp only [List.map_toArray, List.map_cons, List.map_nil]); first | done | rfl | (simp only [List.length_drop, List.length_take]; rfl)) ?_; (with_reducible refine (spec_l06Ok.calls k _ (l0).length l0 false _ ?side1 ?side2 A5.out).mono ?_); (case side1 => repeat (first | exact HR0.out | (with_reducible refine Kd.C_alloc ?_ _) | (with_reducible refine Kd.C_drewN ?_ _) | (with_reducible refine Kd.C_drew ?_))); (case side2 => exact Nat.le_refl _); rintro e w' ⟨rfl, ⟨nd, rfl⟩⟩; refine ⟨_, rfl, ?_⟩))
   go_meet
   case rel => exact ⟨_, (true), (by first | rfl | (simp; done) | (simp [*]; done) | (simp [isE_]; done)), H', ⟨by first | omega | exact Nat.le_refl _⟩, by repeat (first | exact Drawn0.refl _ | apply Drawn0.step)⟩
 case rest =>
  clear HC4
  try clear c1
  try clear p2
  try clear c5
  try clear c6
  obtain ⟨kq, x14_3, rfl, HA, HJ3, ⟨mc3, rfl⟩⟩ := hcut
  cases kq with
  | zero => exact absurd HA.out (by simp [spec_l06Given.j0])
  | succ kj3 =>
   have H := HA.out
   clear HA
   simp only [spec_l06Given.j0] at H
   by_cases c8 : x14_3 = true
   ·
    subst c8
    have H1 : (some 1) = some r := by first | (rw [if_pos rfl] at H; exact H) | rfl
    clear H
    have H := H1
    clear H1
    obtain rfl := Option.some.inj H
    go_wp2
    go_ret
    exact ⟨by first | rfl | (simp; done) | (simp [*]; done) | (simp [isE_]; done), by repeat (first | exact Drawn0.refl _ | apply Drawn0.step)⟩
   ·
    replace c8 := Bool.eq_false_iff.mpr c8
    subst c8
    have H1 : ((spec_l00In.f a2 0 60).bind fun t183 => (if t183 = true then (some 0) else (some 2))) = some r := by first | (rw [if_neg (show ¬ (false = true) by decide)] at H; exact H) | rfl
    clear H
    have H := H1
    clear H1
    replace H := Option.bind_eq_some_iff.mp H
    obtain ⟨t183, A90, H⟩ := H
    replace H : (if t183 = true then (some 0) else (some 2)) = some r := H
    have A9 := Aside0.mk A90
    clear A90
    by_cases c10 : t183 = true
    ·
     subst c10
     have H1 : (some 0) = some r := by first | (rw [if_pos rfl] at H; exact H) | rfl
     clear H
     have H := H1
     clear H1
     obtain rfl := Option.some.inj H
     go_wp2_with (first | ((with_reducible refine gate_callee (f := 109) rfl ?_); refine goesL_ (some 16) rfl rfl Try.func109 (by kernel_rfl) rfl #[.int .i64 a2, .int .i64 0, .int .i64 60] rfl (by (try simp only [List.map_toArray, List.map_cons, List.map_nil]); first | done | rfl | (simp only [List.length_drop, List.length_take]; rfl)) ?_; (with_reducible refine (spec_l00In.calls a2 0 60 true _ A9.out).mono ?_); rintro e w' ⟨rfl, ⟨nd, rfl⟩⟩; refine ⟨_, rfl, ?_⟩))
     go_ret
     exact ⟨by first | rfl | (simp; done) | (simp [*]; done) | (simp [isE_]; done), by repeat (first | exact Drawn0.refl _ | apply Drawn0.step)⟩
    ·
     replace c10 := Bool.eq_false_iff.mpr c10
     subst c10
     have H1 : (some 2) = some r := by first | (rw [if_neg (show ¬ (false = true) by decide)] at H; exact H) | rfl
     clear H
     have H := H1
     clear H1
     obtain rfl := Option.some.inj H
     go_wp2_with (first | ((with_reducible refine gate_callee (f := 109) rfl ?_); refine goesL_ (some 16) rfl rfl Try.func109 (by kernel_rfl) rfl #[.int .i64 a2, .int .i64 0, .int .i64 60] rfl (by (try simp only [List.map_toArray, List.map_cons, List.map_nil]); first | done | rfl | (simp only [List.length_drop, List.length_take]; rfl)) ?_; (with_reducible refine (spec_l00In.calls a2 0 60 false _ A9.out).mono ?_); rintro e w' ⟨rfl, ⟨nd, rfl⟩⟩; refine ⟨_, rfl, ?_⟩))
     go_ret
     exact ⟨by first | rfl | (simp; done) | (simp [*]; done) | (simp [isE_]; done), by repeat (first | exact Drawn0.refl _ | apply Drawn0.step)⟩
end Go.Proofs.Ytpfnohdnaocpdaa.PT

-- Written by a program (xprint.py) out of the translation's own print; Lean checks it.
import Derived.Test.YtpfnohdnaocpdaaPTx0
import Derived.Test.YtpfnohdnaocpdaaPTx3
namespace Go.Proofs.Ytpfnohdnaocpdaa.PT
open Go.RowKit Go.Proofs.YtpfnohdnaocpdaaW.PrintWords Go.Proofs.YtpfnohdnaocpdaaW.PrintLast Go.Proofs.YtpfnohdnaocpdaaW.PrintMore Go.Proofs.YtpfnohdnaocpdaaRP
attribute [local go_sem] Go.Proofs.YtpfnohdnaocpdaaRP.tmod_len   -- for this text's walks alone
set_option linter.unusedVariables false
set_option linter.unusedSimpArgs false
theorem z4_1_ {P : Prop} (h : P := by repeat (first | (with_reducible first | exact HB.out | apply below_alloc | apply pw_below_drewN | apply below_drew1) | exact HB.out)) : P := h
theorem z4_2_ {P : Prop} (h : P := by (with_reducible repeat (first | apply Kd.R_alloc | apply Kd.R_drewN | apply Kd.R_drew)); exact HO_3.out) : P := h
theorem z4_3_ {P : Prop} (h : P := by first | rfl | (simp; done) | (simp [*]; done) | (simp [isE_]; done)) : P := h
theorem z4_4_ {P : Prop} (h : P := by (with_reducible repeat (first | apply Kd.R_alloc | apply Kd.R_drewN | apply Kd.R_drew)); exact HO174.out) : P := h
theorem z4_5_ {P : Prop} (h : P := by (try simp only [List.map_toArray, List.map_cons, List.map_nil]); first | done | rfl | (simp only [List.length_drop, List.length_take]; rfl)) : P := h
theorem z4_6_ {P : Prop} (h : P := by (with_reducible repeat (first | apply Kd.R_alloc | apply Kd.R_drewN | apply Kd.R_drew)); exact HO_4.out) : P := h
/-! ### spec_l06Ok: function 66 -/
mutual
def spec_l06Ok.l0 : Nat → List (S34) → Int → Int → Option (Bool)
 | 0, _, _, _ => none
 | k + 1, x0, x3, x4 => if x4 < x3 then (if 0 < (x0.length : Int) then (if 0 ≤ x4 then (if x4 < (((rd_T34 x0 0).f0).length : Int) then (spec_l06Ok.l1 k x0 x3 x4 [rd_T89 ((rd_T34 x0 0).f0) x4] 0) else (none)) else (none)) else (none)) else (some true)
def spec_l06Ok.l1 : Nat → List (S34) → Int → Int → List (S89) → Int → Option (Bool)
 | 0, _, _, _, _, _ => none
 | k + 1, x0, x3, x4, x5, x6 => if x6 < 3 then (if 0 < (x5.length : Int) then (if 0 ≤ x6 then ((spec_l00In.f (wrap64 (rd [(rd_T89 x5 0).f2.f0, (rd_T89 x5 0).f2.f1, (rd_T89 x5 0).f2.f2] x6)) 0 (wrap64 (x3 - 1))).bind fun t169 => (if t169 = true then (spec_l06Ok.l1 k x0 x3 x4 x5 (wrap64 (x6 + 1))) else (some false))) else (none)) else (none)) else (if 0 < (x5.length : Int) then (if ((rd_T89 x5 0).f0) = 1 then (if ((rd_T89 x5 0).f1) = 0 then (spec_l06Ok.l0 k x0 x3 (wrap64 (x4 + 1))) else (some false)) else (if ((rd_T89 x5 0).f0) = 2 then (if ((rd_T89 x5 0).f1) < (-1) then (some false) else (if ((rd_T89 x5 0).f1) > 1 then (some false) else (if ((rd_T89 x5 0).f2.f1) = 0 then (if ((rd_T89 x5 0).f2.f2) = 0 then (spec_l06Ok.l0 k x0 x3 (wrap64 (x4 + 1))) else (some false)) else (some false)))) else (some false))) else (none))
end
def spec_l06Ok.f (k : Nat) (l0 : List (S34)) : Option (Bool) := if 0 < (l0.length : Int) then ((spec_l00In.f (((rd_T34 l0 0).f0).length : Int) 1 60).bind fun t163 => (if t163 = true then (spec_l06Ok.l0 k l0 (((rd_T34 l0 0).f0).length : Int) 0) else (some false))) else (none)
theorem spec_l06Ok.mono_l : ∀ k, (∀ y0 y1 y2, LeO (spec_l06Ok.l0 k y0 y1 y2) (spec_l06Ok.l0 (k + 1) y0 y1 y2)) ∧ (∀ y0 y1 y2 y3 y4, LeO (spec_l06Ok.l1 k y0 y1 y2 y3 y4) (spec_l06Ok.l1 (k + 1) y0 y1 y2 y3 y4))
 | 0 => ⟨fun _ _ _ r h => by simp [spec_l06Ok.l0] at h, fun _ _ _ _ _ r h => by simp [spec_l06Ok.l1] at h⟩
 | k + 1 => by
  obtain ⟨ih0, ih1⟩ := spec_l06Ok.mono_l k
  refine ⟨?_, ?_⟩
  ·
   intro y0 y1 y2
   unfold spec_l06Ok.l0
   repeat' first
   | (with_reducible exact ih0 _ _ _)
   | (with_reducible exact ih1 _ _ _ _ _)
   | (with_reducible exact LeO.refl _)
   | (with_reducible exact LeO.none _)
   | (with_reducible refine LeO.ite ?_ ?_)
   | (with_reducible refine LeO.bind ?_ (fun _ => ?_))
   | refine LeO.bind ?_ (fun _ => ?_)
  ·
   intro y0 y1 y2 y3 y4
   unfold spec_l06Ok.l1
   repeat' first
   | (with_reducible exact ih0 _ _ _)
   | (with_reducible exact ih1 _ _ _ _ _)
   | (with_reducible exact LeO.refl _)
   | (with_reducible exact LeO.none _)
   | (with_reducible refine LeO.ite ?_ ?_)
   | (with_reducible refine LeO.bind ?_ (fun _ => ?_))
   | refine LeO.bind ?_ (fun _ => ?_)
theorem spec_l06Ok.mono : ∀ a0 k, LeO (spec_l06Ok.f k a0) (spec_l06Ok.f (k + 1) a0) := by
 intro a0 k
 obtain ⟨ih0, ih1⟩ := spec_l06Ok.mono_l k
 unfold spec_l06Ok.f
 repeat' first
   | (with_reducible exact ih0 _ _ _)
   | (with_reducible exact ih1 _ _ _ _ _)
   | (with_reducible exact LeO.refl _)
   | (with_reducible exact LeO.none _)
   | (with_reducible refine LeO.ite ?_ ?_)
   | (with_reducible refine LeO.bind ?_ (fun _ => ?_))
   | refine LeO.bind ?_ (fun _ => ?_)
set_option maxHeartbeats 8000000 in
set_option maxRecDepth 100000 in
theorem spec_l06Ok.calls (k : Nat) (A0 : Option Addr) (c0 : Nat) (l0 : List (S34)) (r : Bool) (w : World) (hr0 : Kd.C k34 w A0 l0.length l0) (hc0 : l0.length ≤ c0) (h : spec_l06Ok.f k l0 = some r) :
  Calls Try.prog 66 #[.pointer A0] w fun e w' => e = .returned (.bool r) ∧ Drawn0 w w' := by
 have HR0 := Aside0.mk hr0
 have HC0 := Aside0.mk hc0
 clear hr0 hc0
 have H : (if 0 < (l0.length : Int) then ((spec_l00In.f (((rd_T34 l0 0).f0).length : Int) 1 60).bind fun t163 => (if t163 = true then (spec_l06Ok.l0 k l0 (((rd_T34 l0 0).f0).length : Int) 0) else (some false))) else (none)) = some r := h
 clear h
 by_cases c2 : 0 < (l0.length : Int)
 ·
  rw [if_pos c2] at H
  have c2b0 : decide (0 < (l0.length : Int)) = true := decide_eq_true c2
  have c2b1 : decide (0 < l0.length) = true := decide_eq_true (by omega)
  clear c2
  replace H := Option.bind_eq_some_iff.mp H
  obtain ⟨t163, A30, H⟩ := H
  replace H : (if t163 = true then (spec_l06Ok.l0 k l0 (((rd_T34 l0 0).f0).length : Int) 0) else (some false)) = some r := H
  have A3 := Aside0.mk A30
  clear A30
  by_cases c4 : t163 = true
  ·
   subst c4
   have H1 : (spec_l06Ok.l0 k l0 (((rd_T34 l0 0).f0).length : Int) 0) = some r := by first | (rw [if_pos rfl] at H; exact H) | rfl
   clear H
   have H := H1
   clear H1
   have H' := Aside0.mk H
   clear H
   have q162 : 0 < (l0.length : Int) := of_decide_eq_true (by assumption)
   obtain ⟨ad162, A162_0, c162_0, e162, hx162_0, hl162_0, hi162_0⟩ := rp_T34 HR0.out q162
   cases e162
   have HR162_0 := Aside0.mk hi162_0
   have HC162_0 := Aside0.mk hl162_0
   clear hi162_0 hl162_0
   go_enter Try.func66, Try.ntmps66
   go_wp2_with (first | ((with_reducible refine gate_callee (f := 109) rfl ?_); refine goesL_ (some 13) rfl rfl Try.func109 (by kernel_rfl) rfl #[.int .i64 (((rd_T34 l0 0).f0).length : Int), .int .i64 1, .int .i64 60] rfl z4_5_ ?_; (with_reducible refine (spec_l00In.calls (((rd_T34 l0 0).f0).length : Int) 1 60 true _ A3.out).mono ?_); rintro e w' ⟨rfl, ⟨nd, rfl⟩⟩; refine ⟨_, rfl, ?_⟩))
   go_loopg [4] k (fun kq v4 w' => ∃ (x4_1 : Int), v4 = .int .i64 x4_1 ∧ Aside0 (spec_l06Ok.l0 kq l0 (((rd_T34 l0 0).f0).length : Int) x4_1 = some r) ∧ Aside0 (kq ≤ k) ∧ Drawn0 w w')
   case atStart => exact ⟨(0), z4_3_, H', ⟨Nat.le_refl _⟩, by repeat (first | exact Drawn0.refl _ | apply Drawn0.step)⟩
   case round =>
    clear H'
    try clear c1
    try clear q1
    try clear hx1
    try clear c2
    try clear c2b0
    try clear c2b1
    try clear p2
    try clear c4
    try clear hx162_0
    try clear q162
    obtain ⟨x4_1, rfl, HA, HK1, ⟨m1, rfl⟩⟩ := hrel
    cases gk with
    | zero => exact absurd HA.out (by simp [spec_l06Ok.l0])
    | succ k1 =>
     have H := HA.out
     clear HA
     simp only [spec_l06Ok.l0] at H
     (repeat (first | rw [rd1_T89] at H))
     by_cases c5 : x4_1 < (((rd_T34 l0 0).f0).length : Int)
     ·
      rw [if_pos c5] at H
      have c5b0 : decide (x4_1 < (((rd_T34 l0 0).f0).length : Int)) = true := decide_eq_true c5
      clear c5
      by_cases c6 : 0 < (l0.length : Int)
      ·
       rw [if_pos c6] at H
       have c6b0 : decide (0 < (l0.length : Int)) = true := decide_eq_true c6
       have c6b1 : decide (0 < l0.length) = true := decide_eq_true (by omega)
       clear c6
       by_cases c7 : 0 ≤ x4_1
       ·
        rw [if_pos c7] at H
        have c7b0 : decide (0 ≤ x4_1) = true := decide_eq_true c7
        clear c7
        by_cases c8 : x4_1 < (((rd_T34 l0 0).f0).length : Int)
        ·
         rw [if_pos c8] at H
         have c8b0 : decide (x4_1 < (((rd_T34 l0 0).f0).length : Int)) = true := decide_eq_true c8
         clear c8
         have H' := Aside0.mk H
         clear H
         have q164 : 0 < (l0.length : Int) := of_decide_eq_true (by assumption)
         obtain ⟨ad164, A164_0, c164_0, e164, hx164_0, hl164_0, hi164_0⟩ := rp_T34 HR0.out q164
         obtain rfl : ad162 = ad164 := (by injection e164)
         have HR164_0 := Aside0.mk hi164_0
         have HC164_0 := Aside0.mk hl164_0
         clear hi164_0 hl164_0
         have p165 : 0 ≤ (x4_1 : Int) := of_decide_eq_true (by assumption)
         have q165 : x4_1 < (((rd_T34 l0 0).f0).length : Int) := of_decide_eq_true (by assumption)
         obtain ⟨ad165, e165, hx165_0, hx165_1, hx165_2, hx165_3, hx165_4⟩ := at_T89 HR164_0.out x4_1 p165 q165
         cases e165
         replace p165 := eq_true p165
         replace q165 := eq_true q165
         have HR166 := Aside0.mk (show Kd.C k89 w (some (Addr.add ad165 (x4_1.toNat * 5))) [rd_T89 ((rd_T34 l0 0).f0) x4_1].length [rd_T89 ((rd_T34 l0 0).f0) x4_1] from Kd.C_el k89 z89 HR164_0.out (x4_1 : Int) (of_eq_true p165) (of_eq_true q165))
         go_wp2
         go_loopg [6] k1 (fun kq v6 w' => ∃ (x6_2 : Int), v6 = .int .i64 x6_2 ∧ Aside0 (spec_l06Ok.l1 kq l0 (((rd_T34 l0 0).f0).length : Int) x4_1 [rd_T89 ((rd_T34 l0 0).f0) x4_1] x6_2 = some r) ∧ Aside0 (kq ≤ k1) ∧ Drawn0 w w')
         case atStart => exact ⟨(0), z4_3_, H', ⟨Nat.le_refl _⟩, by repeat (first | exact Drawn0.refl _ | apply Drawn0.step)⟩
         case round =>
          clear H'
          try clear c1
          try clear p1
          try clear q1
          try clear hx1
          try clear c2
          try clear c2b0
          try clear c2b1
          try clear p2
          try clear c4
          try clear c5
          try clear c5b0
          try clear c6
          try clear c6b0
          try clear c6b1
          try clear c7
          try clear c7b0
          try clear c8
          try clear c8b0
          try clear hx162_0
          try clear hx164_0
          try clear hx165_0
          try clear hx165_1
          try clear hx165_2
          try clear hx165_3
          try clear hx165_4
          try clear p165
          try clear p2
          try clear q1
          try clear q162
          try clear q164
          try clear q165
          obtain ⟨x6_2, rfl, HA, HK2, ⟨m2, rfl⟩⟩ := hrel
          cases gk with
          | zero => exact absurd HA.out (by simp [spec_l06Ok.l1])
          | succ k2 =>
           have H := HA.out
           clear HA
           simp only [spec_l06Ok.l1] at H
           (repeat (first | rw [rd1_T89] at H))
           by_cases c9 : x6_2 < 3
           ·
            rw [if_pos c9] at H
            have c9b0 : decide (x6_2 < 3) = true := decide_eq_true c9
            clear c9
            by_cases c10 : 0 < ([rd_T89 ((rd_T34 l0 0).f0) x4_1].length : Int)
            ·
             rw [if_pos c10] at H
             have c10b0 : decide (0 < ([rd_T89 ((rd_T34 l0 0).f0) x4_1].length : Int)) = true := decide_eq_true c10
             have c10b1 : decide (0 < [rd_T89 ((rd_T34 l0 0).f0) x4_1].length) = true := decide_eq_true (by omega)
             clear c10
             by_cases c11 : 0 ≤ x6_2
             ·
              rw [if_pos c11] at H
              have c11b0 : decide (0 ≤ x6_2) = true := decide_eq_true c11
              clear c11
              replace H := Option.bind_eq_some_iff.mp H
              obtain ⟨t169, A120, H⟩ := H
              replace H : (if t169 = true then (spec_l06Ok.l1 k2 l0 (((rd_T34 l0 0).f0).length : Int) x4_1 [rd_T89 ((rd_T34 l0 0).f0) x4_1] (wrap64 (x6_2 + 1))) else (some false)) = some r := H
              have A12 := Aside0.mk A120
              clear A120
              by_cases c13 : t169 = true
              ·
               subst c13
               have H1 : (spec_l06Ok.l1 k2 l0 (((rd_T34 l0 0).f0).length : Int) x4_1 [rd_T89 ((rd_T34 l0 0).f0) x4_1] (wrap64 (x6_2 + 1))) = some r := by first | (rw [if_pos rfl] at H; exact H) | rfl
               clear H
               have H := H1
               clear H1
               have H' := Aside0.mk H
               clear H
               have q167 : 0 < ([rd_T89 ((rd_T34 l0 0).f0) x4_1].length : Int) := of_decide_eq_true (by assumption)
               obtain ⟨ad167, e167, hx167_0, hx167_1, hx167_2, hx167_3, hx167_4⟩ := rp_T89 HR166.out q167
               (try simp only [rd1_T89] at hx167_0 hx167_1 hx167_2 hx167_3 hx167_4)
               obtain rfl : (Addr.add ad165 (x4_1.toNat * 5)) = ad167 := (by injection e167)
               have p168 : 0 ≤ (x6_2 : Int) := of_decide_eq_true (by assumption)
               have q168 : (x6_2 : Int) < 3 := of_decide_eq_true (by assumption)
               have hx168_0 := cell_arr3 hx167_2 hx167_3 hx167_4 x6_2 p168 q168
               (try simp only [Nat.zero_add, Nat.add_zero] at hx168_0)
               replace p168 := eq_true p168
               replace q168 := eq_true q168
               go_wp2_with (first | ((with_reducible refine gate_callee (f := 109) rfl ?_); refine goesL_ (some 39) rfl rfl Try.func109 (by kernel_rfl) rfl #[.int .i64 (wrap64 (rd [(rd_T89 ((rd_T34 l0 0).f0) x4_1).f2.f0, (rd_T89 ((rd_T34 l0 0).f0) x4_1).f2.f1, (rd_T89 ((rd_T34 l0 0).f0) x4_1).f2.f2] x6_2)), .int .i64 0, .int .i64 (wrap64 ((((rd_T34 l0 0).f0).length : Int) - 1))] rfl z4_5_ ?_; (with_reducible refine (spec_l00In.calls (wrap64 (rd [(rd_T89 ((rd_T34 l0 0).f0) x4_1).f2.f0, (rd_T89 ((rd_T34 l0 0).f0) x4_1).f2.f1, (rd_T89 ((rd_T34 l0 0).f0) x4_1).f2.f2] x6_2)) 0 (wrap64 ((((rd_T34 l0 0).f0).length : Int) - 1)) true _ A12.out).mono ?_); rintro e w' ⟨rfl, ⟨nd, rfl⟩⟩; refine ⟨_, rfl, ?_⟩))
               go_roundg k2
               case measure => have := HK1.out; have := HK2.out; omega
               case rel => exact ⟨(wrap64 (x6_2 + 1)), z4_3_, H', ⟨by have := HK1.out; have := HK2.out; omega⟩, by repeat (first | exact Drawn0.refl _ | apply Drawn0.step)⟩
              ·
               replace c13 := Bool.eq_false_iff.mpr c13
               subst c13
               have H1 : (some false) = some r := by first | (rw [if_neg (show ¬ (false = true) by decide)] at H; exact H) | rfl
               clear H
               have H := H1
               clear H1
               obtain rfl := Option.some.inj H
               have q167 : 0 < ([rd_T89 ((rd_T34 l0 0).f0) x4_1].length : Int) := of_decide_eq_true (by assumption)
               obtain ⟨ad167, e167, hx167_0, hx167_1, hx167_2, hx167_3, hx167_4⟩ := rp_T89 HR166.out q167
               (try simp only [rd1_T89] at hx167_0 hx167_1 hx167_2 hx167_3 hx167_4)
               obtain rfl : (Addr.add ad165 (x4_1.toNat * 5)) = ad167 := (by injection e167)
               have p168 : 0 ≤ (x6_2 : Int) := of_decide_eq_true (by assumption)
               have q168 : (x6_2 : Int) < 3 := of_decide_eq_true (by assumption)
               have hx168_0 := cell_arr3 hx167_2 hx167_3 hx167_4 x6_2 p168 q168
               (try simp only [Nat.zero_add, Nat.add_zero] at hx168_0)
               replace p168 := eq_true p168
               replace q168 := eq_true q168
               go_wp2_with (first | ((with_reducible refine gate_callee (f := 109) rfl ?_); refine goesL_ (some 39) rfl rfl Try.func109 (by kernel_rfl) rfl #[.int .i64 (wrap64 (rd [(rd_T89 ((rd_T34 l0 0).f0) x4_1).f2.f0, (rd_T89 ((rd_T34 l0 0).f0) x4_1).f2.f1, (rd_T89 ((rd_T34 l0 0).f0) x4_1).f2.f2] x6_2)), .int .i64 0, .int .i64 (wrap64 ((((rd_T34 l0 0).f0).length : Int) - 1))] rfl z4_5_ ?_; (with_reducible refine (spec_l00In.calls (wrap64 (rd [(rd_T89 ((rd_T34 l0 0).f0) x4_1).f2.f0, (rd_T89 ((rd_T34 l0 0).f0) x4_1).f2.f1, (rd_T89 ((rd_T34 l0 0).f0) x4_1).f2.f2] x6_2)) 0 (wrap64 ((((rd_T34 l0 0).f0).length : Int) - 1)) false _ A12.out).mono ?_); rintro e w' ⟨rfl, ⟨nd, rfl⟩⟩; refine ⟨_, rfl, ?_⟩))
               go_ret
               exact ⟨by first | rfl | (simp; done) | (simp [*]; done) | (simp [isE_]; done), by repeat (first | exact Drawn0.refl _ | apply Drawn0.step)⟩
             ·
              rw [if_neg c11] at H
              exact absurd H (by simp)
            ·
             rw [if_neg c10] at H
             exact absurd H (by simp)
           ·
            rw [if_neg c9] at H
            have c9b0 : decide (x6_2 < 3) = false := decide_eq_false c9
            clear c9
            by_cases c14 : 0 < ([rd_T89 ((rd_T34 l0 0).f0) x4_1].length : Int)
            ·
             rw [if_pos c14] at H
             have c14b0 : decide (0 < ([rd_T89 ((rd_T34 l0 0).f0) x4_1].length : Int)) = true := decide_eq_true c14
             have c14b1 : decide (0 < [rd_T89 ((rd_T34 l0 0).f0) x4_1].length) = true := decide_eq_true (by omega)
             clear c14
             by_cases c15 : ((rd_T89 ((rd_T34 l0 0).f0) x4_1).f0) = 1
             ·
              rw [if_pos c15] at H
              have c15b0 : (((rd_T89 ((rd_T34 l0 0).f0) x4_1).f0) == 1) = true := beq_iff_eq.mpr c15
              have c15b1 : (((rd_T89 ((rd_T34 l0 0).f0) x4_1).f0) != 1) = false := bne_eq_false_iff_eq.mpr c15
              clear c15
              by_cases c16 : ((rd_T89 ((rd_T34 l0 0).f0) x4_1).f1) = 0
              ·
               rw [if_pos c16] at H
               have c16b0 : (((rd_T89 ((rd_T34 l0 0).f0) x4_1).f1) == 0) = true := beq_iff_eq.mpr c16
               have c16b1 : (((rd_T89 ((rd_T34 l0 0).f0) x4_1).f1) != 0) = false := bne_eq_false_iff_eq.mpr c16
               clear c16
               have H' := Aside0.mk H
               clear H
               have q170 : 0 < ([rd_T89 ((rd_T34 l0 0).f0) x4_1].length : Int) := of_decide_eq_true (by assumption)
               obtain ⟨ad170, e170, hx170_0, hx170_1, hx170_2, hx170_3, hx170_4⟩ := rp_T89 HR166.out q170
               (try simp only [rd1_T89] at hx170_0 hx170_1 hx170_2 hx170_3 hx170_4)
               obtain rfl : (Addr.add ad165 (x4_1.toNat * 5)) = ad170 := (by injection e170)
               go_wp2
               go_roundg k2
               case measure => have := HK1.out; have := HK2.out; omega
               case rel => exact ⟨(wrap64 (x4_1 + 1)), z4_3_, H', ⟨by have := HK1.out; have := HK2.out; omega⟩, by repeat (first | exact Drawn0.refl _ | apply Drawn0.step)⟩
              ·
               rw [if_neg c16] at H
               have c16b0 : (((rd_T89 ((rd_T34 l0 0).f0) x4_1).f1) == 0) = false := beq_eq_false_iff_ne.mpr c16
               have c16b1 : (((rd_T89 ((rd_T34 l0 0).f0) x4_1).f1) != 0) = true := bne_iff_ne.mpr c16
               obtain rfl := Option.some.inj H
               have q170 : 0 < ([rd_T89 ((rd_T34 l0 0).f0) x4_1].length : Int) := of_decide_eq_true (by assumption)
               obtain ⟨ad170, e170, hx170_0, hx170_1, hx170_2, hx170_3, hx170_4⟩ := rp_T89 HR166.out q170
               (try simp only [rd1_T89] at hx170_0 hx170_1 hx170_2 hx170_3 hx170_4)
               obtain rfl : (Addr.add ad165 (x4_1.toNat * 5)) = ad170 := (by injection e170)
               go_wp2
               go_ret
               exact ⟨by first | rfl | (simp; done) | (simp [*]; done) | (simp [isE_]; done), by repeat (first | exact Drawn0.refl _ | apply Drawn0.step)⟩
             ·
              rw [if_neg c15] at H
              have c15b0 : (((rd_T89 ((rd_T34 l0 0).f0) x4_1).f0) == 1) = false := beq_eq_false_iff_ne.mpr c15
              have c15b1 : (((rd_T89 ((rd_T34 l0 0).f0) x4_1).f0) != 1) = true := bne_iff_ne.mpr c15
              by_cases c17 : ((rd_T89 ((rd_T34 l0 0).f0) x4_1).f0) = 2
              ·
               rw [if_pos c17] at H
               have c17b0 : (((rd_T89 ((rd_T34 l0 0).f0) x4_1).f0) == 2) = true := beq_iff_eq.mpr c17
               have c17b1 : (((rd_T89 ((rd_T34 l0 0).f0) x4_1).f0) != 2) = false := bne_eq_false_iff_eq.mpr c17
               clear c17
               by_cases c18 : ((rd_T89 ((rd_T34 l0 0).f0) x4_1).f1) < (-1)
               ·
                rw [if_pos c18] at H
                have c18b0 : decide (((rd_T89 ((rd_T34 l0 0).f0) x4_1).f1) < (-1)) = true := decide_eq_true c18
                clear c18
                obtain rfl := Option.some.inj H
                have q170 : 0 < ([rd_T89 ((rd_T34 l0 0).f0) x4_1].length : Int) := of_decide_eq_true (by assumption)
                obtain ⟨ad170, e170, hx170_0, hx170_1, hx170_2, hx170_3, hx170_4⟩ := rp_T89 HR166.out q170
                (try simp only [rd1_T89] at hx170_0 hx170_1 hx170_2 hx170_3 hx170_4)
                obtain rfl : (Addr.add ad165 (x4_1.toNat * 5)) = ad170 := (by injection e170)
                go_wp2
                go_ret
                exact ⟨by first | rfl | (simp; done) | (simp [*]; done) | (simp [isE_]; done), by repeat (first | exact Drawn0.refl _ | apply Drawn0.step)⟩
               ·
                rw [if_neg c18] at H
                have c18b0 : decide (((rd_T89 ((rd_T34 l0 0).f0) x4_1).f1) < (-1)) = false := decide_eq_false c18
                clear c18
                by_cases c19 : ((rd_T89 ((rd_T34 l0 0).f0) x4_1).f1) > 1
                ·
                 rw [if_pos c19] at H
                 have c19b0 : decide (1 < ((rd_T89 ((rd_T34 l0 0).f0) x4_1).f1)) = true := decide_eq_true c19
                 clear c19
                 obtain rfl := Option.some.inj H
                 have q170 : 0 < ([rd_T89 ((rd_T34 l0 0).f0) x4_1].length : Int) := of_decide_eq_true (by assumption)
                 obtain ⟨ad170, e170, hx170_0, hx170_1, hx170_2, hx170_3, hx170_4⟩ := rp_T89 HR166.out q170
                 (try simp only [rd1_T89] at hx170_0 hx170_1 hx170_2 hx170_3 hx170_4)
                 obtain rfl : (Addr.add ad165 (x4_1.toNat * 5)) = ad170 := (by injection e170)
                 go_wp2
                 go_ret
                 exact ⟨by first | rfl | (simp; done) | (simp [*]; done) | (simp [isE_]; done), by repeat (first | exact Drawn0.refl _ | apply Drawn0.step)⟩
                ·
                 rw [if_neg c19] at H
                 have c19b0 : decide (1 < ((rd_T89 ((rd_T34 l0 0).f0) x4_1).f1)) = false := decide_eq_false c19
                 clear c19
                 by_cases c20 : ((rd_T89 ((rd_T34 l0 0).f0) x4_1).f2.f1) = 0
                 ·
                  rw [if_pos c20] at H
                  have c20b0 : (((rd_T89 ((rd_T34 l0 0).f0) x4_1).f2.f1) == 0) = true := beq_iff_eq.mpr c20
                  have c20b1 : (((rd_T89 ((rd_T34 l0 0).f0) x4_1).f2.f1) != 0) = false := bne_eq_false_iff_eq.mpr c20
                  clear c20
                  by_cases c21 : ((rd_T89 ((rd_T34 l0 0).f0) x4_1).f2.f2) = 0
                  ·
                   rw [if_pos c21] at H
                   have c21b0 : (((rd_T89 ((rd_T34 l0 0).f0) x4_1).f2.f2) == 0) = true := beq_iff_eq.mpr c21
                   have c21b1 : (((rd_T89 ((rd_T34 l0 0).f0) x4_1).f2.f2) != 0) = false := bne_eq_false_iff_eq.mpr c21
                   clear c21
                   have H' := Aside0.mk H
                   clear H
                   have q170 : 0 < ([rd_T89 ((rd_T34 l0 0).f0) x4_1].length : Int) := of_decide_eq_true (by assumption)
                   obtain ⟨ad170, e170, hx170_0, hx170_1, hx170_2, hx170_3, hx170_4⟩ := rp_T89 HR166.out q170
                   (try simp only [rd1_T89] at hx170_0 hx170_1 hx170_2 hx170_3 hx170_4)
                   obtain rfl : (Addr.add ad165 (x4_1.toNat * 5)) = ad170 := (by injection e170)
                   go_wp2
                   go_roundg k2
                   case measure => have := HK1.out; have := HK2.out; omega
                   case rel => exact ⟨(wrap64 (x4_1 + 1)), z4_3_, H', ⟨by have := HK1.out; have := HK2.out; omega⟩, by repeat (first | exact Drawn0.refl _ | apply Drawn0.step)⟩
                  ·
                   rw [if_neg c21] at H
                   have c21b0 : (((rd_T89 ((rd_T34 l0 0).f0) x4_1).f2.f2) == 0) = false := beq_eq_false_iff_ne.mpr c21
                   have c21b1 : (((rd_T89 ((rd_T34 l0 0).f0) x4_1).f2.f2) != 0) = true := bne_iff_ne.mpr c21
                   obtain rfl := Option.some.inj H
                   have q170 : 0 < ([rd_T89 ((rd_T34 l0 0).f0) x4_1].length : Int) := of_decide_eq_true (by assumption)
                   obtain ⟨ad170, e170, hx170_0, hx170_1, hx170_2, hx170_3, hx170_4⟩ := rp_T89 HR166.out q170
                   (try simp only [rd1_T89] at hx170_0 hx170_1 hx170_2 hx170_3 hx170_4)
                   obtain rfl : (Addr.add ad165 (x4_1.toNat * 5)) = ad170 := (by injection e170)
                   go_wp2
                   go_ret
                   exact ⟨by first | rfl | (simp; done) | (simp [*]; done) | (simp [isE_]; done), by repeat (first | exact Drawn0.refl _ | apply Drawn0.step)⟩
                 ·
                  rw [if_neg c20] at H
                  have c20b0 : (((rd_T89 ((rd_T34 l0 0).f0) x4_1).f2.f1) == 0) = false := beq_eq_false_iff_ne.mpr c20
                  have c20b1 : (((rd_T89 ((rd_T34 l0 0).f0) x4_1).f2.f1) != 0) = true := bne_iff_ne.mpr c20
                  obtain rfl := Option.some.inj H
                  have q170 : 0 < ([rd_T89 ((rd_T34 l0 0).f0) x4_1].length : Int) := of_decide_eq_true (by assumption)
                  obtain ⟨ad170, e170, hx170_0, hx170_1, hx170_2, hx170_3, hx170_4⟩ := rp_T89 HR166.out q170
                  (try simp only [rd1_T89] at hx170_0 hx170_1 hx170_2 hx170_3 hx170_4)
                  obtain rfl : (Addr.add ad165 (x4_1.toNat * 5)) = ad170 := (by injection e170)
                  go_wp2
                  go_ret
                  exact ⟨by first | rfl | (simp; done) | (simp [*]; done) | (simp [isE_]; done), by repeat (first | exact Drawn0.refl _ | apply Drawn0.step)⟩
              ·
               rw [if_neg c17] at H
               have c17b0 : (((rd_T89 ((rd_T34 l0 0).f0) x4_1).f0) == 2) = false := beq_eq_false_iff_ne.mpr c17
               have c17b1 : (((rd_T89 ((rd_T34 l0 0).f0) x4_1).f0) != 2) = true := bne_iff_ne.mpr c17
               obtain rfl := Option.some.inj H
               have q170 : 0 < ([rd_T89 ((rd_T34 l0 0).f0) x4_1].length : Int) := of_decide_eq_true (by assumption)
               obtain ⟨ad170, e170, hx170_0, hx170_1, hx170_2, hx170_3, hx170_4⟩ := rp_T89 HR166.out q170
               (try simp only [rd1_T89] at hx170_0 hx170_1 hx170_2 hx170_3 hx170_4)
               obtain rfl : (Addr.add ad165 (x4_1.toNat * 5)) = ad170 := (by injection e170)
               go_wp2
               go_ret
               exact ⟨by first | rfl | (simp; done) | (simp [*]; done) | (simp [isE_]; done), by repeat (first | exact Drawn0.refl _ | apply Drawn0.step)⟩
            ·
             rw [if_neg c14] at H
             exact absurd H (by simp)
        ·
         rw [if_neg c8] at H
         exact absurd H (by simp)
       ·
        rw [if_neg c7] at H
        exact absurd H (by simp)
      ·
       rw [if_neg c6] at H
       exact absurd H (by simp)
     ·
      rw [if_neg c5] at H
      have c5b0 : decide (x4_1 < (((rd_T34 l0 0).f0).length : Int)) = false := decide_eq_false c5
      clear c5
      obtain rfl := Option.some.inj H
      go_wp2
      go_ret
      exact ⟨by first | rfl | (simp; done) | (simp [*]; done) | (simp [isE_]; done), by repeat (first | exact Drawn0.refl _ | apply Drawn0.step)⟩
  ·
   replace c4 := Bool.eq_false_iff.mpr c4
   subst c4
   have H1 : (some false) = some r := by first | (rw [if_neg (show ¬ (false = true) by decide)] at H; exact H) | rfl
   clear H
   have H := H1
   clear H1
   obtain rfl := Option.some.inj H
   have q162 : 0 < (l0.length : Int) := of_decide_eq_true (by assumption)
   obtain ⟨ad162, A162_0, c162_0, e162, hx162_0, hl162_0, hi162_0⟩ := rp_T34 HR0.out q162
   cases e162
   have HR162_0 := Aside0.mk hi162_0
   have HC162_0 := Aside0.mk hl162_0
   clear hi162_0 hl162_0
   go_enter Try.func66, Try.ntmps66
   go_wp2_with (first | ((with_reducible refine gate_callee (f := 109) rfl ?_); refine goesL_ (some 13) rfl rfl Try.func109 (by kernel_rfl) rfl #[.int .i64 (((rd_T34 l0 0).f0).length : Int), .int .i64 1, .int .i64 60] rfl z4_5_ ?_; (with_reducible refine (spec_l00In.calls (((rd_T34 l0 0).f0).length : Int) 1 60 false _ A3.out).mono ?_); rintro e w' ⟨rfl, ⟨nd, rfl⟩⟩; refine ⟨_, rfl, ?_⟩))
   go_ret
   exact ⟨by first | rfl | (simp; done) | (simp [*]; done) | (simp [isE_]; done), by repeat (first | exact Drawn0.refl _ | apply Drawn0.step)⟩
 ·
  rw [if_neg c2] at H
  exact absurd H (by simp)
/-! ### spec_l06Ways: function 68 -/
def spec_l06Ways.f (l0 : List (S89)) : Option (Int) := if 0 < (l0.length : Int) then (if ((rd_T89 l0 0).f0) = 1 then (some 3) else (some 1)) else (none)
set_option maxHeartbeats 8000000 in
set_option maxRecDepth 100000 in
theorem spec_l06Ways.calls (A0 : Option Addr) (c0 : Nat) (l0 : List (S89)) (r : Int) (w : World) (hr0 : Kd.C k89 w A0 l0.length l0) (hc0 : l0.length ≤ c0) (h : spec_l06Ways.f l0 = some r) :
  Calls Try.prog 68 #[.pointer A0] w fun e w' => e = .returned (.int .i64 r) ∧ Drawn0 w w' := by
 have HR0 := Aside0.mk hr0
 have HC0 := Aside0.mk hc0
 clear hr0 hc0
 have H : (if 0 < (l0.length : Int) then (if ((rd_T89 l0 0).f0) = 1 then (some 3) else (some 1)) else (none)) = some r := h
 clear h
 by_cases c2 : 0 < (l0.length : Int)
 ·
  rw [if_pos c2] at H
  have c2b0 : decide (0 < (l0.length : Int)) = true := decide_eq_true c2
  have c2b1 : decide (0 < l0.length) = true := decide_eq_true (by omega)
  clear c2
  by_cases c3 : ((rd_T89 l0 0).f0) = 1
  ·
   rw [if_pos c3] at H
   have c3b0 : (((rd_T89 l0 0).f0) == 1) = true := beq_iff_eq.mpr c3
   have c3b1 : (((rd_T89 l0 0).f0) != 1) = false := bne_eq_false_iff_eq.mpr c3
   clear c3
   obtain rfl := Option.some.inj H
   have q171 : 0 < (l0.length : Int) := of_decide_eq_true (by assumption)
   obtain ⟨ad171, e171, hx171_0, hx171_1, hx171_2, hx171_3, hx171_4⟩ := rp_T89 HR0.out q171
   cases e171
   go_enter Try.func68, Try.ntmps68
   go_wp2
   go_ret
   exact ⟨by first | rfl | (simp; done) | (simp [*]; done) | (simp [isE_]; done), by repeat (first | exact Drawn0.refl _ | apply Drawn0.step)⟩
  ·
   rw [if_neg c3] at H
   have c3b0 : (((rd_T89 l0 0).f0) == 1) = false := beq_eq_false_iff_ne.mpr c3
   have c3b1 : (((rd_T89 l0 0).f0) != 1) = true := bne_iff_ne.mpr c3
   obtain rfl := Option.some.inj H
   have q171 : 0 < (l0.length : Int) := of_decide_eq_true (by assumption)
   obtain ⟨ad171, e171, hx171_0, hx171_1, hx171_2, hx171_3, hx171_4⟩ := rp_T89 HR0.out q171
   cases e171
   go_enter Try.func68, Try.ntmps68
   go_wp2
   go_ret
   exact ⟨by first | rfl | (simp; done) | (simp [*]; done) | (simp [isE_]; done), by repeat (first | exact Drawn0.refl _ | apply Drawn0.step)⟩
 ·
  rw [if_neg c2] at H
  exact absurd H (by simp)
/-! ### spec_l06Reached: function 95 -/
mutual
def spec_l06Reached.l0 : Nat → List (S34) → List Int → List Bool → Int → Option (List Int)
 | 0, _, _, _, _ => none
 | k + 1, x0, x3, x4, x5 => if x5 < (x3.length : Int) then (if 0 < (x0.length : Int) then (if 0 ≤ x5 then (if 0 ≤ (rd x3 x5) then (if (rd x3 x5) < (((rd_T34 x0 0).f0).length : Int) then (spec_l06Reached.l1 k x0 x3 x4 x5 [rd_T89 ((rd_T34 x0 0).f0) (rd x3 x5)] 0) else (none)) else (none)) else (none)) else (none)) else (some x3)
def spec_l06Reached.l1 : Nat → List (S34) → List Int → List Bool → Int → List (S89) → Int → Option (List Int)
 | 0, _, _, _, _, _, _ => none
 | k + 1, x0, x3, x4, x5, x6, x7 => (spec_l06Ways.f x6).bind fun t184 => (if x7 < t184 then (if 0 < (x6.length : Int) then (if 0 ≤ x7 then (if x7 < 3 then (if 0 ≤ (rd [(rd_T89 x6 0).f2.f0, (rd_T89 x6 0).f2.f1, (rd_T89 x6 0).f2.f2] x7) then (if (rd [(rd_T89 x6 0).f2.f0, (rd_T89 x6 0).f2.f1, (rd_T89 x6 0).f2.f2] x7) < (x4.length : Int) then (if (rdOf false x4 (rd [(rd_T89 x6 0).f2.f0, (rd_T89 x6 0).f2.f1, (rd_T89 x6 0).f2.f2] x7) = true) then (spec_l06Reached.l1 k x0 x3 x4 x5 x6 (wrap64 (x7 + 1))) else (if x3.length < 70368744177664 then (spec_l06Reached.l1 k x0 (x3 ++ [rd [(rd_T89 x6 0).f2.f0, (rd_T89 x6 0).f2.f1, (rd_T89 x6 0).f2.f2] x7]) (x4.set ((rd [(rd_T89 x6 0).f2.f0, (rd_T89 x6 0).f2.f1, (rd_T89 x6 0).f2.f2] x7) : Int).toNat true) x5 x6 (wrap64 (x7 + 1))) else (none))) else (none)) else (none)) else (none)) else (none)) else (none)) else (spec_l06Reached.l0 k x0 x3 x4 (wrap64 (x5 + 1))))
end
def spec_l06Reached.f (k : Nat) (l0 : List (S34)) : Option (List Int) := if 0 < (l0.length : Int) then (if 0 ≤ (((rd_T34 l0 0).f0).length : Int) then (if ((((rd_T34 l0 0).f0).length : Int) : Int).toNat ≤ 281474976710656 then ((some (List.replicate ((((rd_T34 l0 0).f0).length : Int) : Int).toNat false : List Bool)).bind fun y176 => (if 0 < (y176.length : Int) then (spec_l06Reached.l0 k l0 (([0] : List Int)) (y176.set (0 : Int).toNat true) 0) else (none))) else (none)) else (none)) else (none)
theorem spec_l06Reached.mono_l : ∀ k, (∀ y0 y1 y2 y3, LeO (spec_l06Reached.l0 k y0 y1 y2 y3) (spec_l06Reached.l0 (k + 1) y0 y1 y2 y3)) ∧ (∀ y0 y1 y2 y3 y4 y5, LeO (spec_l06Reached.l1 k y0 y1 y2 y3 y4 y5) (spec_l06Reached.l1 (k + 1) y0 y1 y2 y3 y4 y5))
 | 0 => ⟨fun _ _ _ _ r h => by simp [spec_l06Reached.l0] at h, fun _ _ _ _ _ _ r h => by simp [spec_l06Reached.l1] at h⟩
 | k + 1 => by
  obtain ⟨ih0, ih1⟩ := spec_l06Reached.mono_l k
  refine ⟨?_, ?_⟩
  ·
   intro y0 y1 y2 y3
   unfold spec_l06Reached.l0
   repeat' first
   | (with_reducible exact ih0 _ _ _ _)
   | (with_reducible exact ih1 _ _ _ _ _ _)
   | (with_reducible exact LeO.refl _)
   | (with_reducible exact LeO.none _)
   | (with_reducible refine LeO.ite ?_ ?_)
   | (with_reducible refine LeO.bind ?_ (fun _ => ?_))
   | refine LeO.bind ?_ (fun _ => ?_)
  ·
   intro y0 y1 y2 y3 y4 y5
   unfold spec_l06Reached.l1
   repeat' first
   | (with_reducible exact ih0 _ _ _ _)
   | (with_reducible exact ih1 _ _ _ _ _ _)
   | (with_reducible exact LeO.refl _)
   | (with_reducible exact LeO.none _)
   | (with_reducible refine LeO.ite ?_ ?_)
   | (with_reducible refine LeO.bind ?_ (fun _ => ?_))
   | refine LeO.bind ?_ (fun _ => ?_)
theorem spec_l06Reached.mono : ∀ a0 k, LeO (spec_l06Reached.f k a0) (spec_l06Reached.f (k + 1) a0) := by
 intro a0 k
 obtain ⟨ih0, ih1⟩ := spec_l06Reached.mono_l k
 unfold spec_l06Reached.f
 repeat' first
   | (with_reducible exact ih0 _ _ _ _)
   | (with_reducible exact ih1 _ _ _ _ _ _)
   | (with_reducible exact LeO.refl _)
   | (with_reducible exact LeO.none _)
   | (with_reducible refine LeO.ite ?_ ?_)
   | (with_reducible refine LeO.bind ?_ (fun _ => ?_))
   | refine LeO.bind ?_ (fun _ => ?_)
set_option maxHeartbeats 8000000 in
set_option maxRecDepth 100000 in
theorem spec_l06Reached.calls (k : Nat) (A0 : Option Addr) (c0 : Nat) (l0 : List (S34)) (r : List Int) (w : World) (hr0 : Kd.C k34 w A0 l0.length l0) (hc0 : l0.length ≤ c0) (h : spec_l06Reached.f k l0 = some r) :
  Calls Try.prog 95 #[.pointer A0] w fun e w' => ∃ v0_ : Value, e = .returned (v0_) ∧ Kd.R (Kd.int .i16) 85 w' w.heap.size (fun _ => True) v0_ r ∧ Below w.heap.size w w' := by
 have HR0 := Aside0.mk hr0
 have HC0 := Aside0.mk hc0
 clear hr0 hc0
 have HB := Aside0.mk (Below.refl w.heap.size w)
 have H : (if 0 < (l0.length : Int) then (if 0 ≤ (((rd_T34 l0 0).f0).length : Int) then (if ((((rd_T34 l0 0).f0).length : Int) : Int).toNat ≤ 281474976710656 then ((some (List.replicate ((((rd_T34 l0 0).f0).length : Int) : Int).toNat false : List Bool)).bind fun y176 => (if 0 < (y176.length : Int) then (spec_l06Reached.l0 k l0 (([0] : List Int)) (y176.set (0 : Int).toNat true) 0) else (none))) else (none)) else (none)) else (none)) = some r := h
 clear h
 obtain ⟨y172, hy172⟩ : ∃ y_ : List Int, y_ = (([0] : List Int)) := ⟨_, rfl⟩
 replace H : (if 0 < (l0.length : Int) then (if 0 ≤ (((rd_T34 l0 0).f0).length : Int) then (if ((((rd_T34 l0 0).f0).length : Int) : Int).toNat ≤ 281474976710656 then ((some (List.replicate ((((rd_T34 l0 0).f0).length : Int) : Int).toNat false : List Bool)).bind fun y176 => (if 0 < (y176.length : Int) then (spec_l06Reached.l0 k l0 y172 (y176.set (0 : Int).toNat true) 0) else (none))) else (none)) else (none)) else (none)) = some r := by first | (rw [hy172]; with_reducible exact H) | (have H2_ := (Option.bind_some _ _).symm.trans H; rw [hy172]; with_reducible exact H2_) | (have H2_ := (Option.bind_some _ _).symm.trans H; with_reducible exact H2_) | with_reducible exact H | (rw [hy172]; exact H) | exact H
 have Ny172 := Aside0.mk hy172
 clear hy172
 by_cases c2 : 0 < (l0.length : Int)
 ·
  rw [if_pos c2] at H
  have c2b0 : decide (0 < (l0.length : Int)) = true := decide_eq_true c2
  have c2b1 : decide (0 < l0.length) = true := decide_eq_true (by omega)
  clear c2
  by_cases c3 : 0 ≤ (((rd_T34 l0 0).f0).length : Int)
  ·
   rw [if_pos c3] at H
   have c3b0 := eq_true c3
   have c3b1 : decide (0 ≤ (((rd_T34 l0 0).f0).length : Int)) = true := decide_eq_true c3
   clear c3
   by_cases c4 : ((((rd_T34 l0 0).f0).length : Int) : Int).toNat ≤ 281474976710656
   ·
    rw [if_pos c4] at H
    have c4b0 := eq_true c4
    have c4b1 : decide (((((rd_T34 l0 0).f0).length : Int) : Int).toNat ≤ 281474976710656) = true := decide_eq_true c4
    clear c4
    obtain ⟨y176, hy176⟩ : ∃ y_ : List Bool, y_ = (List.replicate ((((rd_T34 l0 0).f0).length : Int) : Int).toNat false) := ⟨_, rfl⟩
    replace H : (if 0 < (y176.length : Int) then (spec_l06Reached.l0 k l0 y172 (y176.set (0 : Int).toNat true) 0) else (none)) = some r := by first | (rw [hy176]; with_reducible exact H) | (have H2_ := (Option.bind_some _ _).symm.trans H; rw [hy176]; with_reducible exact H2_) | (have H2_ := (Option.bind_some _ _).symm.trans H; with_reducible exact H2_) | with_reducible exact H | (rw [hy176]; exact H) | exact H
    have Ny176 := Aside0.mk hy176
    clear hy176
    by_cases c5 : 0 < (y176.length : Int)
    ·
     rw [if_pos c5] at H
     have c5b0 : decide (0 < (y176.length : Int)) = true := decide_eq_true c5
     have c5b1 : decide (0 < y176.length) = true := decide_eq_true (by omega)
     clear c5
     obtain ⟨y179, hy179⟩ : ∃ y_ : List Bool, y_ = (y176.set (0 : Int).toNat true) := ⟨_, rfl⟩
     replace H : (spec_l06Reached.l0 k l0 y172 y179 0) = some r := by first | (rw [hy179]; with_reducible exact H) | (have H2_ := (Option.bind_some _ _).symm.trans H; rw [hy179]; with_reducible exact H2_) | (have H2_ := (Option.bind_some _ _).symm.trans H; with_reducible exact H2_) | with_reducible exact H | (rw [hy179]; exact H) | exact H
     have Ny179 := Aside0.mk hy179
     clear hy179
     have H' := Aside0.mk H
     clear H
     go_enter Try.func95, Try.ntmps95
     go_wp2_with (first | ((with_reducible refine gate_dst (N := 8) rfl ?_); refine Kd.R_lit (Kd.int .i16) _ 85 ?hg (N := 8) ?hd (xs := ([0] : List Int)) (inner := [.int .i16 0]) (ok := fun _ => True) (okp := fun _ => True) ?hr ?hp (fun _ hk => hk) trivial (Below.refl _ _) (Nat.le_refl _) (by simp) ?_; (case hd => rfl); (case hg => rfl); (case hr => first | (go_simp; done) | (go_simp; rfl)); (case hp => exact (Reps.one (show Kd.M (Kd.int .i16) _ _ _ 0 [.int .i16 0] from rfl) (Reps.none _ _))); intro v173 w7 ho8 hb hg_ hnew_; clear hg_ hnew_; (first | rw [← Ny172.out] at ho8 | (simp only [Int.reduceToNat] at ho8; rw [← Ny172.out] at ho8)); have n0_ := Aside0.mk (Kd.R_lower ho8 (below_size z4_1_)); have n1_ := Aside0.mk (below_step z4_1_ hb); clear HB; have HO174 := n0_; have HB := n1_; clear n0_ n1_; clear hb ho8; have q175 : 0 < (l0.length : Int) := of_decide_eq_true (by assumption); obtain ⟨ad175, A175_0, c175_0, e175, hx175_0, hl175_0, hi175_0⟩ := rp_T34 HR0.out q175; cases e175; replace hx175_0 := (HB.out.cell (World.block_lt_of_cell? w _ hx175_0)).trans hx175_0; have HR175_0 := Aside0.mk hi175_0; have HC175_0 := Aside0.mk hl175_0; clear hi175_0 hl175_0) | ((with_reducible refine gate_dst (N := 14) rfl ?_); refine Kd.R_make Kd.bool _ 4 rfl (N := 14) rfl 190 _ _ rfl (((rd_T34 l0 0).f0).length : Int) rfl rfl Try.underlying190 (.bool false) 1 info4 rfl (by decide) (by omega) false (ok := fun _ => True) (okp := fun _ => True) rfl (fun _ hk => hk) trivial (of_decide_eq_true (by assumption)) (Nat.le_trans (Nat.mul_le_mul_right _ (of_decide_eq_true (by assumption) : (((rd_T34 l0 0).f0).length : Int).toNat ≤ 281474976710656)) (by omega)) (Below.refl _ _) (Nat.le_refl _) ?_; intro v177 w9 ho10 hb hg_ hnew_; clear hg_ hnew_; (first | rw [← Ny176.out] at ho10 | (simp only [Int.reduceToNat] at ho10; rw [← Ny176.out] at ho10)); have n0_ := Aside0.mk (Kd.R_below z4_4_ hb); have n1_ := Aside0.mk (Kd.R_lower ho10 (below_size z4_1_)); have n2_ := Aside0.mk (below_step z4_1_ hb); clear HO174; clear HB; have HO174 := n0_; have HO178 := n1_; have HB := n2_; clear n0_ n1_ n2_; clear hb ho10; have p6 : 0 ≤ (0 : Int) := (by omega); have q6 : (0 : Int) < ((y176.length : Int) : Int) := of_decide_eq_true (by assumption); have qi6 : (0 < y176.length) = True := eq_true (by omega); obtain ⟨go6, co6, eo6, gb6, gl6, cl6, HG6⟩ := Kd.R_form HO178.out (by omega); (first | cases eo6 | (injection eo6 with ea_ en_ ec_; (first | subst ea_ | (injection ea_ with ea_; subst ea_)); subst ec_; clear en_)); have GB6 := Aside0.mk gb6; have GG6 := Aside0.mk HG6; clear gb6 gl6 HG6; obtain ⟨hx6_0, hf6_0⟩ := Kd.R_celln false HO178.out (0 : Int) p6 q6; (try rw [show ((0 : Int)).toNat = 0 from rfl] at hx6_0); (try simp only [Nat.reduceMul, Nat.zero_mul, Nat.zero_add, Nat.reduceAdd] at hx6_0); (try rw [show ((0 : Int)).toNat = 0 from rfl] at hf6_0); (try simp only [Nat.reduceMul, Nat.zero_mul, Nat.zero_add, Nat.reduceAdd] at hf6_0); replace p6 := eq_true p6; replace q6 := eq_true q6; obtain ⟨hy11_, hz11_⟩ := Kd.R_celln false HO178.out (0 : Int) (by omega) (of_decide_eq_true (by assumption)); (try simp only [Int.reduceToNat, Int.toNat_zero, Int.toNat_ofNat, Nat.reduceMul, Nat.zero_mul, Nat.zero_add] at hy11_ hz11_); (try rw [show ((0 : Int)).toNat = 0 from rfl] at hy11_); (try rw [show ((0 : Int)).toNat = 0 from rfl] at hz11_); have HP11 := Kd.R_putg HO178.out (0 : Int) true) | ((with_reducible refine gate_store (t := 4) (p := 16) rfl ?_); (try (rw [drewN_self w9]; generalize hq_ : World.drewN w9 _ = w9; have n0_ := Aside0.mk (Kd.R_at hq_ HO174.out); have n1_ := Aside0.mk (Kd.R_at hq_ HO178.out); have n2_ := Aside0.mk (below_at hq_ HB.out); clear hq_ HO174 HO178 HB; have HO174 := n0_; have HO178 := n1_; have HB := n2_; clear n0_ n1_ n2_; (try (obtain ⟨hy11_, hz11_⟩ := Kd.R_celln false HO178.out (0 : Int) (by omega) (of_decide_eq_true (by assumption)))); (try (try simp only [Int.reduceToNat, Int.toNat_zero, Int.toNat_ofNat, Nat.reduceMul, Nat.zero_mul, Nat.zero_add] at hy11_ hz11_)); (try (try rw [show ((0 : Int)).toNat = 0 from rfl] at hy11_)); (try (try rw [show ((0 : Int)).toNat = 0 from rfl] at hz11_)); (try (have HP11 := Kd.R_putg HO178.out (0 : Int) true)))); refine store_event (t := 4) (p := 16) (v := ?vo_w12) (w1 := (w9.setCell ⟨go6, (0 : Int).toNat, none⟩ (.bool true))) ?hg ?ho ?hn ?hr ?_; (case ho => rfl); (case hg => rfl); (case hn => rfl); (case hr => first | (go_simp; done) | (go_simp; rfl)); intro w12 hw; have hg : w9.grownBy w12 (some go6) := (by rw [hw]; exact HP11.2); have hp_ : Kd.R Kd.bool 4 w12 w.heap.size (fun _ => True) (.slice (some ⟨go6, 0, none⟩) y176.length co6) y179 := (by rw [hw, Ny179.out]; exact HP11.1); clear HP11; have n0_ := Aside0.mk (Kd.R_over' (v := (.slice (some ⟨go6, 0, none⟩) y176.length co6)) z4_4_ (Kd.R_typed HO178.out) (by decide) hg); have n1_ := Aside0.mk (hp_); have n2_ := Aside0.mk ((by rw [hw]; exact below_set (HB.out) GB6.out : Below w.heap.size w w12)); clear HO174; clear HO178; clear HB; have HO174 := n0_; have HO178 := n1_; have HB := n2_; clear n0_ n1_ n2_; clear hg hw hp_))
     repeat (go_quiet (first | ((with_reducible refine gate_dst (N := 8) rfl ?_); refine Kd.R_lit (Kd.int .i16) _ 85 ?hg (N := 8) ?hd (xs := ([0] : List Int)) (inner := [.int .i16 0]) (ok := fun _ => True) (okp := fun _ => True) ?hr ?hp (fun _ hk => hk) trivial (Below.refl _ _) (Nat.le_refl _) (by simp) ?_; (case hd => rfl); (case hg => rfl); (case hr => first | (go_simp; done) | (go_simp; rfl)); (case hp => exact (Reps.one (show Kd.M (Kd.int .i16) _ _ _ 0 [.int .i16 0] from rfl) (Reps.none _ _))); intro v173 w7 ho8 hb hg_ hnew_; clear hg_ hnew_; (first | rw [← Ny172.out] at ho8 | (simp only [Int.reduceToNat] at ho8; rw [← Ny172.out] at ho8)); have n0_ := Aside0.mk (Kd.R_lower ho8 (below_size z4_1_)); have n1_ := Aside0.mk (below_step z4_1_ hb); clear HB; have HO174 := n0_; have HB := n1_; clear n0_ n1_; clear hb ho8; have q175 : 0 < (l0.length : Int) := of_decide_eq_true (by assumption); obtain ⟨ad175, A175_0, c175_0, e175, hx175_0, hl175_0, hi175_0⟩ := rp_T34 HR0.out q175; cases e175; replace hx175_0 := (HB.out.cell (World.block_lt_of_cell? w _ hx175_0)).trans hx175_0; have HR175_0 := Aside0.mk hi175_0; have HC175_0 := Aside0.mk hl175_0; clear hi175_0 hl175_0) | ((with_reducible refine gate_dst (N := 14) rfl ?_); refine Kd.R_make Kd.bool _ 4 rfl (N := 14) rfl 190 _ _ rfl (((rd_T34 l0 0).f0).length : Int) rfl rfl Try.underlying190 (.bool false) 1 info4 rfl (by decide) (by omega) false (ok := fun _ => True) (okp := fun _ => True) rfl (fun _ hk => hk) trivial (of_decide_eq_true (by assumption)) (Nat.le_trans (Nat.mul_le_mul_right _ (of_decide_eq_true (by assumption) : (((rd_T34 l0 0).f0).length : Int).toNat ≤ 281474976710656)) (by omega)) (Below.refl _ _) (Nat.le_refl _) ?_; intro v177 w9 ho10 hb hg_ hnew_; clear hg_ hnew_; (first | rw [← Ny176.out] at ho10 | (simp only [Int.reduceToNat] at ho10; rw [← Ny176.out] at ho10)); have n0_ := Aside0.mk (Kd.R_below z4_4_ hb); have n1_ := Aside0.mk (Kd.R_lower ho10 (below_size z4_1_)); have n2_ := Aside0.mk (below_step z4_1_ hb); clear HO174; clear HB; have HO174 := n0_; have HO178 := n1_; have HB := n2_; clear n0_ n1_ n2_; clear hb ho10; have p6 : 0 ≤ (0 : Int) := (by omega); have q6 : (0 : Int) < ((y176.length : Int) : Int) := of_decide_eq_true (by assumption); have qi6 : (0 < y176.length) = True := eq_true (by omega); obtain ⟨go6, co6, eo6, gb6, gl6, cl6, HG6⟩ := Kd.R_form HO178.out (by omega); (first | cases eo6 | (injection eo6 with ea_ en_ ec_; (first | subst ea_ | (injection ea_ with ea_; subst ea_)); subst ec_; clear en_)); have GB6 := Aside0.mk gb6; have GG6 := Aside0.mk HG6; clear gb6 gl6 HG6; obtain ⟨hx6_0, hf6_0⟩ := Kd.R_celln false HO178.out (0 : Int) p6 q6; (try rw [show ((0 : Int)).toNat = 0 from rfl] at hx6_0); (try simp only [Nat.reduceMul, Nat.zero_mul, Nat.zero_add, Nat.reduceAdd] at hx6_0); (try rw [show ((0 : Int)).toNat = 0 from rfl] at hf6_0); (try simp only [Nat.reduceMul, Nat.zero_mul, Nat.zero_add, Nat.reduceAdd] at hf6_0); replace p6 := eq_true p6; replace q6 := eq_true q6; obtain ⟨hy11_, hz11_⟩ := Kd.R_celln false HO178.out (0 : Int) (by omega) (of_decide_eq_true (by assumption)); (try simp only [Int.reduceToNat, Int.toNat_zero, Int.toNat_ofNat, Nat.reduceMul, Nat.zero_mul, Nat.zero_add] at hy11_ hz11_); (try rw [show ((0 : Int)).toNat = 0 from rfl] at hy11_); (try rw [show ((0 : Int)).toNat = 0 from rfl] at hz11_); have HP11 := Kd.R_putg HO178.out (0 : Int) true) | ((with_reducible refine gate_store (t := 4) (p := 16) rfl ?_); (try (rw [drewN_self w9]; generalize hq_ : World.drewN w9 _ = w9; have n0_ := Aside0.mk (Kd.R_at hq_ HO174.out); have n1_ := Aside0.mk (Kd.R_at hq_ HO178.out); have n2_ := Aside0.mk (below_at hq_ HB.out); clear hq_ HO174 HO178 HB; have HO174 := n0_; have HO178 := n1_; have HB := n2_; clear n0_ n1_ n2_; (try (obtain ⟨hy11_, hz11_⟩ := Kd.R_celln false HO178.out (0 : Int) (by omega) (of_decide_eq_true (by assumption)))); (try (try simp only [Int.reduceToNat, Int.toNat_zero, Int.toNat_ofNat, Nat.reduceMul, Nat.zero_mul, Nat.zero_add] at hy11_ hz11_)); (try (try rw [show ((0 : Int)).toNat = 0 from rfl] at hy11_)); (try (try rw [show ((0 : Int)).toNat = 0 from rfl] at hz11_)); (try (have HP11 := Kd.R_putg HO178.out (0 : Int) true)))); refine store_event (t := 4) (p := 16) (v := ?vo_w12) (w1 := (w9.setCell ⟨go6, (0 : Int).toNat, none⟩ (.bool true))) ?hg ?ho ?hn ?hr ?_; (case ho => rfl); (case hg => rfl); (case hn => rfl); (case hr => first | (go_simp; done) | (go_simp; rfl)); intro w12 hw; have hg : w9.grownBy w12 (some go6) := (by rw [hw]; exact HP11.2); have hp_ : Kd.R Kd.bool 4 w12 w.heap.size (fun _ => True) (.slice (some ⟨go6, 0, none⟩) y176.length co6) y179 := (by rw [hw, Ny179.out]; exact HP11.1); clear HP11; have n0_ := Aside0.mk (Kd.R_over' (v := (.slice (some ⟨go6, 0, none⟩) y176.length co6)) z4_4_ (Kd.R_typed HO178.out) (by decide) hg); have n1_ := Aside0.mk (hp_); have n2_ := Aside0.mk ((by rw [hw]; exact below_set (HB.out) GB6.out : Below w.heap.size w w12)); clear HO174; clear HO178; clear HB; have HO174 := n0_; have HO178 := n1_; have HB := n2_; clear n0_ n1_ n2_; clear hg hw hp_)); try go_wp2_with (first | ((with_reducible refine gate_dst (N := 8) rfl ?_); refine Kd.R_lit (Kd.int .i16) _ 85 ?hg (N := 8) ?hd (xs := ([0] : List Int)) (inner := [.int .i16 0]) (ok := fun _ => True) (okp := fun _ => True) ?hr ?hp (fun _ hk => hk) trivial (Below.refl _ _) (Nat.le_refl _) (by simp) ?_; (case hd => rfl); (case hg => rfl); (case hr => first | (go_simp; done) | (go_simp; rfl)); (case hp => exact (Reps.one (show Kd.M (Kd.int .i16) _ _ _ 0 [.int .i16 0] from rfl) (Reps.none _ _))); intro v173 w7 ho8 hb hg_ hnew_; clear hg_ hnew_; (first | rw [← Ny172.out] at ho8 | (simp only [Int.reduceToNat] at ho8; rw [← Ny172.out] at ho8)); have n0_ := Aside0.mk (Kd.R_lower ho8 (below_size z4_1_)); have n1_ := Aside0.mk (below_step z4_1_ hb); clear HB; have HO174 := n0_; have HB := n1_; clear n0_ n1_; clear hb ho8; have q175 : 0 < (l0.length : Int) := of_decide_eq_true (by assumption); obtain ⟨ad175, A175_0, c175_0, e175, hx175_0, hl175_0, hi175_0⟩ := rp_T34 HR0.out q175; cases e175; replace hx175_0 := (HB.out.cell (World.block_lt_of_cell? w _ hx175_0)).trans hx175_0; have HR175_0 := Aside0.mk hi175_0; have HC175_0 := Aside0.mk hl175_0; clear hi175_0 hl175_0) | ((with_reducible refine gate_dst (N := 14) rfl ?_); refine Kd.R_make Kd.bool _ 4 rfl (N := 14) rfl 190 _ _ rfl (((rd_T34 l0 0).f0).length : Int) rfl rfl Try.underlying190 (.bool false) 1 info4 rfl (by decide) (by omega) false (ok := fun _ => True) (okp := fun _ => True) rfl (fun _ hk => hk) trivial (of_decide_eq_true (by assumption)) (Nat.le_trans (Nat.mul_le_mul_right _ (of_decide_eq_true (by assumption) : (((rd_T34 l0 0).f0).length : Int).toNat ≤ 281474976710656)) (by omega)) (Below.refl _ _) (Nat.le_refl _) ?_; intro v177 w9 ho10 hb hg_ hnew_; clear hg_ hnew_; (first | rw [← Ny176.out] at ho10 | (simp only [Int.reduceToNat] at ho10; rw [← Ny176.out] at ho10)); have n0_ := Aside0.mk (Kd.R_below z4_4_ hb); have n1_ := Aside0.mk (Kd.R_lower ho10 (below_size z4_1_)); have n2_ := Aside0.mk (below_step z4_1_ hb); clear HO174; clear HB; have HO174 := n0_; have HO178 := n1_; have HB := n2_; clear n0_ n1_ n2_; clear hb ho10; have p6 : 0 ≤ (0 : Int) := (by omega); have q6 : (0 : Int) < ((y176.length : Int) : Int) := of_decide_eq_true (by assumption); have qi6 : (0 < y176.length) = True := eq_true (by omega); obtain ⟨go6, co6, eo6, gb6, gl6, cl6, HG6⟩ := Kd.R_form HO178.out (by omega); (first | cases eo6 | (injection eo6 with ea_ en_ ec_; (first | subst ea_ | (injection ea_ with ea_; subst ea_)); subst ec_; clear en_)); have GB6 := Aside0.mk gb6; have GG6 := Aside0.mk HG6; clear gb6 gl6 HG6; obtain ⟨hx6_0, hf6_0⟩ := Kd.R_celln false HO178.out (0 : Int) p6 q6; (try rw [show ((0 : Int)).toNat = 0 from rfl] at hx6_0); (try simp only [Nat.reduceMul, Nat.zero_mul, Nat.zero_add, Nat.reduceAdd] at hx6_0); (try rw [show ((0 : Int)).toNat = 0 from rfl] at hf6_0); (try simp only [Nat.reduceMul, Nat.zero_mul, Nat.zero_add, Nat.reduceAdd] at hf6_0); replace p6 := eq_true p6; replace q6 := eq_true q6; obtain ⟨hy11_, hz11_⟩ := Kd.R_celln false HO178.out (0 : Int) (by omega) (of_decide_eq_true (by assumption)); (try simp only [Int.reduceToNat, Int.toNat_zero, Int.toNat_ofNat, Nat.reduceMul, Nat.zero_mul, Nat.zero_add] at hy11_ hz11_); (try rw [show ((0 : Int)).toNat = 0 from rfl] at hy11_); (try rw [show ((0 : Int)).toNat = 0 from rfl] at hz11_); have HP11 := Kd.R_putg HO178.out (0 : Int) true) | ((with_reducible refine gate_store (t := 4) (p := 16) rfl ?_); (try (rw [drewN_self w9]; generalize hq_ : World.drewN w9 _ = w9; have n0_ := Aside0.mk (Kd.R_at hq_ HO174.out); have n1_ := Aside0.mk (Kd.R_at hq_ HO178.out); have n2_ := Aside0.mk (below_at hq_ HB.out); clear hq_ HO174 HO178 HB; have HO174 := n0_; have HO178 := n1_; have HB := n2_; clear n0_ n1_ n2_; (try (obtain ⟨hy11_, hz11_⟩ := Kd.R_celln false HO178.out (0 : Int) (by omega) (of_decide_eq_true (by assumption)))); (try (try simp only [Int.reduceToNat, Int.toNat_zero, Int.toNat_ofNat, Nat.reduceMul, Nat.zero_mul, Nat.zero_add] at hy11_ hz11_)); (try (try rw [show ((0 : Int)).toNat = 0 from rfl] at hy11_)); (try (try rw [show ((0 : Int)).toNat = 0 from rfl] at hz11_)); (try (have HP11 := Kd.R_putg HO178.out (0 : Int) true)))); refine store_event (t := 4) (p := 16) (v := ?vo_w12) (w1 := (w9.setCell ⟨go6, (0 : Int).toNat, none⟩ (.bool true))) ?hg ?ho ?hn ?hr ?_; (case ho => rfl); (case hg => rfl); (case hn => rfl); (case hr => first | (go_simp; done) | (go_simp; rfl)); intro w12 hw; have hg : w9.grownBy w12 (some go6) := (by rw [hw]; exact HP11.2); have hp_ : Kd.R Kd.bool 4 w12 w.heap.size (fun _ => True) (.slice (some ⟨go6, 0, none⟩) y176.length co6) y179 := (by rw [hw, Ny179.out]; exact HP11.1); clear HP11; have n0_ := Aside0.mk (Kd.R_over' (v := (.slice (some ⟨go6, 0, none⟩) y176.length co6)) z4_4_ (Kd.R_typed HO178.out) (by decide) hg); have n1_ := Aside0.mk (hp_); have n2_ := Aside0.mk ((by rw [hw]; exact below_set (HB.out) GB6.out : Below w.heap.size w w12)); clear HO174; clear HO178; clear HB; have HO174 := n0_; have HO178 := n1_; have HB := n2_; clear n0_ n1_ n2_; clear hg hw hp_)))
     go_loopg [3, 5] k (fun kq v3 v5 w' => ∃ (x3_1 : List Int) (x4_1 : List Bool) (x5_1 : Int), v5 = .int .i64 x5_1 ∧ Aside0 (spec_l06Reached.l0 kq l0 x3_1 x4_1 x5_1 = some r) ∧ Aside0 (kq ≤ k) ∧ Aside0 (Kd.R (Kd.int .i16) 85 w' w.heap.size (fun _ => True) v3 x3_1) ∧ Aside0 (Kd.R Kd.bool 4 w' w.heap.size (fun _ => True) (.slice (some ⟨go6, 0, none⟩) y176.length co6) x4_1) ∧ Aside0 (Below w.heap.size w w'))
     case atStart => exact ⟨(y172), (y179), (0), z4_3_, H', ⟨Nat.le_refl _⟩, ⟨by (with_reducible repeat (first | apply Kd.R_alloc | apply Kd.R_drewN | apply Kd.R_drew)); exact HO174.out⟩, ⟨by (with_reducible repeat (first | apply Kd.R_alloc | apply Kd.R_drewN | apply Kd.R_drew)); exact HO178.out⟩, ⟨by repeat (first | (with_reducible first | exact HB.out | apply below_alloc | apply pw_below_drewN | apply below_drew1) | exact HB.out)⟩⟩
     case round =>
      clear H'
      try clear c1
      try clear q1
      try clear hx1
      try clear c2
      try clear c2b0
      try clear c2b1
      try clear p2
      try clear c3
      try clear c3b0
      try clear c3b1
      try clear c4
      try clear c4b0
      try clear c4b1
      try clear c5
      try clear c5b0
      try clear c5b1
      try clear p6
      try clear q6
      try clear hx6
      try clear qi6
      try clear hf6
      try clear c9
      try clear hx175_0
      try clear hx6_0
      try clear p6
      try clear q175
      try clear q6
      obtain ⟨x3_1, x4_1, x5_1, rfl, HA, HK1, HO_3, HO_4, HB⟩ := hrel
      have hl4_1 := (Kd.R_reads' HO_4.out).1
      rw [hl4_1] at HO_4
      (try simp only [hl4_1])
      (try simp only [hl4_1] at HO_3)
      cases gk with
      | zero => exact absurd HA.out (by simp [spec_l06Reached.l0])
      | succ k1 =>
       have H := HA.out
       clear HA
       simp only [spec_l06Reached.l0] at H
       (repeat (first | rw [rd1_T89] at H))
       by_cases c13 : x5_1 < (x3_1.length : Int)
       ·
        rw [if_pos c13] at H
        have c13b0 : decide (x5_1 < (x3_1.length : Int)) = true := decide_eq_true c13
        clear c13
        by_cases c14 : 0 < (l0.length : Int)
        ·
         rw [if_pos c14] at H
         have c14b0 : decide (0 < (l0.length : Int)) = true := decide_eq_true c14
         have c14b1 : decide (0 < l0.length) = true := decide_eq_true (by omega)
         clear c14
         by_cases c15 : 0 ≤ x5_1
         ·
          rw [if_pos c15] at H
          have c15b0 : decide (0 ≤ x5_1) = true := decide_eq_true c15
          clear c15
          by_cases c16 : 0 ≤ (rd x3_1 x5_1)
          ·
           rw [if_pos c16] at H
           have c16b0 : decide (0 ≤ (rd x3_1 x5_1)) = true := decide_eq_true c16
           clear c16
           by_cases c17 : (rd x3_1 x5_1) < (((rd_T34 l0 0).f0).length : Int)
           ·
            rw [if_pos c17] at H
            have c17b0 : decide ((rd x3_1 x5_1) < (((rd_T34 l0 0).f0).length : Int)) = true := decide_eq_true c17
            clear c17
            have H' := Aside0.mk H
            clear H
            obtain ⟨Ao18, co18, eo18⟩ := Kd.R_slice HO_3.out
            subst eo18
            have q180 : 0 < (l0.length : Int) := of_decide_eq_true (by assumption)
            obtain ⟨ad180, A180_0, c180_0, e180, hx180_0, hl180_0, hi180_0⟩ := rp_T34 HR0.out q180
            obtain rfl : ad175 = ad180 := (by injection e180)
            replace hx180_0 := (HB.out.cell (World.block_lt_of_cell? w _ hx180_0)).trans hx180_0
            have HR180_0 := Aside0.mk hi180_0
            have HC180_0 := Aside0.mk hl180_0
            clear hi180_0 hl180_0
            have p181 : 0 ≤ (x5_1 : Int) := of_decide_eq_true (by assumption)
            have q181 : x5_1 < (x3_1.length : Int) := of_decide_eq_true (by assumption)
            obtain ⟨ad181, e181, hx181_0⟩ := Kd.at_int (Kd.R_reads' HO_3.out).2.2 x5_1 p181 q181
            cases e181
            replace p181 := eq_true p181
            replace q181 := eq_true q181
            have p182 : 0 ≤ ((rd x3_1 x5_1) : Int) := of_decide_eq_true (by assumption)
            have q182 : (rd x3_1 x5_1) < (((rd_T34 l0 0).f0).length : Int) := of_decide_eq_true (by assumption)
            obtain ⟨ad182, e182, hx182_0, hx182_1, hx182_2, hx182_3, hx182_4⟩ := at_T89 HR180_0.out (rd x3_1 x5_1) p182 q182
            cases e182
            replace hx182_0 := (HB.out.cell (World.block_lt_of_cell? w _ hx182_0)).trans hx182_0
            replace hx182_1 := (HB.out.cell (World.block_lt_of_cell? w _ hx182_1)).trans hx182_1
            replace hx182_2 := (HB.out.cell (World.block_lt_of_cell? w _ hx182_2)).trans hx182_2
            replace hx182_3 := (HB.out.cell (World.block_lt_of_cell? w _ hx182_3)).trans hx182_3
            replace hx182_4 := (HB.out.cell (World.block_lt_of_cell? w _ hx182_4)).trans hx182_4
            replace p182 := eq_true p182
            replace q182 := eq_true q182
            have HR183 := Aside0.mk (show Kd.C k89 w (some (Addr.add ad182 ((rd x3_1 x5_1).toNat * 5))) [rd_T89 ((rd_T34 l0 0).f0) (rd x3_1 x5_1)].length [rd_T89 ((rd_T34 l0 0).f0) (rd x3_1 x5_1)] from Kd.C_el k89 z89 HR180_0.out ((rd x3_1 x5_1) : Int) (of_eq_true p182) (of_eq_true q182))
            go_wp2
            repeat (go_quiet (fail); try go_wp2)
            go_loopg [3, 7] k1 (fun kq v3 v7 w' => ∃ (x3_2 : List Int) (x4_2 : List Bool) (x7_2 : Int), v7 = .int .i64 x7_2 ∧ Aside0 (spec_l06Reached.l1 kq l0 x3_2 x4_2 x5_1 [rd_T89 ((rd_T34 l0 0).f0) (rd x3_1 x5_1)] x7_2 = some r) ∧ Aside0 (kq ≤ k1) ∧ Aside0 (Kd.R (Kd.int .i16) 85 w' w.heap.size (fun _ => True) v3 x3_2) ∧ Aside0 (Kd.R Kd.bool 4 w' w.heap.size (fun _ => True) (.slice (some ⟨go6, 0, none⟩) x4_1.length co6) x4_2) ∧ Aside0 (Below w.heap.size w w'))
            case atStart => exact ⟨(x3_1), (x4_1), (0), z4_3_, H', ⟨Nat.le_refl _⟩, ⟨by (try simp only [hl4_1]); (with_reducible repeat (first | apply Kd.R_alloc | apply Kd.R_drewN | apply Kd.R_drew)); exact HO_3.out⟩, ⟨by (try simp only [hl4_1]); (with_reducible repeat (first | apply Kd.R_alloc | apply Kd.R_drewN | apply Kd.R_drew)); exact HO_4.out⟩, ⟨by repeat (first | (with_reducible first | exact HB.out | apply below_alloc | apply pw_below_drewN | apply below_drew1) | exact HB.out)⟩⟩
            case round =>
             clear H'
             try clear c1
             try clear p1
             try clear q1
             try clear hx1
             try clear c2
             try clear c2b0
             try clear c2b1
             try clear p2
             try clear c3
             try clear c3b0
             try clear c3b1
             try clear c4
             try clear c4b0
             try clear c4b1
             try clear c5
             try clear c5b0
             try clear c5b1
             try clear p6
             try clear q6
             try clear hx6
             try clear qi6
             try clear hf6
             try clear c9
             try clear c13
             try clear c13b0
             try clear c14
             try clear c14b0
             try clear c14b1
             try clear c15
             try clear c15b0
             try clear c16
             try clear c16b0
             try clear c17
             try clear c17b0
             try clear q17
             try clear hx17
             try clear c18
             try clear p18
             try clear q18
             try clear hx18
             try clear hx175_0
             try clear hx180_0
             try clear hx181_0
             try clear hx182_0
             try clear hx182_1
             try clear hx182_2
             try clear hx182_3
             try clear hx182_4
             try clear hx6_0
             try clear p181
             try clear p182
             try clear p2
             try clear p6
             try clear q1
             try clear q175
             try clear q180
             try clear q181
             try clear q182
             try clear q6
             obtain ⟨x3_2, x4_2, x7_2, rfl, HA, HK2, HO_3, HO_4, HB⟩ := hrel
             have hl4_2 := (Kd.R_reads' HO_4.out).1
             rw [hl4_2] at HO_4
             (try simp only [hl4_2])
             (try simp only [hl4_2] at HO_3)
             cases gk with
             | zero => exact absurd HA.out (by simp [spec_l06Reached.l1])
             | succ k2 =>
              have H := HA.out
              clear HA
              simp only [spec_l06Reached.l1] at H
              (repeat (first | rw [rd1_T89] at H))
              replace H := Option.bind_eq_some_iff.mp H
              obtain ⟨t184, A190, H⟩ := H
              replace H : (if x7_2 < t184 then (if 0 < ([rd_T89 ((rd_T34 l0 0).f0) (rd x3_1 x5_1)].length : Int) then (if 0 ≤ x7_2 then (if x7_2 < 3 then (if 0 ≤ (rd [(rd_T89 ((rd_T34 l0 0).f0) (rd x3_1 x5_1)).f2.f0, (rd_T89 ((rd_T34 l0 0).f0) (rd x3_1 x5_1)).f2.f1, (rd_T89 ((rd_T34 l0 0).f0) (rd x3_1 x5_1)).f2.f2] x7_2) then (if (rd [(rd_T89 ((rd_T34 l0 0).f0) (rd x3_1 x5_1)).f2.f0, (rd_T89 ((rd_T34 l0 0).f0) (rd x3_1 x5_1)).f2.f1, (rd_T89 ((rd_T34 l0 0).f0) (rd x3_1 x5_1)).f2.f2] x7_2) < (x4_2.length : Int) then (if (rdOf false x4_2 (rd [(rd_T89 ((rd_T34 l0 0).f0) (rd x3_1 x5_1)).f2.f0, (rd_T89 ((rd_T34 l0 0).f0) (rd x3_1 x5_1)).f2.f1, (rd_T89 ((rd_T34 l0 0).f0) (rd x3_1 x5_1)).f2.f2] x7_2) = true) then (spec_l06Reached.l1 k2 l0 x3_2 x4_2 x5_1 [rd_T89 ((rd_T34 l0 0).f0) (rd x3_1 x5_1)] (wrap64 (x7_2 + 1))) else (if x3_2.length < 70368744177664 then (spec_l06Reached.l1 k2 l0 (x3_2 ++ [rd [(rd_T89 ((rd_T34 l0 0).f0) (rd x3_1 x5_1)).f2.f0, (rd_T89 ((rd_T34 l0 0).f0) (rd x3_1 x5_1)).f2.f1, (rd_T89 ((rd_T34 l0 0).f0) (rd x3_1 x5_1)).f2.f2] x7_2]) (x4_2.set ((rd [(rd_T89 ((rd_T34 l0 0).f0) (rd x3_1 x5_1)).f2.f0, (rd_T89 ((rd_T34 l0 0).f0) (rd x3_1 x5_1)).f2.f1, (rd_T89 ((rd_T34 l0 0).f0) (rd x3_1 x5_1)).f2.f2] x7_2) : Int).toNat true) x5_1 [rd_T89 ((rd_T34 l0 0).f0) (rd x3_1 x5_1)] (wrap64 (x7_2 + 1))) else (none))) else (none)) else (none)) else (none)) else (none)) else (none)) else (spec_l06Reached.l0 k2 l0 x3_2 x4_2 (wrap64 (x5_1 + 1)))) = some r := H
              have A19 := Aside0.mk A190
              clear A190
              by_cases c20 : x7_2 < t184
              ·
               rw [if_pos c20] at H
               have c20b0 : decide (x7_2 < t184) = true := decide_eq_true c20
               clear c20
               by_cases c21 : 0 < ([rd_T89 ((rd_T34 l0 0).f0) (rd x3_1 x5_1)].length : Int)
               ·
                rw [if_pos c21] at H
                have c21b0 : decide (0 < ([rd_T89 ((rd_T34 l0 0).f0) (rd x3_1 x5_1)].length : Int)) = true := decide_eq_true c21
                have c21b1 : decide (0 < [rd_T89 ((rd_T34 l0 0).f0) (rd x3_1 x5_1)].length) = true := decide_eq_true (by omega)
                clear c21
                by_cases c22 : 0 ≤ x7_2
                ·
                 rw [if_pos c22] at H
                 have c22b0 : decide (0 ≤ x7_2) = true := decide_eq_true c22
                 clear c22
                 by_cases c23 : x7_2 < 3
                 ·
                  rw [if_pos c23] at H
                  have c23b0 : decide (x7_2 < 3) = true := decide_eq_true c23
                  clear c23
                  by_cases c24 : 0 ≤ (rd [(rd_T89 ((rd_T34 l0 0).f0) (rd x3_1 x5_1)).f2.f0, (rd_T89 ((rd_T34 l0 0).f0) (rd x3_1 x5_1)).f2.f1, (rd_T89 ((rd_T34 l0 0).f0) (rd x3_1 x5_1)).f2.f2] x7_2)
                  ·
                   rw [if_pos c24] at H
                   have c24b0 : decide (0 ≤ (rd [(rd_T89 ((rd_T34 l0 0).f0) (rd x3_1 x5_1)).f2.f0, (rd_T89 ((rd_T34 l0 0).f0) (rd x3_1 x5_1)).f2.f1, (rd_T89 ((rd_T34 l0 0).f0) (rd x3_1 x5_1)).f2.f2] x7_2)) = true := decide_eq_true c24
                   clear c24
                   by_cases c25 : (rd [(rd_T89 ((rd_T34 l0 0).f0) (rd x3_1 x5_1)).f2.f0, (rd_T89 ((rd_T34 l0 0).f0) (rd x3_1 x5_1)).f2.f1, (rd_T89 ((rd_T34 l0 0).f0) (rd x3_1 x5_1)).f2.f2] x7_2) < (x4_2.length : Int)
                   ·
                    rw [if_pos c25] at H
                    have c25b0 : decide ((rd [(rd_T89 ((rd_T34 l0 0).f0) (rd x3_1 x5_1)).f2.f0, (rd_T89 ((rd_T34 l0 0).f0) (rd x3_1 x5_1)).f2.f1, (rd_T89 ((rd_T34 l0 0).f0) (rd x3_1 x5_1)).f2.f2] x7_2) < (x4_2.length : Int)) = true := decide_eq_true c25
                    clear c25
                    obtain ⟨bq26, hbq26⟩ : ∃ b_ : Bool, b_ = (rdOf false x4_2 (rd [(rd_T89 ((rd_T34 l0 0).f0) (rd x3_1 x5_1)).f2.f0, (rd_T89 ((rd_T34 l0 0).f0) (rd x3_1 x5_1)).f2.f1, (rd_T89 ((rd_T34 l0 0).f0) (rd x3_1 x5_1)).f2.f2] x7_2)) := ⟨_, rfl⟩
                    replace H : (if (bq26 = true) then (spec_l06Reached.l1 k2 l0 x3_2 x4_2 x5_1 [rd_T89 ((rd_T34 l0 0).f0) (rd x3_1 x5_1)] (wrap64 (x7_2 + 1))) else (if x3_2.length < 70368744177664 then (spec_l06Reached.l1 k2 l0 (x3_2 ++ [rd [(rd_T89 ((rd_T34 l0 0).f0) (rd x3_1 x5_1)).f2.f0, (rd_T89 ((rd_T34 l0 0).f0) (rd x3_1 x5_1)).f2.f1, (rd_T89 ((rd_T34 l0 0).f0) (rd x3_1 x5_1)).f2.f2] x7_2]) (x4_2.set ((rd [(rd_T89 ((rd_T34 l0 0).f0) (rd x3_1 x5_1)).f2.f0, (rd_T89 ((rd_T34 l0 0).f0) (rd x3_1 x5_1)).f2.f1, (rd_T89 ((rd_T34 l0 0).f0) (rd x3_1 x5_1)).f2.f2] x7_2) : Int).toNat true) x5_1 [rd_T89 ((rd_T34 l0 0).f0) (rd x3_1 x5_1)] (wrap64 (x7_2 + 1))) else (none))) = some r := by rw [← hbq26] at H; exact H
                    have Nbq26 := Aside0.mk hbq26
                    clear hbq26
                    by_cases c27 : (bq26 = true)
                    ·
                     subst c27
                     have H1 : (spec_l06Reached.l1 k2 l0 x3_2 x4_2 x5_1 [rd_T89 ((rd_T34 l0 0).f0) (rd x3_1 x5_1)] (wrap64 (x7_2 + 1))) = some r := by first | (rw [if_pos rfl] at H; exact H) | rfl
                     clear H
                     have H := H1
                     clear H1
                     have H' := Aside0.mk H
                     clear H
                     go_wp2_with (first | (go_at_call 68; (with_reducible refine (spec_l06Ways.calls _ ([rd_T89 ((rd_T34 l0 0).f0) (rd x3_1 x5_1)]).length [rd_T89 ((rd_T34 l0 0).f0) (rd x3_1 x5_1)] t184 _ ?side1 ?side2 A19.out).mono ?_); (case side1 => repeat (first | exact (Kd.C_below HR183.out HB.out) | (with_reducible refine Kd.C_alloc ?_ _) | (with_reducible refine Kd.C_drewN ?_ _) | (with_reducible refine Kd.C_drew ?_))); (case side2 => exact Nat.le_refl _); rintro e w' ⟨rfl, ⟨nd, rfl⟩⟩; (try first | exact ⟨rfl, _, World.drewN_drewN _ _ _⟩ | exact ⟨rfl, _, Eq.trans (World.drewN_drewN _ _ _) (congrArg (World.drewN _) (Nat.add_assoc _ _ _))⟩); have q185 : 0 < ([rd_T89 ((rd_T34 l0 0).f0) (rd x3_1 x5_1)].length : Int) := of_decide_eq_true (by assumption); obtain ⟨ad185, e185, hx185_0, hx185_1, hx185_2, hx185_3, hx185_4⟩ := rp_T89 HR183.out q185; (try simp only [rd1_T89] at hx185_0 hx185_1 hx185_2 hx185_3 hx185_4); obtain rfl : (Addr.add ad182 ((rd x3_1 x5_1).toNat * 5)) = ad185 := (by injection e185); replace hx185_0 := (HB.out.cell (World.block_lt_of_cell? w _ hx185_0)).trans hx185_0; replace hx185_1 := (HB.out.cell (World.block_lt_of_cell? w _ hx185_1)).trans hx185_1; replace hx185_2 := (HB.out.cell (World.block_lt_of_cell? w _ hx185_2)).trans hx185_2; replace hx185_3 := (HB.out.cell (World.block_lt_of_cell? w _ hx185_3)).trans hx185_3; replace hx185_4 := (HB.out.cell (World.block_lt_of_cell? w _ hx185_4)).trans hx185_4; have p186 : 0 ≤ (x7_2 : Int) := of_decide_eq_true (by assumption); have q186 : (x7_2 : Int) < 3 := of_decide_eq_true (by assumption); have hx186_0 := cell_arr3 hx185_2 hx185_3 hx185_4 x7_2 p186 q186; (try simp only [Nat.zero_add, Nat.add_zero] at hx186_0); replace p186 := eq_true p186; replace q186 := eq_true q186; have p187 : 0 ≤ ((rd [(rd_T89 ((rd_T34 l0 0).f0) (rd x3_1 x5_1)).f2.f0, (rd_T89 ((rd_T34 l0 0).f0) (rd x3_1 x5_1)).f2.f1, (rd_T89 ((rd_T34 l0 0).f0) (rd x3_1 x5_1)).f2.f2] x7_2) : Int) := of_decide_eq_true (by assumption); have q187 : (rd [(rd_T89 ((rd_T34 l0 0).f0) (rd x3_1 x5_1)).f2.f0, (rd_T89 ((rd_T34 l0 0).f0) (rd x3_1 x5_1)).f2.f1, (rd_T89 ((rd_T34 l0 0).f0) (rd x3_1 x5_1)).f2.f2] x7_2) < (x4_2.length : Int) := of_decide_eq_true (by assumption); obtain ⟨ad187, e187, hx187_0⟩ := Kd.at_bool (Kd.R_reads' HO_4.out).2.2 (rd [(rd_T89 ((rd_T34 l0 0).f0) (rd x3_1 x5_1)).f2.f0, (rd_T89 ((rd_T34 l0 0).f0) (rd x3_1 x5_1)).f2.f1, (rd_T89 ((rd_T34 l0 0).f0) (rd x3_1 x5_1)).f2.f2] x7_2) p187 q187; (try rw [← Nbq26.out] at hx187_0); obtain rfl : (⟨go6, 0, none⟩ : Addr) = ad187 := (by injection e187); (first | simp only [add_plain] at hx187_0 | simp only [add_at] at hx187_0 | simp only [Addr.add, Nat.zero_add] at hx187_0 | skip); replace p187 := eq_true p187; replace q187 := eq_true q187))
                     repeat (go_quiet (first | (go_at_call 68; (with_reducible refine (spec_l06Ways.calls _ ([rd_T89 ((rd_T34 l0 0).f0) (rd x3_1 x5_1)]).length [rd_T89 ((rd_T34 l0 0).f0) (rd x3_1 x5_1)] t184 _ ?side1 ?side2 A19.out).mono ?_); (case side1 => repeat (first | exact (Kd.C_below HR183.out HB.out) | (with_reducible refine Kd.C_alloc ?_ _) | (with_reducible refine Kd.C_drewN ?_ _) | (with_reducible refine Kd.C_drew ?_))); (case side2 => exact Nat.le_refl _); rintro e w' ⟨rfl, ⟨nd, rfl⟩⟩; (try first | exact ⟨rfl, _, World.drewN_drewN _ _ _⟩ | exact ⟨rfl, _, Eq.trans (World.drewN_drewN _ _ _) (congrArg (World.drewN _) (Nat.add_assoc _ _ _))⟩); have q185 : 0 < ([rd_T89 ((rd_T34 l0 0).f0) (rd x3_1 x5_1)].length : Int) := of_decide_eq_true (by assumption); obtain ⟨ad185, e185, hx185_0, hx185_1, hx185_2, hx185_3, hx185_4⟩ := rp_T89 HR183.out q185; (try simp only [rd1_T89] at hx185_0 hx185_1 hx185_2 hx185_3 hx185_4); obtain rfl : (Addr.add ad182 ((rd x3_1 x5_1).toNat * 5)) = ad185 := (by injection e185); replace hx185_0 := (HB.out.cell (World.block_lt_of_cell? w _ hx185_0)).trans hx185_0; replace hx185_1 := (HB.out.cell (World.block_lt_of_cell? w _ hx185_1)).trans hx185_1; replace hx185_2 := (HB.out.cell (World.block_lt_of_cell? w _ hx185_2)).trans hx185_2; replace hx185_3 := (HB.out.cell (World.block_lt_of_cell? w _ hx185_3)).trans hx185_3; replace hx185_4 := (HB.out.cell (World.block_lt_of_cell? w _ hx185_4)).trans hx185_4; have p186 : 0 ≤ (x7_2 : Int) := of_decide_eq_true (by assumption); have q186 : (x7_2 : Int) < 3 := of_decide_eq_true (by assumption); have hx186_0 := cell_arr3 hx185_2 hx185_3 hx185_4 x7_2 p186 q186; (try simp only [Nat.zero_add, Nat.add_zero] at hx186_0); replace p186 := eq_true p186; replace q186 := eq_true q186; have p187 : 0 ≤ ((rd [(rd_T89 ((rd_T34 l0 0).f0) (rd x3_1 x5_1)).f2.f0, (rd_T89 ((rd_T34 l0 0).f0) (rd x3_1 x5_1)).f2.f1, (rd_T89 ((rd_T34 l0 0).f0) (rd x3_1 x5_1)).f2.f2] x7_2) : Int) := of_decide_eq_true (by assumption); have q187 : (rd [(rd_T89 ((rd_T34 l0 0).f0) (rd x3_1 x5_1)).f2.f0, (rd_T89 ((rd_T34 l0 0).f0) (rd x3_1 x5_1)).f2.f1, (rd_T89 ((rd_T34 l0 0).f0) (rd x3_1 x5_1)).f2.f2] x7_2) < (x4_2.length : Int) := of_decide_eq_true (by assumption); obtain ⟨ad187, e187, hx187_0⟩ := Kd.at_bool (Kd.R_reads' HO_4.out).2.2 (rd [(rd_T89 ((rd_T34 l0 0).f0) (rd x3_1 x5_1)).f2.f0, (rd_T89 ((rd_T34 l0 0).f0) (rd x3_1 x5_1)).f2.f1, (rd_T89 ((rd_T34 l0 0).f0) (rd x3_1 x5_1)).f2.f2] x7_2) p187 q187; (try rw [← Nbq26.out] at hx187_0); obtain rfl : (⟨go6, 0, none⟩ : Addr) = ad187 := (by injection e187); (first | simp only [add_plain] at hx187_0 | simp only [add_at] at hx187_0 | simp only [Addr.add, Nat.zero_add] at hx187_0 | skip); replace p187 := eq_true p187; replace q187 := eq_true q187)); try go_wp2_with (first | (go_at_call 68; (with_reducible refine (spec_l06Ways.calls _ ([rd_T89 ((rd_T34 l0 0).f0) (rd x3_1 x5_1)]).length [rd_T89 ((rd_T34 l0 0).f0) (rd x3_1 x5_1)] t184 _ ?side1 ?side2 A19.out).mono ?_); (case side1 => repeat (first | exact (Kd.C_below HR183.out HB.out) | (with_reducible refine Kd.C_alloc ?_ _) | (with_reducible refine Kd.C_drewN ?_ _) | (with_reducible refine Kd.C_drew ?_))); (case side2 => exact Nat.le_refl _); rintro e w' ⟨rfl, ⟨nd, rfl⟩⟩; (try first | exact ⟨rfl, _, World.drewN_drewN _ _ _⟩ | exact ⟨rfl, _, Eq.trans (World.drewN_drewN _ _ _) (congrArg (World.drewN _) (Nat.add_assoc _ _ _))⟩); have q185 : 0 < ([rd_T89 ((rd_T34 l0 0).f0) (rd x3_1 x5_1)].length : Int) := of_decide_eq_true (by assumption); obtain ⟨ad185, e185, hx185_0, hx185_1, hx185_2, hx185_3, hx185_4⟩ := rp_T89 HR183.out q185; (try simp only [rd1_T89] at hx185_0 hx185_1 hx185_2 hx185_3 hx185_4); obtain rfl : (Addr.add ad182 ((rd x3_1 x5_1).toNat * 5)) = ad185 := (by injection e185); replace hx185_0 := (HB.out.cell (World.block_lt_of_cell? w _ hx185_0)).trans hx185_0; replace hx185_1 := (HB.out.cell (World.block_lt_of_cell? w _ hx185_1)).trans hx185_1; replace hx185_2 := (HB.out.cell (World.block_lt_of_cell? w _ hx185_2)).trans hx185_2; replace hx185_3 := (HB.out.cell (World.block_lt_of_cell? w _ hx185_3)).trans hx185_3; replace hx185_4 := (HB.out.cell (World.block_lt_of_cell? w _ hx185_4)).trans hx185_4; have p186 : 0 ≤ (x7_2 : Int) := of_decide_eq_true (by assumption); have q186 : (x7_2 : Int) < 3 := of_decide_eq_true (by assumption); have hx186_0 := cell_arr3 hx185_2 hx185_3 hx185_4 x7_2 p186 q186; (try simp only [Nat.zero_add, Nat.add_zero] at hx186_0); replace p186 := eq_true p186; replace q186 := eq_true q186; have p187 : 0 ≤ ((rd [(rd_T89 ((rd_T34 l0 0).f0) (rd x3_1 x5_1)).f2.f0, (rd_T89 ((rd_T34 l0 0).f0) (rd x3_1 x5_1)).f2.f1, (rd_T89 ((rd_T34 l0 0).f0) (rd x3_1 x5_1)).f2.f2] x7_2) : Int) := of_decide_eq_true (by assumption); have q187 : (rd [(rd_T89 ((rd_T34 l0 0).f0) (rd x3_1 x5_1)).f2.f0, (rd_T89 ((rd_T34 l0 0).f0) (rd x3_1 x5_1)).f2.f1, (rd_T89 ((rd_T34 l0 0).f0) (rd x3_1 x5_1)).f2.f2] x7_2) < (x4_2.length : Int) := of_decide_eq_true (by assumption); obtain ⟨ad187, e187, hx187_0⟩ := Kd.at_bool (Kd.R_reads' HO_4.out).2.2 (rd [(rd_T89 ((rd_T34 l0 0).f0) (rd x3_1 x5_1)).f2.f0, (rd_T89 ((rd_T34 l0 0).f0) (rd x3_1 x5_1)).f2.f1, (rd_T89 ((rd_T34 l0 0).f0) (rd x3_1 x5_1)).f2.f2] x7_2) p187 q187; (try rw [← Nbq26.out] at hx187_0); obtain rfl : (⟨go6, 0, none⟩ : Addr) = ad187 := (by injection e187); (first | simp only [add_plain] at hx187_0 | simp only [add_at] at hx187_0 | simp only [Addr.add, Nat.zero_add] at hx187_0 | skip); replace p187 := eq_true p187; replace q187 := eq_true q187)))
                     (try simp only [← hl4_2])
                     go_roundg k2
                     case measure => have := HK1.out; have := HK2.out; omega
                     case rel => exact ⟨(x3_2), (x4_2), (wrap64 (x7_2 + 1)), z4_3_, H', ⟨by have := HK1.out; have := HK2.out; omega⟩, ⟨by (try simp only [hl4_1]); (try simp only [hl4_2]); (with_reducible repeat (first | apply Kd.R_alloc | apply Kd.R_drewN | apply Kd.R_drew)); exact HO_3.out⟩, ⟨by (try simp only [hl4_1]); (try simp only [hl4_2]); (with_reducible repeat (first | apply Kd.R_alloc | apply Kd.R_drewN | apply Kd.R_drew)); exact HO_4.out⟩, ⟨by repeat (first | (with_reducible first | exact HB.out | apply below_alloc | apply pw_below_drewN | apply below_drew1) | exact HB.out)⟩⟩
                    ·
                     replace c27 := Bool.eq_false_iff.mpr c27
                     subst c27
                     have H1 : (if x3_2.length < 70368744177664 then (spec_l06Reached.l1 k2 l0 (x3_2 ++ [rd [(rd_T89 ((rd_T34 l0 0).f0) (rd x3_1 x5_1)).f2.f0, (rd_T89 ((rd_T34 l0 0).f0) (rd x3_1 x5_1)).f2.f1, (rd_T89 ((rd_T34 l0 0).f0) (rd x3_1 x5_1)).f2.f2] x7_2]) (x4_2.set ((rd [(rd_T89 ((rd_T34 l0 0).f0) (rd x3_1 x5_1)).f2.f0, (rd_T89 ((rd_T34 l0 0).f0) (rd x3_1 x5_1)).f2.f1, (rd_T89 ((rd_T34 l0 0).f0) (rd x3_1 x5_1)).f2.f2] x7_2) : Int).toNat true) x5_1 [rd_T89 ((rd_T34 l0 0).f0) (rd x3_1 x5_1)] (wrap64 (x7_2 + 1))) else (none)) = some r := by first | (rw [if_neg (show ¬ (false = true) by decide)] at H; exact H) | rfl
                     clear H
                     have H := H1
                     clear H1
                     obtain ⟨y189, hy189⟩ : ∃ y_ : List Bool, y_ = (x4_2.set ((rd [(rd_T89 ((rd_T34 l0 0).f0) (rd x3_1 x5_1)).f2.f0, (rd_T89 ((rd_T34 l0 0).f0) (rd x3_1 x5_1)).f2.f1, (rd_T89 ((rd_T34 l0 0).f0) (rd x3_1 x5_1)).f2.f2] x7_2) : Int).toNat true) := ⟨_, rfl⟩
                     replace H : (if x3_2.length < 70368744177664 then (spec_l06Reached.l1 k2 l0 (x3_2 ++ [rd [(rd_T89 ((rd_T34 l0 0).f0) (rd x3_1 x5_1)).f2.f0, (rd_T89 ((rd_T34 l0 0).f0) (rd x3_1 x5_1)).f2.f1, (rd_T89 ((rd_T34 l0 0).f0) (rd x3_1 x5_1)).f2.f2] x7_2]) y189 x5_1 [rd_T89 ((rd_T34 l0 0).f0) (rd x3_1 x5_1)] (wrap64 (x7_2 + 1))) else (none)) = some r := by first | (rw [hy189]; with_reducible exact H) | (have H2_ := (Option.bind_some _ _).symm.trans H; rw [hy189]; with_reducible exact H2_) | (have H2_ := (Option.bind_some _ _).symm.trans H; with_reducible exact H2_) | with_reducible exact H | (rw [hy189]; exact H) | exact H
                     have Ny189 := Aside0.mk hy189
                     clear hy189
                     by_cases c29 : x3_2.length < 70368744177664
                     ·
                      rw [if_pos c29] at H
                      have LMc29 := Aside0.mk c29
                      clear c29
                      obtain ⟨y192, hy192⟩ : ∃ y_ : List Int, y_ = (x3_2 ++ [rd [(rd_T89 ((rd_T34 l0 0).f0) (rd x3_1 x5_1)).f2.f0, (rd_T89 ((rd_T34 l0 0).f0) (rd x3_1 x5_1)).f2.f1, (rd_T89 ((rd_T34 l0 0).f0) (rd x3_1 x5_1)).f2.f2] x7_2]) := ⟨_, rfl⟩
                      replace H : (spec_l06Reached.l1 k2 l0 y192 y189 x5_1 [rd_T89 ((rd_T34 l0 0).f0) (rd x3_1 x5_1)] (wrap64 (x7_2 + 1))) = some r := by first | (rw [hy192]; with_reducible exact H) | (have H2_ := (Option.bind_some _ _).symm.trans H; rw [hy192]; with_reducible exact H2_) | (have H2_ := (Option.bind_some _ _).symm.trans H; with_reducible exact H2_) | with_reducible exact H | (rw [hy192]; exact H) | exact H
                      have Ny192 := Aside0.mk hy192
                      clear hy192
                      have H' := Aside0.mk H
                      clear H
                      go_wp2_with (first | (go_at_call 68; (with_reducible refine (spec_l06Ways.calls _ ([rd_T89 ((rd_T34 l0 0).f0) (rd x3_1 x5_1)]).length [rd_T89 ((rd_T34 l0 0).f0) (rd x3_1 x5_1)] t184 _ ?side1 ?side2 A19.out).mono ?_); (case side1 => repeat (first | exact (Kd.C_below HR183.out HB.out) | (with_reducible refine Kd.C_alloc ?_ _) | (with_reducible refine Kd.C_drewN ?_ _) | (with_reducible refine Kd.C_drew ?_))); (case side2 => exact Nat.le_refl _); rintro e w' ⟨rfl, ⟨nd, rfl⟩⟩; (try first | exact ⟨rfl, _, World.drewN_drewN _ _ _⟩ | exact ⟨rfl, _, Eq.trans (World.drewN_drewN _ _ _) (congrArg (World.drewN _) (Nat.add_assoc _ _ _))⟩); have q185 : 0 < ([rd_T89 ((rd_T34 l0 0).f0) (rd x3_1 x5_1)].length : Int) := of_decide_eq_true (by assumption); obtain ⟨ad185, e185, hx185_0, hx185_1, hx185_2, hx185_3, hx185_4⟩ := rp_T89 HR183.out q185; (try simp only [rd1_T89] at hx185_0 hx185_1 hx185_2 hx185_3 hx185_4); obtain rfl : (Addr.add ad182 ((rd x3_1 x5_1).toNat * 5)) = ad185 := (by injection e185); replace hx185_0 := (HB.out.cell (World.block_lt_of_cell? w _ hx185_0)).trans hx185_0; replace hx185_1 := (HB.out.cell (World.block_lt_of_cell? w _ hx185_1)).trans hx185_1; replace hx185_2 := (HB.out.cell (World.block_lt_of_cell? w _ hx185_2)).trans hx185_2; replace hx185_3 := (HB.out.cell (World.block_lt_of_cell? w _ hx185_3)).trans hx185_3; replace hx185_4 := (HB.out.cell (World.block_lt_of_cell? w _ hx185_4)).trans hx185_4; have p186 : 0 ≤ (x7_2 : Int) := of_decide_eq_true (by assumption); have q186 : (x7_2 : Int) < 3 := of_decide_eq_true (by assumption); have hx186_0 := cell_arr3 hx185_2 hx185_3 hx185_4 x7_2 p186 q186; (try simp only [Nat.zero_add, Nat.add_zero] at hx186_0); replace p186 := eq_true p186; replace q186 := eq_true q186; have p187 : 0 ≤ ((rd [(rd_T89 ((rd_T34 l0 0).f0) (rd x3_1 x5_1)).f2.f0, (rd_T89 ((rd_T34 l0 0).f0) (rd x3_1 x5_1)).f2.f1, (rd_T89 ((rd_T34 l0 0).f0) (rd x3_1 x5_1)).f2.f2] x7_2) : Int) := of_decide_eq_true (by assumption); have q187 : (rd [(rd_T89 ((rd_T34 l0 0).f0) (rd x3_1 x5_1)).f2.f0, (rd_T89 ((rd_T34 l0 0).f0) (rd x3_1 x5_1)).f2.f1, (rd_T89 ((rd_T34 l0 0).f0) (rd x3_1 x5_1)).f2.f2] x7_2) < (x4_2.length : Int) := of_decide_eq_true (by assumption); obtain ⟨ad187, e187, hx187_0⟩ := Kd.at_bool (Kd.R_reads' HO_4.out).2.2 (rd [(rd_T89 ((rd_T34 l0 0).f0) (rd x3_1 x5_1)).f2.f0, (rd_T89 ((rd_T34 l0 0).f0) (rd x3_1 x5_1)).f2.f1, (rd_T89 ((rd_T34 l0 0).f0) (rd x3_1 x5_1)).f2.f2] x7_2) p187 q187; (try rw [← Nbq26.out] at hx187_0); obtain rfl : (⟨go6, 0, none⟩ : Addr) = ad187 := (by injection e187); (first | simp only [add_plain] at hx187_0 | simp only [add_at] at hx187_0 | simp only [Addr.add, Nat.zero_add] at hx187_0 | skip); replace p187 := eq_true p187; replace q187 := eq_true q187; have p188 : 0 ≤ (x7_2 : Int) := of_decide_eq_true (by assumption); have q188 : (x7_2 : Int) < 3 := of_decide_eq_true (by assumption); have hx188_0 := cell_arr3 hx185_2 hx185_3 hx185_4 x7_2 p188 q188; (try simp only [Nat.zero_add, Nat.add_zero] at hx188_0); replace p188 := eq_true p188; replace q188 := eq_true q188; have p28 : 0 ≤ ((rd [(rd_T89 ((rd_T34 l0 0).f0) (rd x3_1 x5_1)).f2.f0, (rd_T89 ((rd_T34 l0 0).f0) (rd x3_1 x5_1)).f2.f1, (rd_T89 ((rd_T34 l0 0).f0) (rd x3_1 x5_1)).f2.f2] x7_2) : Int) := of_decide_eq_true (by assumption); have q28 : ((rd [(rd_T89 ((rd_T34 l0 0).f0) (rd x3_1 x5_1)).f2.f0, (rd_T89 ((rd_T34 l0 0).f0) (rd x3_1 x5_1)).f2.f1, (rd_T89 ((rd_T34 l0 0).f0) (rd x3_1 x5_1)).f2.f2] x7_2) : Int) < ((x4_2.length : Int) : Int) := of_decide_eq_true (by assumption); obtain ⟨hx28_0, hf28_0⟩ := Kd.R_celln false HO_4.out ((rd [(rd_T89 ((rd_T34 l0 0).f0) (rd x3_1 x5_1)).f2.f0, (rd_T89 ((rd_T34 l0 0).f0) (rd x3_1 x5_1)).f2.f1, (rd_T89 ((rd_T34 l0 0).f0) (rd x3_1 x5_1)).f2.f2] x7_2) : Int) p28 q28; replace p28 := eq_true p28; replace q28 := eq_true q28; obtain ⟨hy30_, hz30_⟩ := Kd.R_celln false HO_4.out ((rd [(rd_T89 ((rd_T34 l0 0).f0) (rd x3_1 x5_1)).f2.f0, (rd_T89 ((rd_T34 l0 0).f0) (rd x3_1 x5_1)).f2.f1, (rd_T89 ((rd_T34 l0 0).f0) (rd x3_1 x5_1)).f2.f2] x7_2) : Int) (of_decide_eq_true (by assumption)) (of_decide_eq_true (by assumption)); have HP30 := Kd.R_putg HO_4.out ((rd [(rd_T89 ((rd_T34 l0 0).f0) (rd x3_1 x5_1)).f2.f0, (rd_T89 ((rd_T34 l0 0).f0) (rd x3_1 x5_1)).f2.f1, (rd_T89 ((rd_T34 l0 0).f0) (rd x3_1 x5_1)).f2.f2] x7_2) : Int) true) | ((with_reducible refine gate_store (t := 4) (p := 55) rfl ?_); (try (rw [drewN_self wr]; generalize hq_ : World.drewN wr _ = wr; have n0_ := Aside0.mk (Kd.R_at hq_ HO_3.out); have n1_ := Aside0.mk (Kd.R_at hq_ HO_4.out); have n2_ := Aside0.mk (below_at hq_ HB.out); clear hq_ HO_3 HO_4 HB; have HO_3 := n0_; have HO_4 := n1_; have HB := n2_; clear n0_ n1_ n2_; (try (obtain ⟨hy30_, hz30_⟩ := Kd.R_celln false HO_4.out ((rd [(rd_T89 ((rd_T34 l0 0).f0) (rd x3_1 x5_1)).f2.f0, (rd_T89 ((rd_T34 l0 0).f0) (rd x3_1 x5_1)).f2.f1, (rd_T89 ((rd_T34 l0 0).f0) (rd x3_1 x5_1)).f2.f2] x7_2) : Int) (of_decide_eq_true (by assumption)) (of_decide_eq_true (by assumption)))); (try (have HP30 := Kd.R_putg HO_4.out ((rd [(rd_T89 ((rd_T34 l0 0).f0) (rd x3_1 x5_1)).f2.f0, (rd_T89 ((rd_T34 l0 0).f0) (rd x3_1 x5_1)).f2.f1, (rd_T89 ((rd_T34 l0 0).f0) (rd x3_1 x5_1)).f2.f2] x7_2) : Int) true)))); refine store_event (t := 4) (p := 55) (v := ?vo_w31) (w1 := (wr.setCell ⟨go6, ((rd [(rd_T89 ((rd_T34 l0 0).f0) (rd x3_1 x5_1)).f2.f0, (rd_T89 ((rd_T34 l0 0).f0) (rd x3_1 x5_1)).f2.f1, (rd_T89 ((rd_T34 l0 0).f0) (rd x3_1 x5_1)).f2.f2] x7_2) : Int).toNat, none⟩ (.bool true))) ?hg ?ho ?hn ?hr ?_; (case ho => rfl); (case hg => rfl); (case hn => rfl); (case hr => first | (go_simp; done) | (go_simp; rfl)); intro w31 hw; have hg : wr.grownBy w31 (some go6) := (by rw [hw]; exact HP30.2); have hp_ : Kd.R Kd.bool 4 w31 w.heap.size (fun _ => True) (.slice (some ⟨go6, 0, none⟩) x4_2.length co6) y189 := (by rw [hw, Ny189.out]; exact HP30.1); clear HP30; have n0_ := Aside0.mk (Kd.R_over' (v := (.slice (some ⟨go6, 0, none⟩) x4_2.length co6)) z4_2_ (Kd.R_typed HO_4.out) (by decide) hg); have n1_ := Aside0.mk (hp_); have n2_ := Aside0.mk ((by rw [hw]; exact below_set (HB.out) GB6.out : Below w.heap.size w w31)); clear HO_3; clear HO_4; clear HB; have HO_3 := n0_; have HO_4 := n1_; have HB := n2_; clear n0_ n1_ n2_; clear hg hw hp_; have q190 : 0 < ([rd_T89 ((rd_T34 l0 0).f0) (rd x3_1 x5_1)].length : Int) := of_decide_eq_true (by assumption); obtain ⟨ad190, e190, hx190_0, hx190_1, hx190_2, hx190_3, hx190_4⟩ := rp_T89 HR183.out q190; (try simp only [rd1_T89] at hx190_0 hx190_1 hx190_2 hx190_3 hx190_4); obtain rfl : (Addr.add ad182 ((rd x3_1 x5_1).toNat * 5)) = ad190 := (by injection e190); replace hx190_0 := (HB.out.cell (World.block_lt_of_cell? w _ hx190_0)).trans hx190_0; replace hx190_1 := (HB.out.cell (World.block_lt_of_cell? w _ hx190_1)).trans hx190_1; replace hx190_2 := (HB.out.cell (World.block_lt_of_cell? w _ hx190_2)).trans hx190_2; replace hx190_3 := (HB.out.cell (World.block_lt_of_cell? w _ hx190_3)).trans hx190_3; replace hx190_4 := (HB.out.cell (World.block_lt_of_cell? w _ hx190_4)).trans hx190_4; have p191 : 0 ≤ (x7_2 : Int) := of_decide_eq_true (by assumption); have q191 : (x7_2 : Int) < 3 := of_decide_eq_true (by assumption); have hx191_0 := cell_arr3 hx190_2 hx190_3 hx190_4 x7_2 p191 q191; (try simp only [Nat.zero_add, Nat.add_zero] at hx191_0); replace p191 := eq_true p191; replace q191 := eq_true q191) | ((with_reducible refine gate_builtin (b := .append) (xs := #[.tmp 56, .tmp 63]) rfl ?_); at_builtin; refine Kd.R_append (Kd.int .i16) (w0 := w) w.heap.size rfl (.tmp 56) (.tmp 63) 139 85 (.int .i16 0) 2 rfl Try.underlying139 info85 rfl (by decide) (by omega) u3 x3_2 (rd [(rd_T89 ((rd_T34 l0 0).f0) (rd x3_1 x5_1)).f2.f0, (rd_T89 ((rd_T34 l0 0).f0) (rd x3_1 x5_1)).f2.f1, (rd_T89 ((rd_T34 l0 0).f0) (rd x3_1 x5_1)).f2.f2] x7_2) [.int .i16 (rd [(rd_T89 ((rd_T34 l0 0).f0) (rd x3_1 x5_1)).f2.f0, (rd_T89 ((rd_T34 l0 0).f0) (rd x3_1 x5_1)).f2.f1, (rd_T89 ((rd_T34 l0 0).f0) (rd x3_1 x5_1)).f2.f2] x7_2)] (fun _ => True) (fun _ => False) rfl rfl ?aP (fun _ hk => hk.elim) ?aF ?aO ?aB ?aS ?aL ?_; (case aP => exact rfl); (case aB => exact z4_1_); (case aF => exact (fun _ _ => trivial)); (case aO => exact z4_2_); (case aS => exact (below_size z4_1_)); (case aL => have := LMc29.out; omega); intro v193 w32 ho hb hg hat; rw [← Ny192.out] at ho; have n0_ := Aside0.mk (Kd.R_over' z4_6_ (Kd.R_typed z4_2_) (by decide) hg); have n1_ := Aside0.mk (hb); have n2_ := Aside0.mk (ho); clear HO_4; clear HB; clear HO_3; have HO_4 := n0_; have HB := n1_; have HO194 := n2_; clear n0_ n1_ n2_; clear ho hb hg hat))
                      repeat (go_quiet (first | (go_at_call 68; (with_reducible refine (spec_l06Ways.calls _ ([rd_T89 ((rd_T34 l0 0).f0) (rd x3_1 x5_1)]).length [rd_T89 ((rd_T34 l0 0).f0) (rd x3_1 x5_1)] t184 _ ?side1 ?side2 A19.out).mono ?_); (case side1 => repeat (first | exact (Kd.C_below HR183.out HB.out) | (with_reducible refine Kd.C_alloc ?_ _) | (with_reducible refine Kd.C_drewN ?_ _) | (with_reducible refine Kd.C_drew ?_))); (case side2 => exact Nat.le_refl _); rintro e w' ⟨rfl, ⟨nd, rfl⟩⟩; (try first | exact ⟨rfl, _, World.drewN_drewN _ _ _⟩ | exact ⟨rfl, _, Eq.trans (World.drewN_drewN _ _ _) (congrArg (World.drewN _) (Nat.add_assoc _ _ _))⟩); have q185 : 0 < ([rd_T89 ((rd_T34 l0 0).f0) (rd x3_1 x5_1)].length : Int) := of_decide_eq_true (by assumption); obtain ⟨ad185, e185, hx185_0, hx185_1, hx185_2, hx185_3, hx185_4⟩ := rp_T89 HR183.out q185; (try simp only [rd1_T89] at hx185_0 hx185_1 hx185_2 hx185_3 hx185_4); obtain rfl : (Addr.add ad182 ((rd x3_1 x5_1).toNat * 5)) = ad185 := (by injection e185); replace hx185_0 := (HB.out.cell (World.block_lt_of_cell? w _ hx185_0)).trans hx185_0; replace hx185_1 := (HB.out.cell (World.block_lt_of_cell? w _ hx185_1)).trans hx185_1; replace hx185_2 := (HB.out.cell (World.block_lt_of_cell? w _ hx185_2)).trans hx185_2; replace hx185_3 := (HB.out.cell (World.block_lt_of_cell? w _ hx185_3)).trans hx185_3; replace hx185_4 := (HB.out.cell (World.block_lt_of_cell? w _ hx185_4)).trans hx185_4; have p186 : 0 ≤ (x7_2 : Int) := of_decide_eq_true (by assumption); have q186 : (x7_2 : Int) < 3 := of_decide_eq_true (by assumption); have hx186_0 := cell_arr3 hx185_2 hx185_3 hx185_4 x7_2 p186 q186; (try simp only [Nat.zero_add, Nat.add_zero] at hx186_0); replace p186 := eq_true p186; replace q186 := eq_true q186; have p187 : 0 ≤ ((rd [(rd_T89 ((rd_T34 l0 0).f0) (rd x3_1 x5_1)).f2.f0, (rd_T89 ((rd_T34 l0 0).f0) (rd x3_1 x5_1)).f2.f1, (rd_T89 ((rd_T34 l0 0).f0) (rd x3_1 x5_1)).f2.f2] x7_2) : Int) := of_decide_eq_true (by assumption); have q187 : (rd [(rd_T89 ((rd_T34 l0 0).f0) (rd x3_1 x5_1)).f2.f0, (rd_T89 ((rd_T34 l0 0).f0) (rd x3_1 x5_1)).f2.f1, (rd_T89 ((rd_T34 l0 0).f0) (rd x3_1 x5_1)).f2.f2] x7_2) < (x4_2.length : Int) := of_decide_eq_true (by assumption); obtain ⟨ad187, e187, hx187_0⟩ := Kd.at_bool (Kd.R_reads' HO_4.out).2.2 (rd [(rd_T89 ((rd_T34 l0 0).f0) (rd x3_1 x5_1)).f2.f0, (rd_T89 ((rd_T34 l0 0).f0) (rd x3_1 x5_1)).f2.f1, (rd_T89 ((rd_T34 l0 0).f0) (rd x3_1 x5_1)).f2.f2] x7_2) p187 q187; (try rw [← Nbq26.out] at hx187_0); obtain rfl : (⟨go6, 0, none⟩ : Addr) = ad187 := (by injection e187); (first | simp only [add_plain] at hx187_0 | simp only [add_at] at hx187_0 | simp only [Addr.add, Nat.zero_add] at hx187_0 | skip); replace p187 := eq_true p187; replace q187 := eq_true q187; have p188 : 0 ≤ (x7_2 : Int) := of_decide_eq_true (by assumption); have q188 : (x7_2 : Int) < 3 := of_decide_eq_true (by assumption); have hx188_0 := cell_arr3 hx185_2 hx185_3 hx185_4 x7_2 p188 q188; (try simp only [Nat.zero_add, Nat.add_zero] at hx188_0); replace p188 := eq_true p188; replace q188 := eq_true q188; have p28 : 0 ≤ ((rd [(rd_T89 ((rd_T34 l0 0).f0) (rd x3_1 x5_1)).f2.f0, (rd_T89 ((rd_T34 l0 0).f0) (rd x3_1 x5_1)).f2.f1, (rd_T89 ((rd_T34 l0 0).f0) (rd x3_1 x5_1)).f2.f2] x7_2) : Int) := of_decide_eq_true (by assumption); have q28 : ((rd [(rd_T89 ((rd_T34 l0 0).f0) (rd x3_1 x5_1)).f2.f0, (rd_T89 ((rd_T34 l0 0).f0) (rd x3_1 x5_1)).f2.f1, (rd_T89 ((rd_T34 l0 0).f0) (rd x3_1 x5_1)).f2.f2] x7_2) : Int) < ((x4_2.length : Int) : Int) := of_decide_eq_true (by assumption); obtain ⟨hx28_0, hf28_0⟩ := Kd.R_celln false HO_4.out ((rd [(rd_T89 ((rd_T34 l0 0).f0) (rd x3_1 x5_1)).f2.f0, (rd_T89 ((rd_T34 l0 0).f0) (rd x3_1 x5_1)).f2.f1, (rd_T89 ((rd_T34 l0 0).f0) (rd x3_1 x5_1)).f2.f2] x7_2) : Int) p28 q28; replace p28 := eq_true p28; replace q28 := eq_true q28; obtain ⟨hy30_, hz30_⟩ := Kd.R_celln false HO_4.out ((rd [(rd_T89 ((rd_T34 l0 0).f0) (rd x3_1 x5_1)).f2.f0, (rd_T89 ((rd_T34 l0 0).f0) (rd x3_1 x5_1)).f2.f1, (rd_T89 ((rd_T34 l0 0).f0) (rd x3_1 x5_1)).f2.f2] x7_2) : Int) (of_decide_eq_true (by assumption)) (of_decide_eq_true (by assumption)); have HP30 := Kd.R_putg HO_4.out ((rd [(rd_T89 ((rd_T34 l0 0).f0) (rd x3_1 x5_1)).f2.f0, (rd_T89 ((rd_T34 l0 0).f0) (rd x3_1 x5_1)).f2.f1, (rd_T89 ((rd_T34 l0 0).f0) (rd x3_1 x5_1)).f2.f2] x7_2) : Int) true) | ((with_reducible refine gate_store (t := 4) (p := 55) rfl ?_); (try (rw [drewN_self wr]; generalize hq_ : World.drewN wr _ = wr; have n0_ := Aside0.mk (Kd.R_at hq_ HO_3.out); have n1_ := Aside0.mk (Kd.R_at hq_ HO_4.out); have n2_ := Aside0.mk (below_at hq_ HB.out); clear hq_ HO_3 HO_4 HB; have HO_3 := n0_; have HO_4 := n1_; have HB := n2_; clear n0_ n1_ n2_; (try (obtain ⟨hy30_, hz30_⟩ := Kd.R_celln false HO_4.out ((rd [(rd_T89 ((rd_T34 l0 0).f0) (rd x3_1 x5_1)).f2.f0, (rd_T89 ((rd_T34 l0 0).f0) (rd x3_1 x5_1)).f2.f1, (rd_T89 ((rd_T34 l0 0).f0) (rd x3_1 x5_1)).f2.f2] x7_2) : Int) (of_decide_eq_true (by assumption)) (of_decide_eq_true (by assumption)))); (try (have HP30 := Kd.R_putg HO_4.out ((rd [(rd_T89 ((rd_T34 l0 0).f0) (rd x3_1 x5_1)).f2.f0, (rd_T89 ((rd_T34 l0 0).f0) (rd x3_1 x5_1)).f2.f1, (rd_T89 ((rd_T34 l0 0).f0) (rd x3_1 x5_1)).f2.f2] x7_2) : Int) true)))); refine store_event (t := 4) (p := 55) (v := ?vo_w31) (w1 := (wr.setCell ⟨go6, ((rd [(rd_T89 ((rd_T34 l0 0).f0) (rd x3_1 x5_1)).f2.f0, (rd_T89 ((rd_T34 l0 0).f0) (rd x3_1 x5_1)).f2.f1, (rd_T89 ((rd_T34 l0 0).f0) (rd x3_1 x5_1)).f2.f2] x7_2) : Int).toNat, none⟩ (.bool true))) ?hg ?ho ?hn ?hr ?_; (case ho => rfl); (case hg => rfl); (case hn => rfl); (case hr => first | (go_simp; done) | (go_simp; rfl)); intro w31 hw; have hg : wr.grownBy w31 (some go6) := (by rw [hw]; exact HP30.2); have hp_ : Kd.R Kd.bool 4 w31 w.heap.size (fun _ => True) (.slice (some ⟨go6, 0, none⟩) x4_2.length co6) y189 := (by rw [hw, Ny189.out]; exact HP30.1); clear HP30; have n0_ := Aside0.mk (Kd.R_over' (v := (.slice (some ⟨go6, 0, none⟩) x4_2.length co6)) z4_2_ (Kd.R_typed HO_4.out) (by decide) hg); have n1_ := Aside0.mk (hp_); have n2_ := Aside0.mk ((by rw [hw]; exact below_set (HB.out) GB6.out : Below w.heap.size w w31)); clear HO_3; clear HO_4; clear HB; have HO_3 := n0_; have HO_4 := n1_; have HB := n2_; clear n0_ n1_ n2_; clear hg hw hp_; have q190 : 0 < ([rd_T89 ((rd_T34 l0 0).f0) (rd x3_1 x5_1)].length : Int) := of_decide_eq_true (by assumption); obtain ⟨ad190, e190, hx190_0, hx190_1, hx190_2, hx190_3, hx190_4⟩ := rp_T89 HR183.out q190; (try simp only [rd1_T89] at hx190_0 hx190_1 hx190_2 hx190_3 hx190_4); obtain rfl : (Addr.add ad182 ((rd x3_1 x5_1).toNat * 5)) = ad190 := (by injection e190); replace hx190_0 := (HB.out.cell (World.block_lt_of_cell? w _ hx190_0)).trans hx190_0; replace hx190_1 := (HB.out.cell (World.block_lt_of_cell? w _ hx190_1)).trans hx190_1; replace hx190_2 := (HB.out.cell (World.block_lt_of_cell? w _ hx190_2)).trans hx190_2; replace hx190_3 := (HB.out.cell (World.block_lt_of_cell? w _ hx190_3)).trans hx190_3; replace hx190_4 := (HB.out.cell (World.block_lt_of_cell? w _ hx190_4)).trans hx190_4; have p191 : 0 ≤ (x7_2 : Int) := of_decide_eq_true (by assumption); have q191 : (x7_2 : Int) < 3 := of_decide_eq_true (by assumption); have hx191_0 := cell_arr3 hx190_2 hx190_3 hx190_4 x7_2 p191 q191; (try simp only [Nat.zero_add, Nat.add_zero] at hx191_0); replace p191 := eq_true p191; replace q191 := eq_true q191) | ((with_reducible refine gate_builtin (b := .append) (xs := #[.tmp 56, .tmp 63]) rfl ?_); at_builtin; refine Kd.R_append (Kd.int .i16) (w0 := w) w.heap.size rfl (.tmp 56) (.tmp 63) 139 85 (.int .i16 0) 2 rfl Try.underlying139 info85 rfl (by decide) (by omega) u3 x3_2 (rd [(rd_T89 ((rd_T34 l0 0).f0) (rd x3_1 x5_1)).f2.f0, (rd_T89 ((rd_T34 l0 0).f0) (rd x3_1 x5_1)).f2.f1, (rd_T89 ((rd_T34 l0 0).f0) (rd x3_1 x5_1)).f2.f2] x7_2) [.int .i16 (rd [(rd_T89 ((rd_T34 l0 0).f0) (rd x3_1 x5_1)).f2.f0, (rd_T89 ((rd_T34 l0 0).f0) (rd x3_1 x5_1)).f2.f1, (rd_T89 ((rd_T34 l0 0).f0) (rd x3_1 x5_1)).f2.f2] x7_2)] (fun _ => True) (fun _ => False) rfl rfl ?aP (fun _ hk => hk.elim) ?aF ?aO ?aB ?aS ?aL ?_; (case aP => exact rfl); (case aB => exact z4_1_); (case aF => exact (fun _ _ => trivial)); (case aO => exact z4_2_); (case aS => exact (below_size z4_1_)); (case aL => have := LMc29.out; omega); intro v193 w32 ho hb hg hat; rw [← Ny192.out] at ho; have n0_ := Aside0.mk (Kd.R_over' z4_6_ (Kd.R_typed z4_2_) (by decide) hg); have n1_ := Aside0.mk (hb); have n2_ := Aside0.mk (ho); clear HO_4; clear HB; clear HO_3; have HO_4 := n0_; have HB := n1_; have HO194 := n2_; clear n0_ n1_ n2_; clear ho hb hg hat)); try go_wp2_with (first | (go_at_call 68; (with_reducible refine (spec_l06Ways.calls _ ([rd_T89 ((rd_T34 l0 0).f0) (rd x3_1 x5_1)]).length [rd_T89 ((rd_T34 l0 0).f0) (rd x3_1 x5_1)] t184 _ ?side1 ?side2 A19.out).mono ?_); (case side1 => repeat (first | exact (Kd.C_below HR183.out HB.out) | (with_reducible refine Kd.C_alloc ?_ _) | (with_reducible refine Kd.C_drewN ?_ _) | (with_reducible refine Kd.C_drew ?_))); (case side2 => exact Nat.le_refl _); rintro e w' ⟨rfl, ⟨nd, rfl⟩⟩; (try first | exact ⟨rfl, _, World.drewN_drewN _ _ _⟩ | exact ⟨rfl, _, Eq.trans (World.drewN_drewN _ _ _) (congrArg (World.drewN _) (Nat.add_assoc _ _ _))⟩); have q185 : 0 < ([rd_T89 ((rd_T34 l0 0).f0) (rd x3_1 x5_1)].length : Int) := of_decide_eq_true (by assumption); obtain ⟨ad185, e185, hx185_0, hx185_1, hx185_2, hx185_3, hx185_4⟩ := rp_T89 HR183.out q185; (try simp only [rd1_T89] at hx185_0 hx185_1 hx185_2 hx185_3 hx185_4); obtain rfl : (Addr.add ad182 ((rd x3_1 x5_1).toNat * 5)) = ad185 := (by injection e185); replace hx185_0 := (HB.out.cell (World.block_lt_of_cell? w _ hx185_0)).trans hx185_0; replace hx185_1 := (HB.out.cell (World.block_lt_of_cell? w _ hx185_1)).trans hx185_1; replace hx185_2 := (HB.out.cell (World.block_lt_of_cell? w _ hx185_2)).trans hx185_2; replace hx185_3 := (HB.out.cell (World.block_lt_of_cell? w _ hx185_3)).trans hx185_3; replace hx185_4 := (HB.out.cell (World.block_lt_of_cell? w _ hx185_4)).trans hx185_4; have p186 : 0 ≤ (x7_2 : Int) := of_decide_eq_true (by assumption); have q186 : (x7_2 : Int) < 3 := of_decide_eq_true (by assumption); have hx186_0 := cell_arr3 hx185_2 hx185_3 hx185_4 x7_2 p186 q186; (try simp only [Nat.zero_add, Nat.add_zero] at hx186_0); replace p186 := eq_true p186; replace q186 := eq_true q186; have p187 : 0 ≤ ((rd [(rd_T89 ((rd_T34 l0 0).f0) (rd x3_1 x5_1)).f2.f0, (rd_T89 ((rd_T34 l0 0).f0) (rd x3_1 x5_1)).f2.f1, (rd_T89 ((rd_T34 l0 0).f0) (rd x3_1 x5_1)).f2.f2] x7_2) : Int) := of_decide_eq_true (by assumption); have q187 : (rd [(rd_T89 ((rd_T34 l0 0).f0) (rd x3_1 x5_1)).f2.f0, (rd_T89 ((rd_T34 l0 0).f0) (rd x3_1 x5_1)).f2.f1, (rd_T89 ((rd_T34 l0 0).f0) (rd x3_1 x5_1)).f2.f2] x7_2) < (x4_2.length : Int) := of_decide_eq_true (by assumption); obtain ⟨ad187, e187, hx187_0⟩ := Kd.at_bool (Kd.R_reads' HO_4.out).2.2 (rd [(rd_T89 ((rd_T34 l0 0).f0) (rd x3_1 x5_1)).f2.f0, (rd_T89 ((rd_T34 l0 0).f0) (rd x3_1 x5_1)).f2.f1, (rd_T89 ((rd_T34 l0 0).f0) (rd x3_1 x5_1)).f2.f2] x7_2) p187 q187; (try rw [← Nbq26.out] at hx187_0); obtain rfl : (⟨go6, 0, none⟩ : Addr) = ad187 := (by injection e187); (first | simp only [add_plain] at hx187_0 | simp only [add_at] at hx187_0 | simp only [Addr.add, Nat.zero_add] at hx187_0 | skip); replace p187 := eq_true p187; replace q187 := eq_true q187; have p188 : 0 ≤ (x7_2 : Int) := of_decide_eq_true (by assumption); have q188 : (x7_2 : Int) < 3 := of_decide_eq_true (by assumption); have hx188_0 := cell_arr3 hx185_2 hx185_3 hx185_4 x7_2 p188 q188; (try simp only [Nat.zero_add, Nat.add_zero] at hx188_0); replace p188 := eq_true p188; replace q188 := eq_true q188; have p28 : 0 ≤ ((rd [(rd_T89 ((rd_T34 l0 0).f0) (rd x3_1 x5_1)).f2.f0, (rd_T89 ((rd_T34 l0 0).f0) (rd x3_1 x5_1)).f2.f1, (rd_T89 ((rd_T34 l0 0).f0) (rd x3_1 x5_1)).f2.f2] x7_2) : Int) := of_decide_eq_true (by assumption); have q28 : ((rd [(rd_T89 ((rd_T34 l0 0).f0) (rd x3_1 x5_1)).f2.f0, (rd_T89 ((rd_T34 l0 0).f0) (rd x3_1 x5_1)).f2.f1, (rd_T89 ((rd_T34 l0 0).f0) (rd x3_1 x5_1)).f2.f2] x7_2) : Int) < ((x4_2.length : Int) : Int) := of_decide_eq_true (by assumption); obtain ⟨hx28_0, hf28_0⟩ := Kd.R_celln false HO_4.out ((rd [(rd_T89 ((rd_T34 l0 0).f0) (rd x3_1 x5_1)).f2.f0, (rd_T89 ((rd_T34 l0 0).f0) (rd x3_1 x5_1)).f2.f1, (rd_T89 ((rd_T34 l0 0).f0) (rd x3_1 x5_1)).f2.f2] x7_2) : Int) p28 q28; replace p28 := eq_true p28; replace q28 := eq_true q28; obtain ⟨hy30_, hz30_⟩ := Kd.R_celln false HO_4.out ((rd [(rd_T89 ((rd_T34 l0 0).f0) (rd x3_1 x5_1)).f2.f0, (rd_T89 ((rd_T34 l0 0).f0) (rd x3_1 x5_1)).f2.f1, (rd_T89 ((rd_T34 l0 0).f0) (rd x3_1 x5_1)).f2.f2] x7_2) : Int) (of_decide_eq_true (by assumption)) (of_decide_eq_true (by assumption)); have HP30 := Kd.R_putg HO_4.out ((rd [(rd_T89 ((rd_T34 l0 0).f0) (rd x3_1 x5_1)).f2.f0, (rd_T89 ((rd_T34 l0 0).f0) (rd x3_1 x5_1)).f2.f1, (rd_T89 ((rd_T34 l0 0).f0) (rd x3_1 x5_1)).f2.f2] x7_2) : Int) true) | ((with_reducible refine gate_store (t := 4) (p := 55) rfl ?_); (try (rw [drewN_self wr]; generalize hq_ : World.drewN wr _ = wr; have n0_ := Aside0.mk (Kd.R_at hq_ HO_3.out); have n1_ := Aside0.mk (Kd.R_at hq_ HO_4.out); have n2_ := Aside0.mk (below_at hq_ HB.out); clear hq_ HO_3 HO_4 HB; have HO_3 := n0_; have HO_4 := n1_; have HB := n2_; clear n0_ n1_ n2_; (try (obtain ⟨hy30_, hz30_⟩ := Kd.R_celln false HO_4.out ((rd [(rd_T89 ((rd_T34 l0 0).f0) (rd x3_1 x5_1)).f2.f0, (rd_T89 ((rd_T34 l0 0).f0) (rd x3_1 x5_1)).f2.f1, (rd_T89 ((rd_T34 l0 0).f0) (rd x3_1 x5_1)).f2.f2] x7_2) : Int) (of_decide_eq_true (by assumption)) (of_decide_eq_true (by assumption)))); (try (have HP30 := Kd.R_putg HO_4.out ((rd [(rd_T89 ((rd_T34 l0 0).f0) (rd x3_1 x5_1)).f2.f0, (rd_T89 ((rd_T34 l0 0).f0) (rd x3_1 x5_1)).f2.f1, (rd_T89 ((rd_T34 l0 0).f0) (rd x3_1 x5_1)).f2.f2] x7_2) : Int) true)))); refine store_event (t := 4) (p := 55) (v := ?vo_w31) (w1 := (wr.setCell ⟨go6, ((rd [(rd_T89 ((rd_T34 l0 0).f0) (rd x3_1 x5_1)).f2.f0, (rd_T89 ((rd_T34 l0 0).f0) (rd x3_1 x5_1)).f2.f1, (rd_T89 ((rd_T34 l0 0).f0) (rd x3_1 x5_1)).f2.f2] x7_2) : Int).toNat, none⟩ (.bool true))) ?hg ?ho ?hn ?hr ?_; (case ho => rfl); (case hg => rfl); (case hn => rfl); (case hr => first | (go_simp; done) | (go_simp; rfl)); intro w31 hw; have hg : wr.grownBy w31 (some go6) := (by rw [hw]; exact HP30.2); have hp_ : Kd.R Kd.bool 4 w31 w.heap.size (fun _ => True) (.slice (some ⟨go6, 0, none⟩) x4_2.length co6) y189 := (by rw [hw, Ny189.out]; exact HP30.1); clear HP30; have n0_ := Aside0.mk (Kd.R_over' (v := (.slice (some ⟨go6, 0, none⟩) x4_2.length co6)) z4_2_ (Kd.R_typed HO_4.out) (by decide) hg); have n1_ := Aside0.mk (hp_); have n2_ := Aside0.mk ((by rw [hw]; exact below_set (HB.out) GB6.out : Below w.heap.size w w31)); clear HO_3; clear HO_4; clear HB; have HO_3 := n0_; have HO_4 := n1_; have HB := n2_; clear n0_ n1_ n2_; clear hg hw hp_; have q190 : 0 < ([rd_T89 ((rd_T34 l0 0).f0) (rd x3_1 x5_1)].length : Int) := of_decide_eq_true (by assumption); obtain ⟨ad190, e190, hx190_0, hx190_1, hx190_2, hx190_3, hx190_4⟩ := rp_T89 HR183.out q190; (try simp only [rd1_T89] at hx190_0 hx190_1 hx190_2 hx190_3 hx190_4); obtain rfl : (Addr.add ad182 ((rd x3_1 x5_1).toNat * 5)) = ad190 := (by injection e190); replace hx190_0 := (HB.out.cell (World.block_lt_of_cell? w _ hx190_0)).trans hx190_0; replace hx190_1 := (HB.out.cell (World.block_lt_of_cell? w _ hx190_1)).trans hx190_1; replace hx190_2 := (HB.out.cell (World.block_lt_of_cell? w _ hx190_2)).trans hx190_2; replace hx190_3 := (HB.out.cell (World.block_lt_of_cell? w _ hx190_3)).trans hx190_3; replace hx190_4 := (HB.out.cell (World.block_lt_of_cell? w _ hx190_4)).trans hx190_4; have p191 : 0 ≤ (x7_2 : Int) := of_decide_eq_true (by assumption); have q191 : (x7_2 : Int) < 3 := of_decide_eq_true (by assumption); have hx191_0 := cell_arr3 hx190_2 hx190_3 hx190_4 x7_2 p191 q191; (try simp only [Nat.zero_add, Nat.add_zero] at hx191_0); replace p191 := eq_true p191; replace q191 := eq_true q191) | ((with_reducible refine gate_builtin (b := .append) (xs := #[.tmp 56, .tmp 63]) rfl ?_); at_builtin; refine Kd.R_append (Kd.int .i16) (w0 := w) w.heap.size rfl (.tmp 56) (.tmp 63) 139 85 (.int .i16 0) 2 rfl Try.underlying139 info85 rfl (by decide) (by omega) u3 x3_2 (rd [(rd_T89 ((rd_T34 l0 0).f0) (rd x3_1 x5_1)).f2.f0, (rd_T89 ((rd_T34 l0 0).f0) (rd x3_1 x5_1)).f2.f1, (rd_T89 ((rd_T34 l0 0).f0) (rd x3_1 x5_1)).f2.f2] x7_2) [.int .i16 (rd [(rd_T89 ((rd_T34 l0 0).f0) (rd x3_1 x5_1)).f2.f0, (rd_T89 ((rd_T34 l0 0).f0) (rd x3_1 x5_1)).f2.f1, (rd_T89 ((rd_T34 l0 0).f0) (rd x3_1 x5_1)).f2.f2] x7_2)] (fun _ => True) (fun _ => False) rfl rfl ?aP (fun _ hk => hk.elim) ?aF ?aO ?aB ?aS ?aL ?_; (case aP => exact rfl); (case aB => exact z4_1_); (case aF => exact (fun _ _ => trivial)); (case aO => exact z4_2_); (case aS => exact (below_size z4_1_)); (case aL => have := LMc29.out; omega); intro v193 w32 ho hb hg hat; rw [← Ny192.out] at ho; have n0_ := Aside0.mk (Kd.R_over' z4_6_ (Kd.R_typed z4_2_) (by decide) hg); have n1_ := Aside0.mk (hb); have n2_ := Aside0.mk (ho); clear HO_4; clear HB; clear HO_3; have HO_4 := n0_; have HB := n1_; have HO194 := n2_; clear n0_ n1_ n2_; clear ho hb hg hat)))
                      (try simp only [← hl4_2])
                      go_roundg k2
                      case measure => have := HK1.out; have := HK2.out; omega
                      case rel => exact ⟨(y192), (y189), (wrap64 (x7_2 + 1)), z4_3_, H', ⟨by have := HK1.out; have := HK2.out; omega⟩, ⟨by (try simp only [hl4_1]); (try simp only [hl4_2]); (with_reducible repeat (first | apply Kd.R_alloc | apply Kd.R_drewN | apply Kd.R_drew)); exact HO194.out⟩, ⟨by (try simp only [hl4_1]); (try simp only [hl4_2]); (with_reducible repeat (first | apply Kd.R_alloc | apply Kd.R_drewN | apply Kd.R_drew)); exact HO_4.out⟩, ⟨by repeat (first | (with_reducible first | exact HB.out | apply below_alloc | apply pw_below_drewN | apply below_drew1) | exact HB.out)⟩⟩
                     ·
                      rw [if_neg c29] at H
                      exact absurd H (by simp)
                   ·
                    rw [if_neg c25] at H
                    exact absurd H (by simp)
                  ·
                   rw [if_neg c24] at H
                   exact absurd H (by simp)
                 ·
                  rw [if_neg c23] at H
                  exact absurd H (by simp)
                ·
                 rw [if_neg c22] at H
                 exact absurd H (by simp)
               ·
                rw [if_neg c21] at H
                exact absurd H (by simp)
              ·
               rw [if_neg c20] at H
               have c20b0 : decide (x7_2 < t184) = false := decide_eq_false c20
               clear c20
               have H' := Aside0.mk H
               clear H
               go_wp2_with (first | (go_at_call 68; (with_reducible refine (spec_l06Ways.calls _ ([rd_T89 ((rd_T34 l0 0).f0) (rd x3_1 x5_1)]).length [rd_T89 ((rd_T34 l0 0).f0) (rd x3_1 x5_1)] t184 _ ?side1 ?side2 A19.out).mono ?_); (case side1 => repeat (first | exact (Kd.C_below HR183.out HB.out) | (with_reducible refine Kd.C_alloc ?_ _) | (with_reducible refine Kd.C_drewN ?_ _) | (with_reducible refine Kd.C_drew ?_))); (case side2 => exact Nat.le_refl _); rintro e w' ⟨rfl, ⟨nd, rfl⟩⟩; (try first | exact ⟨rfl, _, World.drewN_drewN _ _ _⟩ | exact ⟨rfl, _, Eq.trans (World.drewN_drewN _ _ _) (congrArg (World.drewN _) (Nat.add_assoc _ _ _))⟩)))
               repeat (go_quiet (first | (go_at_call 68; (with_reducible refine (spec_l06Ways.calls _ ([rd_T89 ((rd_T34 l0 0).f0) (rd x3_1 x5_1)]).length [rd_T89 ((rd_T34 l0 0).f0) (rd x3_1 x5_1)] t184 _ ?side1 ?side2 A19.out).mono ?_); (case side1 => repeat (first | exact (Kd.C_below HR183.out HB.out) | (with_reducible refine Kd.C_alloc ?_ _) | (with_reducible refine Kd.C_drewN ?_ _) | (with_reducible refine Kd.C_drew ?_))); (case side2 => exact Nat.le_refl _); rintro e w' ⟨rfl, ⟨nd, rfl⟩⟩; (try first | exact ⟨rfl, _, World.drewN_drewN _ _ _⟩ | exact ⟨rfl, _, Eq.trans (World.drewN_drewN _ _ _) (congrArg (World.drewN _) (Nat.add_assoc _ _ _))⟩))); try go_wp2_with (first | (go_at_call 68; (with_reducible refine (spec_l06Ways.calls _ ([rd_T89 ((rd_T34 l0 0).f0) (rd x3_1 x5_1)]).length [rd_T89 ((rd_T34 l0 0).f0) (rd x3_1 x5_1)] t184 _ ?side1 ?side2 A19.out).mono ?_); (case side1 => repeat (first | exact (Kd.C_below HR183.out HB.out) | (with_reducible refine Kd.C_alloc ?_ _) | (with_reducible refine Kd.C_drewN ?_ _) | (with_reducible refine Kd.C_drew ?_))); (case side2 => exact Nat.le_refl _); rintro e w' ⟨rfl, ⟨nd, rfl⟩⟩; (try first | exact ⟨rfl, _, World.drewN_drewN _ _ _⟩ | exact ⟨rfl, _, Eq.trans (World.drewN_drewN _ _ _) (congrArg (World.drewN _) (Nat.add_assoc _ _ _))⟩))))
               (try simp only [← hl4_1, ← hl4_2])
               go_roundg k2
               case measure => have := HK1.out; have := HK2.out; omega
               case rel => exact ⟨(x3_2), (x4_2), (wrap64 (x5_1 + 1)), z4_3_, H', ⟨by have := HK1.out; have := HK2.out; omega⟩, ⟨by (try simp only [hl4_1]); (try simp only [hl4_2]); (with_reducible repeat (first | apply Kd.R_alloc | apply Kd.R_drewN | apply Kd.R_drew)); exact HO_3.out⟩, ⟨by (try simp only [hl4_1]); (try simp only [hl4_2]); (with_reducible repeat (first | apply Kd.R_alloc | apply Kd.R_drewN | apply Kd.R_drew)); exact HO_4.out⟩, ⟨by repeat (first | (with_reducible first | exact HB.out | apply below_alloc | apply pw_below_drewN | apply below_drew1) | exact HB.out)⟩⟩
           ·
            rw [if_neg c17] at H
            exact absurd H (by simp)
          ·
           rw [if_neg c16] at H
           exact absurd H (by simp)
         ·
          rw [if_neg c15] at H
          exact absurd H (by simp)
        ·
         rw [if_neg c14] at H
         exact absurd H (by simp)
       ·
        rw [if_neg c13] at H
        have c13b0 : decide (x5_1 < (x3_1.length : Int)) = false := decide_eq_false c13
        clear c13
        obtain rfl := Option.some.inj H
        obtain ⟨Ao33, co33, eo33⟩ := Kd.R_slice HO_3.out
        subst eo33
        go_wp2
        repeat (go_quiet (fail); try go_wp2)
        go_ret
        exact ⟨_, by first | rfl | (simp [errW_none, errW_some] <;> rfl) | (simp [*, errW_none, errW_some] <;> rfl), by (with_reducible repeat (first | apply Kd.R_alloc | apply Kd.R_drewN | apply Kd.R_drew)); exact HO_3.out, by repeat (first | (with_reducible first | exact HB.out | apply below_alloc | apply pw_below_drewN | apply below_drew1) | exact HB.out)⟩
    ·
     rw [if_neg c5] at H
     exact absurd H (by simp)
   ·
    rw [if_neg c4] at H
    exact absurd H (by simp)
  ·
   rw [if_neg c3] at H
   exact absurd H (by simp)
 ·
  rw [if_neg c2] at H
  exact absurd H (by simp)
end Go.Proofs.Ytpfnohdnaocpdaa.PT

-- Written by a program (xprint.py) out of the translation's own print; Lean checks it.
import Derived.Test.YtenhgmddpkiliaaPBx0
namespace Go.Proofs.Ytenhgmddpkiliaa.PB
open Go.RowKit Go.Proofs.YtenhgmddpkiliaaW.PrintWords Go.Proofs.YtenhgmddpkiliaaW.PrintLast Go.Proofs.YtenhgmddpkiliaaW.PrintMore Go.Proofs.YtenhgmddpkiliaaRP
attribute [local go_sem] max2_int min2_int max_two min_two max_three min_three max_four min_four Go.Proofs.YtenhgmddpkiliaaRP.max_eight   -- for this text's walks alone
set_option linter.unusedVariables false
set_option linter.unusedSimpArgs false
/-! ### impl_lineName: function 90 -/
mutual
def impl_lineName.j0 : Nat → ByteArray → Bool → Option (Bool)
 | 0, _, _ => none
 | k + 1, x0, x11 => if x11 = true then (some false) else (impl_lineName.l0 k x0 0)
def impl_lineName.l0 : Nat → ByteArray → Int → Option (Bool)
 | 0, _, _ => none
 | k + 1, x0, x3 => if x3 < (x0.size : Int) then (if 0 ≤ x3 then (if (bt x0 x3) < 97 then (some false) else (if (bt x0 x3) > 122 then (some false) else (impl_lineName.l0 k x0 (wrap64 (x3 + 1))))) else (none)) else (some true)
end
def impl_lineName.f (k : Nat) (a0 : ByteArray) : Option (Bool) := if (a0.size : Int) < 1 then (impl_lineName.j0 k a0 true) else (impl_lineName.j0 k a0 (decide ((a0.size : Int) > 8)))
theorem impl_lineName.mono_l : ∀ k, (∀ y0 y1, LeO (impl_lineName.j0 k y0 y1) (impl_lineName.j0 (k + 1) y0 y1)) ∧ (∀ y0 y1, LeO (impl_lineName.l0 k y0 y1) (impl_lineName.l0 (k + 1) y0 y1))
 | 0 => ⟨fun _ _ r h => by simp [impl_lineName.j0] at h, fun _ _ r h => by simp [impl_lineName.l0] at h⟩
 | k + 1 => by
  obtain ⟨ih0, ih1⟩ := impl_lineName.mono_l k
  refine ⟨?_, ?_⟩
  ·
   intro y0 y1
   unfold impl_lineName.j0
   repeat' first
   | (with_reducible exact ih0 _ _)
   | (with_reducible exact ih1 _ _)
   | (with_reducible exact LeO.refl _)
   | (with_reducible exact LeO.none _)
   | (with_reducible refine LeO.ite ?_ ?_)
   | (with_reducible refine LeO.bind ?_ (fun _ => ?_))
   | exact ih0 _ _
   | exact ih1 _ _
   | exact LeO.none _
   | refine LeO.ite ?_ ?_
   | refine LeO.bind ?_ (fun _ => ?_)
  ·
   intro y0 y1
   unfold impl_lineName.l0
   repeat' first
   | (with_reducible exact ih0 _ _)
   | (with_reducible exact ih1 _ _)
   | (with_reducible exact LeO.refl _)
   | (with_reducible exact LeO.none _)
   | (with_reducible refine LeO.ite ?_ ?_)
   | (with_reducible refine LeO.bind ?_ (fun _ => ?_))
   | exact ih0 _ _
   | exact ih1 _ _
   | exact LeO.none _
   | refine LeO.ite ?_ ?_
   | refine LeO.bind ?_ (fun _ => ?_)
theorem impl_lineName.mono : ∀ a0 k, LeO (impl_lineName.f k a0) (impl_lineName.f (k + 1) a0) := by
 intro a0 k
 obtain ⟨ih0, ih1⟩ := impl_lineName.mono_l k
 unfold impl_lineName.f
 repeat' first
   | (with_reducible exact ih0 _ _)
   | (with_reducible exact ih1 _ _)
   | (with_reducible exact LeO.refl _)
   | (with_reducible exact LeO.none _)
   | (with_reducible refine LeO.ite ?_ ?_)
   | (with_reducible refine LeO.bind ?_ (fun _ => ?_))
   | exact ih0 _ _
   | exact ih1 _ _
   | exact LeO.none _
   | refine LeO.ite ?_ ?_
   | refine LeO.bind ?_ (fun _ => ?_)
set_option maxHeartbeats 8000000 in
set_option maxRecDepth 100000 in
theorem impl_lineName.calls (k : Nat) (a0 : ByteArray) (r : Bool) (w : World) (h : impl_lineName.f k a0 = some r) :
  Calls Try.prog 90 #[.string a0] w fun e w' => e = .returned (.bool r) ∧ Drawn0 w w' := by
 have H : (if (a0.size : Int) < 1 then (impl_lineName.j0 k a0 true) else (impl_lineName.j0 k a0 (decide ((a0.size : Int) > 8)))) = some r := h
 clear h
 have HC2 := Aside0.mk H
 clear H
 go_enter Try.func90, Try.ntmps90
 go_upto_region 1 with (fail)
 go_cut [11] (fun v11 wc => ∃ (kq : Nat) (x11_1 : Bool), v11 = .bool x11_1 ∧ Aside0 (impl_lineName.j0 kq a0 x11_1 = some r) ∧ Aside0 (kq ≤ k) ∧ Drawn0 w wc)
 case first =>
  have H := HC2.out
  clear HC2
  by_cases c3 : (a0.size : Int) < 1
  ·
   rw [if_pos c3] at H
   have c3b0 : decide ((a0.size : Int) < 1) = true := decide_eq_true c3
   have c3b1 : decide (a0.size < 1) = true := decide_eq_true (by omega)
   clear c3
   (first | rw [c3b0] | (simp only [i64_w, i32_w]; rw [c3b0]) | skip)
   have H' := Aside0.mk H
   clear H
   go_wp2
   go_meet
   case rel => exact ⟨_, (true), (by first | rfl | (simp; done) | (simp [*]; done) | (simp [isE_]; done)), H', ⟨by first | omega | exact Nat.le_refl _⟩, by repeat (first | exact Drawn0.refl _ | apply Drawn0.step)⟩
  ·
   rw [if_neg c3] at H
   have c3b0 : decide ((a0.size : Int) < 1) = false := decide_eq_false c3
   have c3b1 : decide (a0.size < 1) = false := decide_eq_false (by omega)
   clear c3
   (first | rw [c3b0] | (simp only [i64_w, i32_w]; rw [c3b0]) | skip)
   have H' := Aside0.mk H
   clear H
   go_wp2
   go_meet
   case rel => exact ⟨_, (decide ((a0.size : Int) > 8)), (by first | rfl | (simp; done) | (simp [*]; done) | (simp [isE_]; done)), H', ⟨by first | omega | exact Nat.le_refl _⟩, by repeat (first | exact Drawn0.refl _ | apply Drawn0.step)⟩
 case rest =>
  clear HC2
  try clear p2
  try clear c3
  try clear c3b0
  try clear c3b1
  obtain ⟨kq, x11_1, rfl, HA, HJ1, ⟨mc1, rfl⟩⟩ := hcut
  cases kq with
  | zero => exact absurd HA.out (by simp [impl_lineName.j0])
  | succ kj1 =>
   have H := HA.out
   clear HA
   simp only [impl_lineName.j0] at H
   by_cases c4 : x11_1 = true
   ·
    subst c4
    have H1 : (some false) = some r := by first | (rw [if_pos rfl] at H; exact H) | rfl
    clear H
    have H := H1
    clear H1
    obtain rfl := Option.some.inj H
    go_wp2
    go_ret
    exact ⟨by first | rfl | (simp; done) | (simp [*]; done) | (simp [isE_]; done), by repeat (first | exact Drawn0.refl _ | apply Drawn0.step)⟩
   ·
    replace c4 := Bool.eq_false_iff.mpr c4
    subst c4
    have H1 : (impl_lineName.l0 kj1 a0 0) = some r := by first | (rw [if_neg (show ¬ (false = true) by decide)] at H; exact H) | rfl
    clear H
    have H := H1
    clear H1
    have H' := Aside0.mk H
    clear H
    go_wp2
    go_loopg [3] kj1 (fun kq v3 w' => ∃ (x3_2 : Int), v3 = .int .i64 x3_2 ∧ Aside0 (impl_lineName.l0 kq a0 x3_2 = some r) ∧ Aside0 (kq ≤ kj1) ∧ Drawn0 w w')
    case atStart => exact ⟨(0), (by first | rfl | (simp; done) | (simp [*]; done) | (simp [isE_]; done)), H', ⟨Nat.le_refl _⟩, by repeat (first | exact Drawn0.refl _ | apply Drawn0.step)⟩
    case round =>
     clear H'
     try clear c1
     try clear p2
     try clear c3
     try clear c3b0
     try clear c3b1
     try clear c4
     try clear p2
     obtain ⟨x3_2, rfl, HA, HK2, ⟨m2, rfl⟩⟩ := hrel
     cases gk with
     | zero => exact absurd HA.out (by simp [impl_lineName.l0])
     | succ k2 =>
      have H := HA.out
      clear HA
      simp only [impl_lineName.l0] at H
      by_cases c5 : x3_2 < (a0.size : Int)
      ·
       rw [if_pos c5] at H
       have c5b0 : decide (x3_2 < (a0.size : Int)) = true := decide_eq_true c5
       clear c5
       by_cases c6 : 0 ≤ x3_2
       ·
        rw [if_pos c6] at H
        have c6b0 : decide (0 ≤ x3_2) = true := decide_eq_true c6
        clear c6
        by_cases c8 : (bt a0 x3_2) < 97
        ·
         rw [if_pos c8] at H
         have c8b0 : decide ((bt a0 x3_2) < 97) = true := decide_eq_true c8
         clear c8
         obtain rfl := Option.some.inj H
         have p7 : 0 ≤ (x3_2 : Int) := of_decide_eq_true (by assumption)
         have q7 : x3_2 < (a0.size : Int) := of_decide_eq_true (by assumption)
         have hx7 := bt_at a0 x3_2
         replace p7 := eq_true p7
         replace q7 := eq_true q7
         go_wp2
         go_ret
         exact ⟨by first | rfl | (simp; done) | (simp [*]; done) | (simp [isE_]; done), by repeat (first | exact Drawn0.refl _ | apply Drawn0.step)⟩
        ·
         rw [if_neg c8] at H
         have c8b0 : decide ((bt a0 x3_2) < 97) = false := decide_eq_false c8
         clear c8
         by_cases c10 : (bt a0 x3_2) > 122
         ·
          rw [if_pos c10] at H
          have c10b0 : decide (122 < (bt a0 x3_2)) = true := decide_eq_true c10
          clear c10
          obtain rfl := Option.some.inj H
          have p7 : 0 ≤ (x3_2 : Int) := of_decide_eq_true (by assumption)
          have q7 : x3_2 < (a0.size : Int) := of_decide_eq_true (by assumption)
          have hx7 := bt_at a0 x3_2
          replace p7 := eq_true p7
          replace q7 := eq_true q7
          have p9 : 0 ≤ (x3_2 : Int) := of_decide_eq_true (by assumption)
          have q9 : x3_2 < (a0.size : Int) := of_decide_eq_true (by assumption)
          have hx9 := bt_at a0 x3_2
          replace p9 := eq_true p9
          replace q9 := eq_true q9
          go_wp2
          go_ret
          exact ⟨by first | rfl | (simp; done) | (simp [*]; done) | (simp [isE_]; done), by repeat (first | exact Drawn0.refl _ | apply Drawn0.step)⟩
         ·
          rw [if_neg c10] at H
          have c10b0 : decide (122 < (bt a0 x3_2)) = false := decide_eq_false c10
          clear c10
          have H' := Aside0.mk H
          clear H
          have p7 : 0 ≤ (x3_2 : Int) := of_decide_eq_true (by assumption)
          have q7 : x3_2 < (a0.size : Int) := of_decide_eq_true (by assumption)
          have hx7 := bt_at a0 x3_2
          replace p7 := eq_true p7
          replace q7 := eq_true q7
          have p9 : 0 ≤ (x3_2 : Int) := of_decide_eq_true (by assumption)
          have q9 : x3_2 < (a0.size : Int) := of_decide_eq_true (by assumption)
          have hx9 := bt_at a0 x3_2
          replace p9 := eq_true p9
          replace q9 := eq_true q9
          go_wp2
          go_roundg k2
          case measure => have := HJ1.out; have := HK2.out; omega
          case rel => exact ⟨(wrap64 (x3_2 + 1)), (by first | rfl | (simp; done) | (simp [*]; done) | (simp [isE_]; done)), H', ⟨by have := HJ1.out; have := HK2.out; omega⟩, by repeat (first | exact Drawn0.refl _ | apply Drawn0.step)⟩
       ·
        rw [if_neg c6] at H
        exact absurd H (by simp)
      ·
       rw [if_neg c5] at H
       have c5b0 : decide (x3_2 < (a0.size : Int)) = false := decide_eq_false c5
       clear c5
       obtain rfl := Option.some.inj H
       go_wp2
       go_ret
       exact ⟨by first | rfl | (simp; done) | (simp [*]; done) | (simp [isE_]; done), by repeat (first | exact Drawn0.refl _ | apply Drawn0.step)⟩
/-! ### impl_within: function 113 -/
def impl_within.f (a0 : Int) (a1 : Int) (a2 : Int) : Option (Bool) := if a0 ≥ a1 then (some (decide (a0 ≤ a2))) else (some false)
set_option maxHeartbeats 8000000 in
set_option maxRecDepth 100000 in
theorem impl_within.calls (a0 : Int) (a1 : Int) (a2 : Int) (r : Bool) (w : World) (h : impl_within.f a0 a1 a2 = some r) :
  Calls Try.prog 113 #[.int .i64 a0, .int .i64 a1, .int .i64 a2] w fun e w' => e = .returned (.bool r) ∧ Drawn0 w w' := by
 have H : (if a0 ≥ a1 then (some (decide (a0 ≤ a2))) else (some false)) = some r := h
 clear h
 by_cases c4 : a0 ≥ a1
 ·
  rw [if_pos c4] at H
  have c4b0 : decide (a1 ≤ a0) = true := decide_eq_true c4
  clear c4
  obtain rfl := Option.some.inj H
  go_enter Try.func113, Try.ntmps113
  go_wp2
  go_ret
  exact ⟨by first | rfl | (simp; done) | (simp [*]; done) | (simp [isE_]; done), by repeat (first | exact Drawn0.refl _ | apply Drawn0.step)⟩
 ·
  rw [if_neg c4] at H
  have c4b0 : decide (a1 ≤ a0) = false := decide_eq_false c4
  clear c4
  obtain rfl := Option.some.inj H
  go_enter Try.func113, Try.ntmps113
  go_wp2
  go_ret
  exact ⟨by first | rfl | (simp; done) | (simp [*]; done) | (simp [isE_]; done), by repeat (first | exact Drawn0.refl _ | apply Drawn0.step)⟩
/-! ### impl_ratioOk: function 105 -/
def impl_ratioOk.f (a0 : Int) (a1 : Int) (a2 : Int) : Option (Bool) := if a0 = 1 then ((impl_within.f a1 (-1000000000) 1000000000).bind fun t252 => (if t252 = true then ((impl_within.f a2 1 1000000000).bind fun t253 => (some t253)) else (some false))) else (if a1 = 0 then (some (a2 == 0)) else (some false))
set_option maxHeartbeats 8000000 in
set_option maxRecDepth 100000 in
theorem impl_ratioOk.calls (a0 : Int) (a1 : Int) (a2 : Int) (r : Bool) (w : World) (h : impl_ratioOk.f a0 a1 a2 = some r) :
  Calls Try.prog 105 #[.int .i8 a0, .int .i64 a1, .int .i64 a2] w fun e w' => e = .returned (.bool r) ∧ Drawn0 w w' := by
 have H : (if a0 = 1 then ((impl_within.f a1 (-1000000000) 1000000000).bind fun t252 => (if t252 = true then ((impl_within.f a2 1 1000000000).bind fun t253 => (some t253)) else (some false))) else (if a1 = 0 then (some (a2 == 0)) else (some false))) = some r := h
 clear h
 by_cases c4 : a0 = 1
 ·
  rw [if_pos c4] at H
  have c4b0 : (a0 == 1) = true := beq_iff_eq.mpr c4
  have c4b1 : (a0 != 1) = false := bne_eq_false_iff_eq.mpr c4
  clear c4
  replace H := Option.bind_eq_some_iff.mp H
  obtain ⟨t252, A50, H⟩ := H
  replace H : (if t252 = true then ((impl_within.f a2 1 1000000000).bind fun t253 => (some t253)) else (some false)) = some r := H
  have A5 := Aside0.mk A50
  clear A50
  by_cases c6 : t252 = true
  ·
   subst c6
   have H1 : ((impl_within.f a2 1 1000000000).bind fun t253 => (some t253)) = some r := by first | (rw [if_pos rfl] at H; exact H) | rfl
   clear H
   have H := H1
   clear H1
   replace H := Option.bind_eq_some_iff.mp H
   obtain ⟨t253, A70, H⟩ := H
   replace H : (some t253) = some r := H
   have A7 := Aside0.mk A70
   clear A70
   obtain rfl := Option.some.inj H
   go_enter Try.func105, Try.ntmps105
   go_wp2_with (first | ((with_reducible refine gate_callee (f := 113) rfl ?_); refine goesL_ (some 10) rfl rfl Try.func113 (by kernel_rfl) rfl #[.int .i64 a1, .int .i64 (-1000000000), .int .i64 1000000000] rfl (by (try simp only [List.map_toArray, List.map_cons, List.map_nil]); first | done | rfl | (simp only [List.length_drop, List.length_take]; rfl)) ?_; (with_reducible refine (impl_within.calls a1 (-1000000000) 1000000000 true _ A5.out).mono ?_); rintro e w' ⟨rfl, ⟨nd, rfl⟩⟩; refine ⟨_, rfl, ?_⟩) | (go_at_call 113; (with_reducible refine (impl_within.calls a2 1 1000000000 t253 _ A7.out).mono ?_); rintro e w' ⟨rfl, ⟨nd, rfl⟩⟩))
   go_ret
   exact ⟨by first | rfl | (simp; done) | (simp [*]; done) | (simp [isE_]; done), by repeat (first | exact Drawn0.refl _ | apply Drawn0.step)⟩
  ·
   replace c6 := Bool.eq_false_iff.mpr c6
   subst c6
   have H1 : (some false) = some r := by first | (rw [if_neg (show ¬ (false = true) by decide)] at H; exact H) | rfl
   clear H
   have H := H1
   clear H1
   obtain rfl := Option.some.inj H
   go_enter Try.func105, Try.ntmps105
   go_wp2_with (first | ((with_reducible refine gate_callee (f := 113) rfl ?_); refine goesL_ (some 10) rfl rfl Try.func113 (by kernel_rfl) rfl #[.int .i64 a1, .int .i64 (-1000000000), .int .i64 1000000000] rfl (by (try simp only [List.map_toArray, List.map_cons, List.map_nil]); first | done | rfl | (simp only [List.length_drop, List.length_take]; rfl)) ?_; (with_reducible refine (impl_within.calls a1 (-1000000000) 1000000000 false _ A5.out).mono ?_); rintro e w' ⟨rfl, ⟨nd, rfl⟩⟩; refine ⟨_, rfl, ?_⟩))
   go_ret
   exact ⟨by first | rfl | (simp; done) | (simp [*]; done) | (simp [isE_]; done), by repeat (first | exact Drawn0.refl _ | apply Drawn0.step)⟩
 ·
  rw [if_neg c4] at H
  have c4b0 : (a0 == 1) = false := beq_eq_false_iff_ne.mpr c4
  have c4b1 : (a0 != 1) = true := bne_iff_ne.mpr c4
  by_cases c8 : a1 = 0
  ·
   rw [if_pos c8] at H
   have c8b0 : (a1 == 0) = true := beq_iff_eq.mpr c8
   have c8b1 : (a1 != 0) = false := bne_eq_false_iff_eq.mpr c8
   clear c8
   obtain rfl := Option.some.inj H
   go_enter Try.func105, Try.ntmps105
   go_wp2
   go_ret
   exact ⟨by first | rfl | (simp; done) | (simp [*]; done) | (simp [isE_]; done), by repeat (first | exact Drawn0.refl _ | apply Drawn0.step)⟩
  ·
   rw [if_neg c8] at H
   have c8b0 : (a1 == 0) = false := beq_eq_false_iff_ne.mpr c8
   have c8b1 : (a1 != 0) = true := bne_iff_ne.mpr c8
   obtain rfl := Option.some.inj H
   go_enter Try.func105, Try.ntmps105
   go_wp2
   go_ret
   exact ⟨by first | rfl | (simp; done) | (simp [*]; done) | (simp [isE_]; done), by repeat (first | exact Drawn0.refl _ | apply Drawn0.step)⟩
end Go.Proofs.Ytenhgmddpkiliaa.PB

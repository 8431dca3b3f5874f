-- Written by a program (xprint.py) out of the translation's own print; Lean checks it.
import Derived.Test.YtenhgmddpkiliaaPBx0
import Derived.Test.YtenhgmddpkiliaaPBlineOf
namespace Go.Proofs.Ytenhgmddpkiliaa.PB
open Go.RowKit Go.Proofs.YtenhgmddpkiliaaW.PrintWords Go.Proofs.YtenhgmddpkiliaaW.PrintLast Go.Proofs.YtenhgmddpkiliaaW.PrintMore Go.Proofs.YtenhgmddpkiliaaRP
attribute [local go_sem] max2_int min2_int max_two min_two max_three min_three max_four min_four Go.Proofs.YtenhgmddpkiliaaRP.max_eight   -- for this text's walks alone
set_option linter.unusedVariables false
set_option linter.unusedSimpArgs false
/-! ### impl_uses: function 74 -/
def impl_uses.j0 : Nat → Int → Bool → Option (Bool × Bool × Bool)
 | 0, _, _ => none
 | k + 1, x5, x8 => if x8 = true then (some (true, true, false)) else (if x5 = 6 then (some (true, false, false)) else (if x5 = 7 then (some (true, false, false)) else (if x5 = 10 then (some (true, false, false)) else (some (false, false, false)))))
def impl_uses.f (k : Nat) (a0 : Int) : Option (Bool × Bool × Bool) := if a0 = 1 then (some (false, false, true)) else (if a0 = 2 then (impl_uses.j0 k a0 (a0 == 2)) else (if a0 = 3 then (impl_uses.j0 k a0 (a0 == 3)) else (if a0 = 4 then (impl_uses.j0 k a0 (a0 == 4)) else (if a0 = 5 then (impl_uses.j0 k a0 (a0 == 5)) else (if a0 = 8 then (impl_uses.j0 k a0 (a0 == 8)) else (impl_uses.j0 k a0 (a0 == 9)))))))
theorem impl_uses.mono_l : ∀ k, (∀ y0 y1, LeO (impl_uses.j0 k y0 y1) (impl_uses.j0 (k + 1) y0 y1))
 | 0 => fun _ _ r h => by simp [impl_uses.j0] at h
 | k + 1 => by
  have ih0 := impl_uses.mono_l k
  ·
   intro y0 y1
   unfold impl_uses.j0
   repeat' first
   | (with_reducible exact ih0 _ _)
   | (with_reducible exact LeO.refl _)
   | (with_reducible exact LeO.none _)
   | (with_reducible refine LeO.ite ?_ ?_)
   | (with_reducible refine LeO.bind ?_ (fun _ => ?_))
   | exact ih0 _ _
   | exact LeO.none _
   | refine LeO.ite ?_ ?_
   | refine LeO.bind ?_ (fun _ => ?_)
theorem impl_uses.mono : ∀ a0 k, LeO (impl_uses.f k a0) (impl_uses.f (k + 1) a0) := by
 intro a0 k
 have ih0 := impl_uses.mono_l k
 unfold impl_uses.f
 repeat' first
   | (with_reducible exact ih0 _ _)
   | (with_reducible exact LeO.refl _)
   | (with_reducible exact LeO.none _)
   | (with_reducible refine LeO.ite ?_ ?_)
   | (with_reducible refine LeO.bind ?_ (fun _ => ?_))
   | exact ih0 _ _
   | exact LeO.none _
   | refine LeO.ite ?_ ?_
   | refine LeO.bind ?_ (fun _ => ?_)
set_option maxHeartbeats 8000000 in
set_option maxRecDepth 100000 in
theorem impl_uses.calls (k : Nat) (a0 : Int) (r1 : Bool) (r2 : Bool) (r3 : Bool) (w : World) (h : impl_uses.f k a0 = some (r1, r2, r3)) :
  Calls Try.prog 74 #[.int .i8 a0] w fun e w' => e = .returned (.tuple #[.bool r1, .bool r2, .bool r3]) ∧ Drawn0 w w' := by
 have H : (if a0 = 1 then (some (false, false, true)) else (if a0 = 2 then (impl_uses.j0 k a0 (a0 == 2)) else (if a0 = 3 then (impl_uses.j0 k a0 (a0 == 3)) else (if a0 = 4 then (impl_uses.j0 k a0 (a0 == 4)) else (if a0 = 5 then (impl_uses.j0 k a0 (a0 == 5)) else (if a0 = 8 then (impl_uses.j0 k a0 (a0 == 8)) else (impl_uses.j0 k a0 (a0 == 9)))))))) = some (r1, r2, r3) := h
 clear h
 by_cases c2 : a0 = 1
 ·
  rw [if_pos c2] at H
  have c2b0 : (a0 == 1) = true := beq_iff_eq.mpr c2
  have c2b1 : (a0 != 1) = false := bne_eq_false_iff_eq.mpr c2
  clear c2
  simp only [Option.some.injEq, Prod.mk.injEq] at H
  obtain ⟨rfl, rfl, rfl⟩ := H
  go_enter Try.func74, Try.ntmps74
  go_wp2
  go_ret3
  exact ⟨by first | rfl | (simp; done) | (simp [*]; done) | (simp [isE_]; done), by repeat (first | exact Drawn0.refl _ | apply Drawn0.step)⟩
 ·
  rw [if_neg c2] at H
  have c2b0 : (a0 == 1) = false := beq_eq_false_iff_ne.mpr c2
  have c2b1 : (a0 != 1) = true := bne_iff_ne.mpr c2
  have HC3 := Aside0.mk H
  clear H
  go_enter Try.func74, Try.ntmps74
  go_upto_if 8 with (fail)
  go_cut [8] (fun v8 wc => ∃ (kq : Nat) (x8_2 : Bool), v8 = .bool x8_2 ∧ Aside0 (impl_uses.j0 kq a0 x8_2 = some (r1, r2, r3)) ∧ Aside0 (kq ≤ k) ∧ Drawn0 w wc)
  case first =>
   have H := HC3.out
   clear HC3
   by_cases c4 : a0 = 2
   ·
    rw [if_pos c4] at H
    have c4b0 : (a0 == 2) = true := beq_iff_eq.mpr c4
    have c4b1 : (a0 != 2) = false := bne_eq_false_iff_eq.mpr c4
    clear c4
    (first | rw [c4b0] | (simp only [i64_w, i32_w]; rw [c4b0]) | skip)
    have H' := Aside0.mk H
    clear H
    go_wp2
    go_meet
    case rel => exact ⟨_, ((a0 == 2)), (by first | rfl | (simp; done) | (simp [*]; done) | (simp [isE_]; done)), H', ⟨by first | omega | exact Nat.le_refl _⟩, by repeat (first | exact Drawn0.refl _ | apply Drawn0.step)⟩
   ·
    rw [if_neg c4] at H
    have c4b0 : (a0 == 2) = false := beq_eq_false_iff_ne.mpr c4
    have c4b1 : (a0 != 2) = true := bne_iff_ne.mpr c4
    (first | rw [c4b0] | (simp only [i64_w, i32_w]; rw [c4b0]) | skip)
    by_cases c5 : a0 = 3
    ·
     rw [if_pos c5] at H
     have c5b0 : (a0 == 3) = true := beq_iff_eq.mpr c5
     have c5b1 : (a0 != 3) = false := bne_eq_false_iff_eq.mpr c5
     clear c5
     have H' := Aside0.mk H
     clear H
     go_wp2
     go_meet
     case rel => exact ⟨_, ((a0 == 3)), (by first | rfl | (simp; done) | (simp [*]; done) | (simp [isE_]; done)), H', ⟨by first | omega | exact Nat.le_refl _⟩, by repeat (first | exact Drawn0.refl _ | apply Drawn0.step)⟩
    ·
     rw [if_neg c5] at H
     have c5b0 : (a0 == 3) = false := beq_eq_false_iff_ne.mpr c5
     have c5b1 : (a0 != 3) = true := bne_iff_ne.mpr c5
     by_cases c6 : a0 = 4
     ·
      rw [if_pos c6] at H
      have c6b0 : (a0 == 4) = true := beq_iff_eq.mpr c6
      have c6b1 : (a0 != 4) = false := bne_eq_false_iff_eq.mpr c6
      clear c6
      have H' := Aside0.mk H
      clear H
      go_wp2
      go_meet
      case rel => exact ⟨_, ((a0 == 4)), (by first | rfl | (simp; done) | (simp [*]; done) | (simp [isE_]; done)), H', ⟨by first | omega | exact Nat.le_refl _⟩, by repeat (first | exact Drawn0.refl _ | apply Drawn0.step)⟩
     ·
      rw [if_neg c6] at H
      have c6b0 : (a0 == 4) = false := beq_eq_false_iff_ne.mpr c6
      have c6b1 : (a0 != 4) = true := bne_iff_ne.mpr c6
      by_cases c7 : a0 = 5
      ·
       rw [if_pos c7] at H
       have c7b0 : (a0 == 5) = true := beq_iff_eq.mpr c7
       have c7b1 : (a0 != 5) = false := bne_eq_false_iff_eq.mpr c7
       clear c7
       have H' := Aside0.mk H
       clear H
       go_wp2
       go_meet
       case rel => exact ⟨_, ((a0 == 5)), (by first | rfl | (simp; done) | (simp [*]; done) | (simp [isE_]; done)), H', ⟨by first | omega | exact Nat.le_refl _⟩, by repeat (first | exact Drawn0.refl _ | apply Drawn0.step)⟩
      ·
       rw [if_neg c7] at H
       have c7b0 : (a0 == 5) = false := beq_eq_false_iff_ne.mpr c7
       have c7b1 : (a0 != 5) = true := bne_iff_ne.mpr c7
       by_cases c8 : a0 = 8
       ·
        rw [if_pos c8] at H
        have c8b0 : (a0 == 8) = true := beq_iff_eq.mpr c8
        have c8b1 : (a0 != 8) = false := bne_eq_false_iff_eq.mpr c8
        clear c8
        have H' := Aside0.mk H
        clear H
        go_wp2
        go_meet
        case rel => exact ⟨_, ((a0 == 8)), (by first | rfl | (simp; done) | (simp [*]; done) | (simp [isE_]; done)), H', ⟨by first | omega | exact Nat.le_refl _⟩, by repeat (first | exact Drawn0.refl _ | apply Drawn0.step)⟩
       ·
        rw [if_neg c8] at H
        have c8b0 : (a0 == 8) = false := beq_eq_false_iff_ne.mpr c8
        have c8b1 : (a0 != 8) = true := bne_iff_ne.mpr c8
        have H' := Aside0.mk H
        clear H
        go_wp2
        go_meet
        case rel => exact ⟨_, ((a0 == 9)), (by first | rfl | (simp; done) | (simp [*]; done) | (simp [isE_]; done)), H', ⟨by first | omega | exact Nat.le_refl _⟩, by repeat (first | exact Drawn0.refl _ | apply Drawn0.step)⟩
  case rest =>
   clear HC3
   try clear c2
   try clear c2b0
   try clear c2b1
   try clear p2
   try clear c4
   try clear c4b0
   try clear c4b1
   try clear c5
   try clear c5b0
   try clear c5b1
   try clear c6
   try clear c6b0
   try clear c6b1
   try clear c7
   try clear c7b0
   try clear c7b1
   try clear c8
   try clear c8b0
   try clear c8b1
   obtain ⟨kq, x8_2, rfl, HA, HJ2, ⟨mc2, rfl⟩⟩ := hcut
   cases kq with
   | zero => exact absurd HA.out (by simp [impl_uses.j0])
   | succ kj2 =>
    have H := HA.out
    clear HA
    simp only [impl_uses.j0] at H
    by_cases c9 : x8_2 = true
    ·
     subst c9
     have H1 : (some (true, true, false)) = some (r1, r2, r3) := by first | (rw [if_pos rfl] at H; exact H) | rfl
     clear H
     have H := H1
     clear H1
     simp only [Option.some.injEq, Prod.mk.injEq] at H
     obtain ⟨rfl, rfl, rfl⟩ := H
     go_wp2
     go_ret3
     exact ⟨by first | rfl | (simp; done) | (simp [*]; done) | (simp [isE_]; done), by repeat (first | exact Drawn0.refl _ | apply Drawn0.step)⟩
    ·
     replace c9 := Bool.eq_false_iff.mpr c9
     subst c9
     have H1 : (if a0 = 6 then (some (true, false, false)) else (if a0 = 7 then (some (true, false, false)) else (if a0 = 10 then (some (true, false, false)) else (some (false, false, false))))) = some (r1, r2, r3) := by first | (rw [if_neg (show ¬ (false = true) by decide)] at H; exact H) | rfl
     clear H
     have H := H1
     clear H1
     by_cases c10 : a0 = 6
     ·
      rw [if_pos c10] at H
      have c10b0 : (a0 == 6) = true := beq_iff_eq.mpr c10
      have c10b1 : (a0 != 6) = false := bne_eq_false_iff_eq.mpr c10
      clear c10
      simp only [Option.some.injEq, Prod.mk.injEq] at H
      obtain ⟨rfl, rfl, rfl⟩ := H
      go_wp2
      go_ret3
      exact ⟨by first | rfl | (simp; done) | (simp [*]; done) | (simp [isE_]; done), by repeat (first | exact Drawn0.refl _ | apply Drawn0.step)⟩
     ·
      rw [if_neg c10] at H
      have c10b0 : (a0 == 6) = false := beq_eq_false_iff_ne.mpr c10
      have c10b1 : (a0 != 6) = true := bne_iff_ne.mpr c10
      by_cases c11 : a0 = 7
      ·
       rw [if_pos c11] at H
       have c11b0 : (a0 == 7) = true := beq_iff_eq.mpr c11
       have c11b1 : (a0 != 7) = false := bne_eq_false_iff_eq.mpr c11
       clear c11
       simp only [Option.some.injEq, Prod.mk.injEq] at H
       obtain ⟨rfl, rfl, rfl⟩ := H
       go_wp2
       go_ret3
       exact ⟨by first | rfl | (simp; done) | (simp [*]; done) | (simp [isE_]; done), by repeat (first | exact Drawn0.refl _ | apply Drawn0.step)⟩
      ·
       rw [if_neg c11] at H
       have c11b0 : (a0 == 7) = false := beq_eq_false_iff_ne.mpr c11
       have c11b1 : (a0 != 7) = true := bne_iff_ne.mpr c11
       by_cases c12 : a0 = 10
       ·
        rw [if_pos c12] at H
        have c12b0 : (a0 == 10) = true := beq_iff_eq.mpr c12
        have c12b1 : (a0 != 10) = false := bne_eq_false_iff_eq.mpr c12
        clear c12
        simp only [Option.some.injEq, Prod.mk.injEq] at H
        obtain ⟨rfl, rfl, rfl⟩ := H
        go_wp2
        go_ret3
        exact ⟨by first | rfl | (simp; done) | (simp [*]; done) | (simp [isE_]; done), by repeat (first | exact Drawn0.refl _ | apply Drawn0.step)⟩
       ·
        rw [if_neg c12] at H
        have c12b0 : (a0 == 10) = false := beq_eq_false_iff_ne.mpr c12
        have c12b1 : (a0 != 10) = true := bne_iff_ne.mpr c12
        simp only [Option.some.injEq, Prod.mk.injEq] at H
        obtain ⟨rfl, rfl, rfl⟩ := H
        go_wp2
        go_ret3
        exact ⟨by first | rfl | (simp; done) | (simp [*]; done) | (simp [isE_]; done), by repeat (first | exact Drawn0.refl _ | apply Drawn0.step)⟩
/-! ### impl_Line_used: function 106 -/
def impl_Line_used.f (k : Nat) (l0 : List (S45)) : Option (List ByteArray) := if 0 < (l0.length : Int) then ((impl_uses.f k ((rd_T45 l0 0).f1)).bind fun bt212 => ((some (([] : List ByteArray) : List ByteArray)).bind fun y215 => (if bt212.1 = true then (if y215.length < 8796093022208 then ((some (y215 ++ [(rd_T45 l0 0).f2] : List ByteArray)).bind fun y219 => (if bt212.2.1 = true then (if y219.length < 8796093022208 then (some (y219 ++ [(rd_T45 l0 0).f3])) else (none)) else (some y219))) else (none)) else (if bt212.2.1 = true then (if y215.length < 8796093022208 then (some (y215 ++ [(rd_T45 l0 0).f3])) else (none)) else (some y215))))) else (none)
theorem impl_Line_used.mono : ∀ a0 k, LeO (impl_Line_used.f k a0) (impl_Line_used.f (k + 1) a0) := by
 intro a0 k
 unfold impl_Line_used.f
 repeat' first
   | (with_reducible exact impl_uses.mono _ _)
   | (with_reducible exact LeO.refl _)
   | (with_reducible exact LeO.none _)
   | (with_reducible refine LeO.ite ?_ ?_)
   | (with_reducible refine LeO.bind ?_ (fun _ => ?_))
   | exact LeO.none _
   | refine LeO.ite ?_ ?_
   | refine LeO.bind ?_ (fun _ => ?_)
set_option maxHeartbeats 8000000 in
set_option maxRecDepth 100000 in
theorem impl_Line_used.calls (k : Nat) (A0 : Option Addr) (c0 : Nat) (l0 : List (S45)) (r : List ByteArray) (w : World) (hr0 : Kd.C k45 w A0 l0.length l0) (hc0 : l0.length ≤ c0) (h : impl_Line_used.f k l0 = some r) :
  Calls Try.prog 106 #[.pointer A0] w fun e w' => ∃ v0_ : Value, e = .returned (v0_) ∧ Kd.R Kd.string 9 w' w.heap.size (fun _ => True) v0_ r ∧ Below w.heap.size w w' := by
 have HR0 := Aside0.mk hr0
 have HC0 := Aside0.mk hc0
 clear hr0 hc0
 have HB := Aside0.mk (Below.refl w.heap.size w)
 have H : (if 0 < (l0.length : Int) then ((impl_uses.f k ((rd_T45 l0 0).f1)).bind fun bt212 => ((some (([] : List ByteArray) : List ByteArray)).bind fun y215 => (if bt212.1 = true then (if y215.length < 8796093022208 then ((some (y215 ++ [(rd_T45 l0 0).f2] : List ByteArray)).bind fun y219 => (if bt212.2.1 = true then (if y219.length < 8796093022208 then (some (y219 ++ [(rd_T45 l0 0).f3])) else (none)) else (some y219))) else (none)) else (if bt212.2.1 = true then (if y215.length < 8796093022208 then (some (y215 ++ [(rd_T45 l0 0).f3])) else (none)) else (some y215))))) else (none)) = some r := h
 clear h
 by_cases c2 : 0 < (l0.length : Int)
 ·
  rw [if_pos c2] at H
  have c2b0 : decide (0 < (l0.length : Int)) = true := decide_eq_true c2
  have c2b1 : decide (0 < l0.length) = true := decide_eq_true (by omega)
  clear c2
  replace H := Option.bind_eq_some_iff.mp H
  obtain ⟨⟨t212, t213, t214⟩, A30, H⟩ := H
  replace H : ((some (([] : List ByteArray) : List ByteArray)).bind fun y215 => (if t212 = true then (if y215.length < 8796093022208 then ((some (y215 ++ [(rd_T45 l0 0).f2] : List ByteArray)).bind fun y219 => (if t213 = true then (if y219.length < 8796093022208 then (some (y219 ++ [(rd_T45 l0 0).f3])) else (none)) else (some y219))) else (none)) else (if t213 = true then (if y215.length < 8796093022208 then (some (y215 ++ [(rd_T45 l0 0).f3])) else (none)) else (some y215)))) = some r := H
  have A3 := Aside0.mk A30
  clear A30
  obtain ⟨y215, hy215⟩ : ∃ y_ : List ByteArray, y_ = (([] : List ByteArray)) := ⟨_, rfl⟩
  replace H : (if t212 = true then (if y215.length < 8796093022208 then ((some (y215 ++ [(rd_T45 l0 0).f2] : List ByteArray)).bind fun y219 => (if t213 = true then (if y219.length < 8796093022208 then (some (y219 ++ [(rd_T45 l0 0).f3])) else (none)) else (some y219))) else (none)) else (if t213 = true then (if y215.length < 8796093022208 then (some (y215 ++ [(rd_T45 l0 0).f3])) else (none)) else (some y215))) = some r := by first | (rw [hy215]; with_reducible exact H) | (have H2_ := (Option.bind_some _ _).symm.trans H; rw [hy215]; with_reducible exact H2_) | (have H2_ := (Option.bind_some _ _).symm.trans H; with_reducible exact H2_) | with_reducible exact H | (rw [hy215]; exact H) | exact H
  have Ny215 := Aside0.mk hy215
  clear hy215
  by_cases c4 : t212 = true
  ·
   subst c4
   have H1 : (if y215.length < 8796093022208 then ((some (y215 ++ [(rd_T45 l0 0).f2] : List ByteArray)).bind fun y219 => (if t213 = true then (if y219.length < 8796093022208 then (some (y219 ++ [(rd_T45 l0 0).f3])) else (none)) else (some y219))) else (none)) = some r := by first | (rw [if_pos rfl] at H; exact H) | rfl
   clear H
   have H := H1
   clear H1
   by_cases c5 : y215.length < 8796093022208
   ·
    rw [if_pos c5] at H
    have LMc5 := Aside0.mk c5
    clear c5
    obtain ⟨y219, hy219⟩ : ∃ y_ : List ByteArray, y_ = (y215 ++ [(rd_T45 l0 0).f2]) := ⟨_, rfl⟩
    replace H : (if t213 = true then (if y219.length < 8796093022208 then (some (y219 ++ [(rd_T45 l0 0).f3])) else (none)) else (some y219)) = some r := by first | (rw [hy219]; with_reducible exact H) | (have H2_ := (Option.bind_some _ _).symm.trans H; rw [hy219]; with_reducible exact H2_) | (have H2_ := (Option.bind_some _ _).symm.trans H; with_reducible exact H2_) | with_reducible exact H | (rw [hy219]; exact H) | exact H
    have Ny219 := Aside0.mk hy219
    clear hy219
    by_cases c6 : t213 = true
    ·
     subst c6
     have H1 : (if y219.length < 8796093022208 then (some (y219 ++ [(rd_T45 l0 0).f3])) else (none)) = some r := by first | (rw [if_pos rfl] at H; exact H) | rfl
     clear H
     have H := H1
     clear H1
     by_cases c7 : y219.length < 8796093022208
     ·
      rw [if_pos c7] at H
      have LMc7 := Aside0.mk c7
      clear c7
      obtain ⟨y223, hy223⟩ : ∃ y_ : List ByteArray, y_ = (y219 ++ [(rd_T45 l0 0).f3]) := ⟨_, rfl⟩
      replace H : (some y223) = some r := by first | (rw [hy223]; with_reducible exact H) | (have H2_ := (Option.bind_some _ _).symm.trans H; rw [hy223]; with_reducible exact H2_) | (have H2_ := (Option.bind_some _ _).symm.trans H; with_reducible exact H2_) | with_reducible exact H | (rw [hy223]; exact H) | exact H
      have Ny223 := Aside0.mk hy223
      clear hy223
      obtain rfl := Option.some.inj H
      have q211 : 0 < (l0.length : Int) := of_decide_eq_true (by assumption)
      obtain ⟨ad211, e211, hx211_0, hx211_1, hx211_2, hx211_3, hx211_4, hx211_5⟩ := rp_T45 HR0.out q211
      cases e211
      go_enter Try.func106, Try.ntmps106
      go_wp2_with (first | ((with_reducible refine gate_callee (f := 74) rfl ?_); refine goesL_ (some 12) rfl rfl Try.func74 (by kernel_rfl) rfl #[.int .i8 ((rd_T45 l0 0).f1)] rfl (by (try simp only [List.map_toArray, List.map_cons, List.map_nil]); first | done | rfl | (simp only [List.length_drop, List.length_take]; rfl)) ?_; (with_reducible refine (impl_uses.calls k ((rd_T45 l0 0).f1) true true t214 _ A3.out).mono ?_); rintro e w' ⟨rfl, ⟨nd, rfl⟩⟩; refine ⟨_, rfl, ?_⟩) | ((with_reducible refine gate_dst (N := 16) rfl ?_); refine Kd.R_lit Kd.string _ 9 ?hg (N := 16) ?hd (xs := ([] : List ByteArray)) (inner := []) (ok := fun _ => True) (okp := fun _ => True) ?hr ?hp (fun _ hk => hk) trivial (Below.refl _ _) (Nat.le_refl _) (by simp) ?_; (case hd => rfl); (case hg => rfl); (case hr => first | (go_simp; done) | (go_simp; rfl)); (case hp => exact (Reps.none _ _)); intro v216 w8 ho9 hb hg_ hnew_; clear hg_ hnew_; (first | rw [← Ny215.out] at ho9 | (simp only [Int.reduceToNat] at ho9; rw [← Ny215.out] at ho9)); have n0_ := Aside0.mk (Kd.R_lower ho9 (below_size (by repeat (first | (with_reducible first | exact HB.out | apply below_alloc | apply pw_below_drewN | apply below_drew1) | exact HB.out)))); have n1_ := Aside0.mk (below_step (by repeat (first | (with_reducible first | exact HB.out | apply below_alloc | apply pw_below_drewN | apply below_drew1) | exact HB.out)) hb); clear HB; have HO217 := n0_; have HB := n1_; clear n0_ n1_; clear hb ho9; have q218 : 0 < (l0.length : Int) := of_decide_eq_true (by assumption); obtain ⟨ad218, e218, hx218_0, hx218_1, hx218_2, hx218_3, hx218_4, hx218_5⟩ := rp_T45 HR0.out q218; obtain rfl : ad211 = ad218 := (by injection e218); replace hx218_0 := (HB.out.cell (World.block_lt_of_cell? w _ hx218_0)).trans hx218_0; replace hx218_1 := (HB.out.cell (World.block_lt_of_cell? w _ hx218_1)).trans hx218_1; replace hx218_2 := (HB.out.cell (World.block_lt_of_cell? w _ hx218_2)).trans hx218_2; replace hx218_3 := (HB.out.cell (World.block_lt_of_cell? w _ hx218_3)).trans hx218_3; replace hx218_4 := (HB.out.cell (World.block_lt_of_cell? w _ hx218_4)).trans hx218_4; replace hx218_5 := (HB.out.cell (World.block_lt_of_cell? w _ hx218_5)).trans hx218_5) | ((with_reducible refine gate_builtin (b := .append) (xs := #[.tmp 18, .tmp 23]) rfl ?_); at_builtin; refine Kd.R_append Kd.string (w0 := w) w.heap.size rfl (.tmp 18) (.tmp 23) 48 9 (.string ⟨#[]⟩) 16 rfl Try.underlying48 info9 rfl (by decide) (by omega) v216 y215 ((rd_T45 l0 0).f2) [.string ((rd_T45 l0 0).f2)] (fun _ => True) (fun _ => False) rfl rfl ?aP (fun _ hk => hk.elim) ?aF ?aO ?aB ?aS ?aL ?_; (case aP => exact rfl); (case aB => exact (by repeat (first | (with_reducible first | exact HB.out | apply below_alloc | apply pw_below_drewN | apply below_drew1) | exact HB.out))); (case aF => exact (fun _ _ => trivial)); (case aO => exact (by (with_reducible repeat (first | apply Kd.R_alloc | apply Kd.R_drewN | apply Kd.R_drew)); exact HO217.out)); (case aS => exact (below_size (by repeat (first | (with_reducible first | exact HB.out | apply below_alloc | apply pw_below_drewN | apply below_drew1) | exact HB.out)))); (case aL => have := LMc5.out; omega); intro v220 w10 ho hb hg hat; rw [← Ny219.out] at ho; have n0_ := Aside0.mk (hb); have n1_ := Aside0.mk (ho); clear HB; clear HO217; have HB := n0_; have HO221 := n1_; clear n0_ n1_; clear ho hb hg hat; have q222 : 0 < (l0.length : Int) := of_decide_eq_true (by assumption); obtain ⟨ad222, e222, hx222_0, hx222_1, hx222_2, hx222_3, hx222_4, hx222_5⟩ := rp_T45 HR0.out q222; obtain rfl : ad211 = ad222 := (by injection e222); replace hx222_0 := (HB.out.cell (World.block_lt_of_cell? w _ hx222_0)).trans hx222_0; replace hx222_1 := (HB.out.cell (World.block_lt_of_cell? w _ hx222_1)).trans hx222_1; replace hx222_2 := (HB.out.cell (World.block_lt_of_cell? w _ hx222_2)).trans hx222_2; replace hx222_3 := (HB.out.cell (World.block_lt_of_cell? w _ hx222_3)).trans hx222_3; replace hx222_4 := (HB.out.cell (World.block_lt_of_cell? w _ hx222_4)).trans hx222_4; replace hx222_5 := (HB.out.cell (World.block_lt_of_cell? w _ hx222_5)).trans hx222_5) | ((with_reducible refine gate_builtin (b := .append) (xs := #[.tmp 26, .tmp 31]) rfl ?_); at_builtin; refine Kd.R_append Kd.string (w0 := w) w.heap.size rfl (.tmp 26) (.tmp 31) 48 9 (.string ⟨#[]⟩) 16 rfl Try.underlying48 info9 rfl (by decide) (by omega) v220 y219 ((rd_T45 l0 0).f3) [.string ((rd_T45 l0 0).f3)] (fun _ => True) (fun _ => False) rfl rfl ?aP (fun _ hk => hk.elim) ?aF ?aO ?aB ?aS ?aL ?_; (case aP => exact rfl); (case aB => exact (by repeat (first | (with_reducible first | exact HB.out | apply below_alloc | apply pw_below_drewN | apply below_drew1) | exact HB.out))); (case aF => exact (fun _ _ => trivial)); (case aO => exact (by (with_reducible repeat (first | apply Kd.R_alloc | apply Kd.R_drewN | apply Kd.R_drew)); exact HO221.out)); (case aS => exact (below_size (by repeat (first | (with_reducible first | exact HB.out | apply below_alloc | apply pw_below_drewN | apply below_drew1) | exact HB.out)))); (case aL => have := LMc7.out; omega); intro v224 w11 ho hb hg hat; rw [← Ny223.out] at ho; have n0_ := Aside0.mk (hb); have n1_ := Aside0.mk (ho); clear HB; clear HO221; have HB := n0_; have HO225 := n1_; clear n0_ n1_; clear ho hb hg hat))
      go_ret
      exact ⟨_, by first | rfl | (simp [errW_none, errW_some] <;> rfl) | (simp [*, errW_none, errW_some] <;> rfl), by (with_reducible repeat (first | apply Kd.R_alloc | apply Kd.R_drewN | apply Kd.R_drew)); exact HO225.out, by repeat (first | (with_reducible first | exact HB.out | apply below_alloc | apply pw_below_drewN | apply below_drew1) | exact HB.out)⟩
     ·
      rw [if_neg c7] at H
      exact absurd H (by simp)
    ·
     replace c6 := Bool.eq_false_iff.mpr c6
     subst c6
     have H1 : (some y219) = some r := by first | (rw [if_neg (show ¬ (false = true) by decide)] at H; exact H) | rfl
     clear H
     have H := H1
     clear H1
     obtain rfl := Option.some.inj H
     have q211 : 0 < (l0.length : Int) := of_decide_eq_true (by assumption)
     obtain ⟨ad211, e211, hx211_0, hx211_1, hx211_2, hx211_3, hx211_4, hx211_5⟩ := rp_T45 HR0.out q211
     cases e211
     go_enter Try.func106, Try.ntmps106
     go_wp2_with (first | ((with_reducible refine gate_callee (f := 74) rfl ?_); refine goesL_ (some 12) rfl rfl Try.func74 (by kernel_rfl) rfl #[.int .i8 ((rd_T45 l0 0).f1)] rfl (by (try simp only [List.map_toArray, List.map_cons, List.map_nil]); first | done | rfl | (simp only [List.length_drop, List.length_take]; rfl)) ?_; (with_reducible refine (impl_uses.calls k ((rd_T45 l0 0).f1) true false t214 _ A3.out).mono ?_); rintro e w' ⟨rfl, ⟨nd, rfl⟩⟩; refine ⟨_, rfl, ?_⟩) | ((with_reducible refine gate_dst (N := 16) rfl ?_); refine Kd.R_lit Kd.string _ 9 ?hg (N := 16) ?hd (xs := ([] : List ByteArray)) (inner := []) (ok := fun _ => True) (okp := fun _ => True) ?hr ?hp (fun _ hk => hk) trivial (Below.refl _ _) (Nat.le_refl _) (by simp) ?_; (case hd => rfl); (case hg => rfl); (case hr => first | (go_simp; done) | (go_simp; rfl)); (case hp => exact (Reps.none _ _)); intro v216 w12 ho13 hb hg_ hnew_; clear hg_ hnew_; (first | rw [← Ny215.out] at ho13 | (simp only [Int.reduceToNat] at ho13; rw [← Ny215.out] at ho13)); have n0_ := Aside0.mk (Kd.R_lower ho13 (below_size (by repeat (first | (with_reducible first | exact HB.out | apply below_alloc | apply pw_below_drewN | apply below_drew1) | exact HB.out)))); have n1_ := Aside0.mk (below_step (by repeat (first | (with_reducible first | exact HB.out | apply below_alloc | apply pw_below_drewN | apply below_drew1) | exact HB.out)) hb); clear HB; have HO217 := n0_; have HB := n1_; clear n0_ n1_; clear hb ho13; have q218 : 0 < (l0.length : Int) := of_decide_eq_true (by assumption); obtain ⟨ad218, e218, hx218_0, hx218_1, hx218_2, hx218_3, hx218_4, hx218_5⟩ := rp_T45 HR0.out q218; obtain rfl : ad211 = ad218 := (by injection e218); replace hx218_0 := (HB.out.cell (World.block_lt_of_cell? w _ hx218_0)).trans hx218_0; replace hx218_1 := (HB.out.cell (World.block_lt_of_cell? w _ hx218_1)).trans hx218_1; replace hx218_2 := (HB.out.cell (World.block_lt_of_cell? w _ hx218_2)).trans hx218_2; replace hx218_3 := (HB.out.cell (World.block_lt_of_cell? w _ hx218_3)).trans hx218_3; replace hx218_4 := (HB.out.cell (World.block_lt_of_cell? w _ hx218_4)).trans hx218_4; replace hx218_5 := (HB.out.cell (World.block_lt_of_cell? w _ hx218_5)).trans hx218_5) | ((with_reducible refine gate_builtin (b := .append) (xs := #[.tmp 18, .tmp 23]) rfl ?_); at_builtin; refine Kd.R_append Kd.string (w0 := w) w.heap.size rfl (.tmp 18) (.tmp 23) 48 9 (.string ⟨#[]⟩) 16 rfl Try.underlying48 info9 rfl (by decide) (by omega) v216 y215 ((rd_T45 l0 0).f2) [.string ((rd_T45 l0 0).f2)] (fun _ => True) (fun _ => False) rfl rfl ?aP (fun _ hk => hk.elim) ?aF ?aO ?aB ?aS ?aL ?_; (case aP => exact rfl); (case aB => exact (by repeat (first | (with_reducible first | exact HB.out | apply below_alloc | apply pw_below_drewN | apply below_drew1) | exact HB.out))); (case aF => exact (fun _ _ => trivial)); (case aO => exact (by (with_reducible repeat (first | apply Kd.R_alloc | apply Kd.R_drewN | apply Kd.R_drew)); exact HO217.out)); (case aS => exact (below_size (by repeat (first | (with_reducible first | exact HB.out | apply below_alloc | apply pw_below_drewN | apply below_drew1) | exact HB.out)))); (case aL => have := LMc5.out; omega); intro v220 w14 ho hb hg hat; rw [← Ny219.out] at ho; have n0_ := Aside0.mk (hb); have n1_ := Aside0.mk (ho); clear HB; clear HO217; have HB := n0_; have HO221 := n1_; clear n0_ n1_; clear ho hb hg hat))
     go_ret
     exact ⟨_, by first | rfl | (simp [errW_none, errW_some] <;> rfl) | (simp [*, errW_none, errW_some] <;> rfl), by (with_reducible repeat (first | apply Kd.R_alloc | apply Kd.R_drewN | apply Kd.R_drew)); exact HO221.out, by repeat (first | (with_reducible first | exact HB.out | apply below_alloc | apply pw_below_drewN | apply below_drew1) | exact HB.out)⟩
   ·
    rw [if_neg c5] at H
    exact absurd H (by simp)
  ·
   replace c4 := Bool.eq_false_iff.mpr c4
   subst c4
   have H1 : (if t213 = true then (if y215.length < 8796093022208 then (some (y215 ++ [(rd_T45 l0 0).f3])) else (none)) else (some y215)) = some r := by first | (rw [if_neg (show ¬ (false = true) by decide)] at H; exact H) | rfl
   clear H
   have H := H1
   clear H1
   by_cases c15 : t213 = true
   ·
    subst c15
    have H1 : (if y215.length < 8796093022208 then (some (y215 ++ [(rd_T45 l0 0).f3])) else (none)) = some r := by first | (rw [if_pos rfl] at H; exact H) | rfl
    clear H
    have H := H1
    clear H1
    by_cases c16 : y215.length < 8796093022208
    ·
     rw [if_pos c16] at H
     have LMc16 := Aside0.mk c16
     clear c16
     obtain ⟨y227, hy227⟩ : ∃ y_ : List ByteArray, y_ = (y215 ++ [(rd_T45 l0 0).f3]) := ⟨_, rfl⟩
     replace H : (some y227) = some r := by first | (rw [hy227]; with_reducible exact H) | (have H2_ := (Option.bind_some _ _).symm.trans H; rw [hy227]; with_reducible exact H2_) | (have H2_ := (Option.bind_some _ _).symm.trans H; with_reducible exact H2_) | with_reducible exact H | (rw [hy227]; exact H) | exact H
     have Ny227 := Aside0.mk hy227
     clear hy227
     obtain rfl := Option.some.inj H
     have q211 : 0 < (l0.length : Int) := of_decide_eq_true (by assumption)
     obtain ⟨ad211, e211, hx211_0, hx211_1, hx211_2, hx211_3, hx211_4, hx211_5⟩ := rp_T45 HR0.out q211
     cases e211
     go_enter Try.func106, Try.ntmps106
     go_wp2_with (first | ((with_reducible refine gate_callee (f := 74) rfl ?_); refine goesL_ (some 12) rfl rfl Try.func74 (by kernel_rfl) rfl #[.int .i8 ((rd_T45 l0 0).f1)] rfl (by (try simp only [List.map_toArray, List.map_cons, List.map_nil]); first | done | rfl | (simp only [List.length_drop, List.length_take]; rfl)) ?_; (with_reducible refine (impl_uses.calls k ((rd_T45 l0 0).f1) false true t214 _ A3.out).mono ?_); rintro e w' ⟨rfl, ⟨nd, rfl⟩⟩; refine ⟨_, rfl, ?_⟩) | ((with_reducible refine gate_dst (N := 16) rfl ?_); refine Kd.R_lit Kd.string _ 9 ?hg (N := 16) ?hd (xs := ([] : List ByteArray)) (inner := []) (ok := fun _ => True) (okp := fun _ => True) ?hr ?hp (fun _ hk => hk) trivial (Below.refl _ _) (Nat.le_refl _) (by simp) ?_; (case hd => rfl); (case hg => rfl); (case hr => first | (go_simp; done) | (go_simp; rfl)); (case hp => exact (Reps.none _ _)); intro v216 w17 ho18 hb hg_ hnew_; clear hg_ hnew_; (first | rw [← Ny215.out] at ho18 | (simp only [Int.reduceToNat] at ho18; rw [← Ny215.out] at ho18)); have n0_ := Aside0.mk (Kd.R_lower ho18 (below_size (by repeat (first | (with_reducible first | exact HB.out | apply below_alloc | apply pw_below_drewN | apply below_drew1) | exact HB.out)))); have n1_ := Aside0.mk (below_step (by repeat (first | (with_reducible first | exact HB.out | apply below_alloc | apply pw_below_drewN | apply below_drew1) | exact HB.out)) hb); clear HB; have HO217 := n0_; have HB := n1_; clear n0_ n1_; clear hb ho18; have q226 : 0 < (l0.length : Int) := of_decide_eq_true (by assumption); obtain ⟨ad226, e226, hx226_0, hx226_1, hx226_2, hx226_3, hx226_4, hx226_5⟩ := rp_T45 HR0.out q226; obtain rfl : ad211 = ad226 := (by injection e226); replace hx226_0 := (HB.out.cell (World.block_lt_of_cell? w _ hx226_0)).trans hx226_0; replace hx226_1 := (HB.out.cell (World.block_lt_of_cell? w _ hx226_1)).trans hx226_1; replace hx226_2 := (HB.out.cell (World.block_lt_of_cell? w _ hx226_2)).trans hx226_2; replace hx226_3 := (HB.out.cell (World.block_lt_of_cell? w _ hx226_3)).trans hx226_3; replace hx226_4 := (HB.out.cell (World.block_lt_of_cell? w _ hx226_4)).trans hx226_4; replace hx226_5 := (HB.out.cell (World.block_lt_of_cell? w _ hx226_5)).trans hx226_5) | ((with_reducible refine gate_builtin (b := .append) (xs := #[.tmp 26, .tmp 31]) rfl ?_); at_builtin; refine Kd.R_append Kd.string (w0 := w) w.heap.size rfl (.tmp 26) (.tmp 31) 48 9 (.string ⟨#[]⟩) 16 rfl Try.underlying48 info9 rfl (by decide) (by omega) v216 y215 ((rd_T45 l0 0).f3) [.string ((rd_T45 l0 0).f3)] (fun _ => True) (fun _ => False) rfl rfl ?aP (fun _ hk => hk.elim) ?aF ?aO ?aB ?aS ?aL ?_; (case aP => exact rfl); (case aB => exact (by repeat (first | (with_reducible first | exact HB.out | apply below_alloc | apply pw_below_drewN | apply below_drew1) | exact HB.out))); (case aF => exact (fun _ _ => trivial)); (case aO => exact (by (with_reducible repeat (first | apply Kd.R_alloc | apply Kd.R_drewN | apply Kd.R_drew)); exact HO217.out)); (case aS => exact (below_size (by repeat (first | (with_reducible first | exact HB.out | apply below_alloc | apply pw_below_drewN | apply below_drew1) | exact HB.out)))); (case aL => have := LMc16.out; omega); intro v228 w19 ho hb hg hat; rw [← Ny227.out] at ho; have n0_ := Aside0.mk (hb); have n1_ := Aside0.mk (ho); clear HB; clear HO217; have HB := n0_; have HO229 := n1_; clear n0_ n1_; clear ho hb hg hat))
     go_ret
     exact ⟨_, by first | rfl | (simp [errW_none, errW_some] <;> rfl) | (simp [*, errW_none, errW_some] <;> rfl), by (with_reducible repeat (first | apply Kd.R_alloc | apply Kd.R_drewN | apply Kd.R_drew)); exact HO229.out, by repeat (first | (with_reducible first | exact HB.out | apply below_alloc | apply pw_below_drewN | apply below_drew1) | exact HB.out)⟩
    ·
     rw [if_neg c16] at H
     exact absurd H (by simp)
   ·
    replace c15 := Bool.eq_false_iff.mpr c15
    subst c15
    have H1 : (some y215) = some r := by first | (rw [if_neg (show ¬ (false = true) by decide)] at H; exact H) | rfl
    clear H
    have H := H1
    clear H1
    obtain rfl := Option.some.inj H
    have q211 : 0 < (l0.length : Int) := of_decide_eq_true (by assumption)
    obtain ⟨ad211, e211, hx211_0, hx211_1, hx211_2, hx211_3, hx211_4, hx211_5⟩ := rp_T45 HR0.out q211
    cases e211
    go_enter Try.func106, Try.ntmps106
    go_wp2_with (first | ((with_reducible refine gate_callee (f := 74) rfl ?_); refine goesL_ (some 12) rfl rfl Try.func74 (by kernel_rfl) rfl #[.int .i8 ((rd_T45 l0 0).f1)] rfl (by (try simp only [List.map_toArray, List.map_cons, List.map_nil]); first | done | rfl | (simp only [List.length_drop, List.length_take]; rfl)) ?_; (with_reducible refine (impl_uses.calls k ((rd_T45 l0 0).f1) false false t214 _ A3.out).mono ?_); rintro e w' ⟨rfl, ⟨nd, rfl⟩⟩; refine ⟨_, rfl, ?_⟩) | ((with_reducible refine gate_dst (N := 16) rfl ?_); refine Kd.R_lit Kd.string _ 9 ?hg (N := 16) ?hd (xs := ([] : List ByteArray)) (inner := []) (ok := fun _ => True) (okp := fun _ => True) ?hr ?hp (fun _ hk => hk) trivial (Below.refl _ _) (Nat.le_refl _) (by simp) ?_; (case hd => rfl); (case hg => rfl); (case hr => first | (go_simp; done) | (go_simp; rfl)); (case hp => exact (Reps.none _ _)); intro v216 w20 ho21 hb hg_ hnew_; clear hg_ hnew_; (first | rw [← Ny215.out] at ho21 | (simp only [Int.reduceToNat] at ho21; rw [← Ny215.out] at ho21)); have n0_ := Aside0.mk (Kd.R_lower ho21 (below_size (by repeat (first | (with_reducible first | exact HB.out | apply below_alloc | apply pw_below_drewN | apply below_drew1) | exact HB.out)))); have n1_ := Aside0.mk (below_step (by repeat (first | (with_reducible first | exact HB.out | apply below_alloc | apply pw_below_drewN | apply below_drew1) | exact HB.out)) hb); clear HB; have HO217 := n0_; have HB := n1_; clear n0_ n1_; clear hb ho21))
    go_ret
    exact ⟨_, by first | rfl | (simp [errW_none, errW_some] <;> rfl) | (simp [*, errW_none, errW_some] <;> rfl), by (with_reducible repeat (first | apply Kd.R_alloc | apply Kd.R_drewN | apply Kd.R_drew)); exact HO217.out, by repeat (first | (with_reducible first | exact HB.out | apply below_alloc | apply pw_below_drewN | apply below_drew1) | exact HB.out)⟩
 ·
  rw [if_neg c2] at H
  exact absurd H (by simp)
/-! ### impl_needs: function 66 -/
mutual
def impl_needs.l0 : Nat → List (S45) → List Bool → List Int → Option (List Bool)
 | 0, _, _, _ => none
 | k + 1, x0, x5, x6 => if (x6.length : Int) > 0 then (if 0 < (x6.length : Int) then (if 0 ≤ (rd x6 0) then (if (rd x6 0) < (x0.length : Int) then (if 1 ≤ (x6.length : Int) then ((impl_Line_used.f k [rd_T45 x0 (rd x6 0)]).bind fun t242 => (impl_needs.l1 k x0 x5 (x6.drop (1 : Int).toNat) t242 (t242.length : Int) 0)) else (none)) else (none)) else (none)) else (none)) else (some x5)
def impl_needs.l1 : Nat → List (S45) → List Bool → List Int → List ByteArray → Int → Int → Option (List Bool)
 | 0, _, _, _, _, _, _ => none
 | k + 1, x0, x5, x6, x27, x28, x29 => if x29 < x28 then (if 0 ≤ x29 then (if x29 < (x27.length : Int) then ((impl_lineOf.f x0 (rdOf ByteArray.empty x27 x29)).bind fun t246 => (if 0 ≤ t246 then (if t246 < (x5.length : Int) then (if rdOf false x5 t246 = true then (impl_needs.l1 k x0 x5 x6 x27 x28 (wrap64 (x29 + 1))) else (if x6.length < 17592186044416 then (impl_needs.l1 k x0 (x5.set (t246 : Int).toNat true) (x6 ++ [t246]) x27 x28 (wrap64 (x29 + 1))) else (none))) else (none)) else (none))) else (none)) else (none)) else (impl_needs.l0 k x0 x5 x6)
end
def impl_needs.f (k : Nat) (l0 : List (S45)) (a1 : Int) : Option (List Bool) := if 0 ≤ (l0.length : Int) then (if ((l0.length : Int) : Int).toNat ≤ 281474976710656 then (impl_needs.l0 k l0 (List.replicate ((l0.length : Int) : Int).toNat false) (([a1] : List Int))) else (none)) else (none)
theorem impl_needs.mono_l : ∀ k, (∀ y0 y1 y2, LeO (impl_needs.l0 k y0 y1 y2) (impl_needs.l0 (k + 1) y0 y1 y2)) ∧ (∀ y0 y1 y2 y3 y4 y5, LeO (impl_needs.l1 k y0 y1 y2 y3 y4 y5) (impl_needs.l1 (k + 1) y0 y1 y2 y3 y4 y5))
 | 0 => ⟨fun _ _ _ r h => by simp [impl_needs.l0] at h, fun _ _ _ _ _ _ r h => by simp [impl_needs.l1] at h⟩
 | k + 1 => by
  obtain ⟨ih0, ih1⟩ := impl_needs.mono_l k
  refine ⟨?_, ?_⟩
  ·
   intro y0 y1 y2
   unfold impl_needs.l0
   repeat' first
   | (with_reducible exact ih0 _ _ _)
   | (with_reducible exact ih1 _ _ _ _ _ _)
   | (with_reducible exact impl_Line_used.mono _ _)
   | (with_reducible exact LeO.refl _)
   | (with_reducible exact LeO.none _)
   | (with_reducible refine LeO.ite ?_ ?_)
   | (with_reducible refine LeO.bind ?_ (fun _ => ?_))
   | exact ih0 _ _ _
   | exact ih1 _ _ _ _ _ _
   | exact LeO.none _
   | refine LeO.ite ?_ ?_
   | refine LeO.bind ?_ (fun _ => ?_)
  ·
   intro y0 y1 y2 y3 y4 y5
   unfold impl_needs.l1
   repeat' first
   | (with_reducible exact ih0 _ _ _)
   | (with_reducible exact ih1 _ _ _ _ _ _)
   | (with_reducible exact impl_Line_used.mono _ _)
   | (with_reducible exact LeO.refl _)
   | (with_reducible exact LeO.none _)
   | (with_reducible refine LeO.ite ?_ ?_)
   | (with_reducible refine LeO.bind ?_ (fun _ => ?_))
   | exact ih0 _ _ _
   | exact ih1 _ _ _ _ _ _
   | exact LeO.none _
   | refine LeO.ite ?_ ?_
   | refine LeO.bind ?_ (fun _ => ?_)
theorem impl_needs.mono : ∀ a0 a1 k, LeO (impl_needs.f k a0 a1) (impl_needs.f (k + 1) a0 a1) := by
 intro a0 a1 k
 obtain ⟨ih0, ih1⟩ := impl_needs.mono_l k
 unfold impl_needs.f
 repeat' first
   | (with_reducible exact ih0 _ _ _)
   | (with_reducible exact ih1 _ _ _ _ _ _)
   | (with_reducible exact impl_Line_used.mono _ _)
   | (with_reducible exact LeO.refl _)
   | (with_reducible exact LeO.none _)
   | (with_reducible refine LeO.ite ?_ ?_)
   | (with_reducible refine LeO.bind ?_ (fun _ => ?_))
   | exact ih0 _ _ _
   | exact ih1 _ _ _ _ _ _
   | exact LeO.none _
   | refine LeO.ite ?_ ?_
   | refine LeO.bind ?_ (fun _ => ?_)
set_option maxHeartbeats 8000000 in
set_option maxRecDepth 100000 in
theorem impl_needs.calls (k : Nat) (A0 : Option Addr) (c0 : Nat) (l0 : List (S45)) (a1 : Int) (r : List Bool) (w : World) (hr0 : Kd.C k45 w A0 l0.length l0) (hc0 : l0.length ≤ c0) (h : impl_needs.f k l0 a1 = some r) :
  Calls Try.prog 66 #[.slice A0 l0.length c0, .int .i64 a1] w fun e w' => ∃ v0_ : Value, e = .returned (v0_) ∧ Kd.R Kd.bool 4 w' w.heap.size (fun _ => True) v0_ r ∧ Below w.heap.size w w' := by
 have HR0 := Aside0.mk hr0
 have HC0 := Aside0.mk hc0
 clear hr0 hc0
 have HB := Aside0.mk (Below.refl w.heap.size w)
 have H : (if 0 ≤ (l0.length : Int) then (if ((l0.length : Int) : Int).toNat ≤ 281474976710656 then (impl_needs.l0 k l0 (List.replicate ((l0.length : Int) : Int).toNat false) (([a1] : List Int))) else (none)) else (none)) = some r := h
 clear h
 by_cases c3 : 0 ≤ (l0.length : Int)
 ·
  rw [if_pos c3] at H
  have c3b0 := eq_true c3
  have c3b1 : decide (0 ≤ (l0.length : Int)) = true := decide_eq_true c3
  clear c3
  by_cases c4 : ((l0.length : Int) : Int).toNat ≤ 281474976710656
  ·
   rw [if_pos c4] at H
   have c4b0 := eq_true c4
   have c4b1 : decide (((l0.length : Int) : Int).toNat ≤ 281474976710656) = true := decide_eq_true c4
   clear c4
   obtain ⟨y230, hy230⟩ : ∃ y_ : List Bool, y_ = (List.replicate ((l0.length : Int) : Int).toNat false) := ⟨_, rfl⟩
   replace H : (impl_needs.l0 k l0 y230 (([a1] : List Int))) = some r := by first | (rw [hy230]; with_reducible exact H) | (have H2_ := (Option.bind_some _ _).symm.trans H; rw [hy230]; with_reducible exact H2_) | (have H2_ := (Option.bind_some _ _).symm.trans H; with_reducible exact H2_) | with_reducible exact H | (rw [hy230]; exact H) | exact H
   have Ny230 := Aside0.mk hy230
   clear hy230
   obtain ⟨y233, hy233⟩ : ∃ y_ : List Int, y_ = (([a1] : List Int)) := ⟨_, rfl⟩
   replace H : (impl_needs.l0 k l0 y230 y233) = some r := by first | (rw [hy233]; with_reducible exact H) | (have H2_ := (Option.bind_some _ _).symm.trans H; rw [hy233]; with_reducible exact H2_) | (have H2_ := (Option.bind_some _ _).symm.trans H; with_reducible exact H2_) | with_reducible exact H | (rw [hy233]; exact H) | exact H
   have Ny233 := Aside0.mk hy233
   clear hy233
   have H' := Aside0.mk H
   clear H
   go_enter Try.func66, Try.ntmps66
   go_wp2_with (first | ((with_reducible refine gate_dst (N := 13) rfl ?_); refine Kd.R_make Kd.bool _ 4 rfl (N := 13) rfl 77 _ _ rfl (l0.length : Int) rfl rfl Try.underlying77 (.bool false) 1 info4 rfl (by decide) (by omega) false (ok := fun _ => True) (okp := fun _ => True) rfl (fun _ hk => hk) trivial (of_decide_eq_true (by assumption)) (Nat.le_trans (Nat.mul_le_mul_right _ (of_decide_eq_true (by assumption) : (l0.length : Int).toNat ≤ 281474976710656)) (by omega)) (Below.refl _ _) (Nat.le_refl _) ?_; intro v231 w5 ho6 hb hg_ hnew_; clear hg_ hnew_; (first | rw [← Ny230.out] at ho6 | (simp only [Int.reduceToNat] at ho6; rw [← Ny230.out] at ho6)); have n0_ := Aside0.mk (Kd.R_lower ho6 (below_size (by repeat (first | (with_reducible first | exact HB.out | apply below_alloc | apply pw_below_drewN | apply below_drew1) | exact HB.out)))); have n1_ := Aside0.mk (below_step (by repeat (first | (with_reducible first | exact HB.out | apply below_alloc | apply pw_below_drewN | apply below_drew1) | exact HB.out)) hb); clear HB; have HO232 := n0_; have HB := n1_; clear n0_ n1_; clear hb ho6) | ((with_reducible refine gate_dst (N := 15) rfl ?_); refine Kd.R_lit (Kd.int .i64) _ 3 ?hg (N := 15) ?hd (xs := ([a1] : List Int)) (inner := [.int .i64 a1]) (ok := fun _ => True) (okp := fun _ => True) ?hr ?hp (fun _ hk => hk) trivial (Below.refl _ _) (Nat.le_refl _) (by simp) ?_; (case hd => rfl); (case hg => rfl); (case hr => first | (go_simp; done) | (go_simp; rfl)); (case hp => exact (Reps.one (show Kd.M (Kd.int .i64) _ _ _ a1 [.int .i64 a1] from rfl) (Reps.none _ _))); intro v234 w7 ho8 hb hg_ hnew_; clear hg_ hnew_; (first | rw [← Ny233.out] at ho8 | (simp only [Int.reduceToNat] at ho8; rw [← Ny233.out] at ho8)); have n0_ := Aside0.mk (Kd.R_below (by (with_reducible repeat (first | apply Kd.R_alloc | apply Kd.R_drewN | apply Kd.R_drew)); exact HO232.out) hb); have n1_ := Aside0.mk (Kd.R_lower ho8 (below_size (by repeat (first | (with_reducible first | exact HB.out | apply below_alloc | apply pw_below_drewN | apply below_drew1) | exact HB.out)))); have n2_ := Aside0.mk (below_step (by repeat (first | (with_reducible first | exact HB.out | apply below_alloc | apply pw_below_drewN | apply below_drew1) | exact HB.out)) hb); clear HO232; clear HB; have HO232 := n0_; have HO235 := n1_; have HB := n2_; clear n0_ n1_ n2_; clear hb ho8))
   go_loopg [6] k (fun kq v6 w' => ∃ (x5_1 : List Bool) (x6_1 : List Int), Aside0 (impl_needs.l0 kq l0 x5_1 x6_1 = some r) ∧ Aside0 (kq ≤ k) ∧ Aside0 (Kd.R Kd.bool 4 w' w.heap.size (fun _ => True) v231 x5_1) ∧ Aside0 (Kd.Q (Kd.int .i64) 3 w' w.heap.size (fun _ => True) v6 x6_1) ∧ Aside0 (Below w.heap.size w w'))
   case atStart => exact ⟨(y230), (y233), H', ⟨Nat.le_refl _⟩, ⟨by (with_reducible repeat (first | apply Kd.R_alloc | apply Kd.R_drewN | apply Kd.R_drew)); exact HO232.out⟩, ⟨Kd.Q_of_R (by (with_reducible repeat (first | apply Kd.R_alloc | apply Kd.R_drewN | apply Kd.R_drew)); exact HO235.out)⟩, ⟨by repeat (first | (with_reducible first | exact HB.out | apply below_alloc | apply pw_below_drewN | apply below_drew1) | exact HB.out)⟩⟩
   case round =>
    clear H'
    try clear p2
    try clear c3
    try clear c3b0
    try clear c3b1
    try clear c4
    try clear c4b0
    try clear c4b1
    try clear c6
    obtain ⟨x5_1, x6_1, HA, HK1, HO_5, HO_6, HB⟩ := hrel
    cases gk with
    | zero => exact absurd HA.out (by simp [impl_needs.l0])
    | succ k1 =>
     have H := HA.out
     clear HA
     simp only [impl_needs.l0] at H
     by_cases c9 : (x6_1.length : Int) > 0
     ·
      rw [if_pos c9] at H
      have c9b0 : decide (0 < (x6_1.length : Int)) = true := decide_eq_true c9
      have c9b1 : decide (0 < x6_1.length) = true := decide_eq_true (by omega)
      clear c9
      by_cases c10 : 0 < (x6_1.length : Int)
      ·
       rw [if_pos c10] at H
       have c10b0 : decide (0 < (x6_1.length : Int)) = true := decide_eq_true c10
       have c10b1 : decide (0 < x6_1.length) = true := decide_eq_true (by omega)
       clear c10
       by_cases c11 : 0 ≤ (rd x6_1 0)
       ·
        rw [if_pos c11] at H
        have c11b0 : decide (0 ≤ (rd x6_1 0)) = true := decide_eq_true c11
        clear c11
        by_cases c12 : (rd x6_1 0) < (l0.length : Int)
        ·
         rw [if_pos c12] at H
         have c12b0 : decide ((rd x6_1 0) < (l0.length : Int)) = true := decide_eq_true c12
         clear c12
         by_cases c13 : 1 ≤ (x6_1.length : Int)
         ·
          rw [if_pos c13] at H
          have c13b0 := eq_true c13
          have c13b1 : decide (1 ≤ (x6_1.length : Int)) = true := decide_eq_true c13
          clear c13
          obtain ⟨y239, hy239⟩ : ∃ y_ : List Int, y_ = (x6_1.drop (1 : Int).toNat) := ⟨_, rfl⟩
          replace H : ((impl_Line_used.f k1 [rd_T45 l0 (rd x6_1 0)]).bind fun t242 => (impl_needs.l1 k1 l0 x5_1 y239 t242 (t242.length : Int) 0)) = some r := by first | (rw [hy239]; with_reducible exact H) | (have H2_ := (Option.bind_some _ _).symm.trans H; rw [hy239]; with_reducible exact H2_) | (have H2_ := (Option.bind_some _ _).symm.trans H; with_reducible exact H2_) | with_reducible exact H | (rw [hy239]; exact H) | exact H
          have Ny239 := Aside0.mk hy239
          clear hy239
          replace H := Option.bind_eq_some_iff.mp H
          obtain ⟨t242, A140, H⟩ := H
          replace H : (impl_needs.l1 k1 l0 x5_1 y239 t242 (t242.length : Int) 0) = some r := H
          have A14 := Aside0.mk A140
          clear A140
          have H' := Aside0.mk H
          clear H
          obtain ⟨Ao15, co15, eo15, _⟩ := Kd.Q_slice HO_6.out
          subst eo15
          have p236 : 0 ≤ (0 : Int) := (by omega)
          have q236 : 0 < (x6_1.length : Int) := of_decide_eq_true (by assumption)
          obtain ⟨ad236, e236, hx236_0⟩ := Kd.at_int (Kd.Q_reads' HO_6.out).2.2 0 p236 q236
          cases e236
          have qi236 : (0 < x6_1.length) = True := eq_true (by omega)
          (try rw [show ((0 : Int)).toNat = 0 from rfl] at hx236_0)
          (try rw [Addr.add_zero'] at hx236_0)
          replace p236 := eq_true p236
          replace q236 := eq_true q236
          have p237 : 0 ≤ ((rd x6_1 0) : Int) := of_decide_eq_true (by assumption)
          have q237 : (rd x6_1 0) < (l0.length : Int) := of_decide_eq_true (by assumption)
          obtain ⟨ad237, e237, hx237_0, hx237_1, hx237_2, hx237_3, hx237_4, hx237_5⟩ := at_T45 HR0.out (rd x6_1 0) p237 q237
          cases e237
          replace hx237_0 := (HB.out.cell (World.block_lt_of_cell? w _ hx237_0)).trans hx237_0
          replace hx237_1 := (HB.out.cell (World.block_lt_of_cell? w _ hx237_1)).trans hx237_1
          replace hx237_2 := (HB.out.cell (World.block_lt_of_cell? w _ hx237_2)).trans hx237_2
          replace hx237_3 := (HB.out.cell (World.block_lt_of_cell? w _ hx237_3)).trans hx237_3
          replace hx237_4 := (HB.out.cell (World.block_lt_of_cell? w _ hx237_4)).trans hx237_4
          replace hx237_5 := (HB.out.cell (World.block_lt_of_cell? w _ hx237_5)).trans hx237_5
          replace p237 := eq_true p237
          replace q237 := eq_true q237
          have HR238 := Aside0.mk (show Kd.C k45 w (some (Addr.add ad237 ((rd x6_1 0).toNat * 6))) [rd_T45 l0 (rd x6_1 0)].length [rd_T45 l0 (rd x6_1 0)] from Kd.C_el k45 z45 HR0.out ((rd x6_1 0) : Int) (of_eq_true p237) (of_eq_true q237))
          have q16 : (1 : Int) ≤ ((x6_1.length : Int) : Int) := of_decide_eq_true (by assumption)
          obtain ⟨i016, hi016, _, hsz16, _⟩ := info_parts info3
          have hcut16 := cut_from (P := Try.prog) 134 3 .i64 Try.underlying134 hi016 1 hsz16 (some ad236) x6_1.length co15 1 (by omega) q16
          have hr16 := Kd.Q_drop (k := (1 : Int).toNat) HO_6.out (by omega)
          obtain ⟨A16, hA16⟩ : ∃ A1, A1 = (if co15 = (1 : Int).toNat then (some ad236) else ((some ad236) : Option Addr).map (·.add ((1 : Int).toNat * 1))) := ⟨_, rfl⟩
          obtain ⟨c16, hc16⟩ : ∃ c1, c1 = co15 - (1 : Int).toNat := ⟨_, rfl⟩
          have hy16 : y239.length = x6_1.length - (1 : Int).toNat := (by rw [Ny239.out, List.length_drop])
          rw [← Ny239.out] at hr16
          rw [← hy16, ← hA16, ← hc16] at hcut16
          replace hr16 : Kd.Q (Kd.int .i64) 3 wr w.heap.size (fun _ => True) (.slice A16 y239.length c16) y239 := (by rw [hA16, hc16, hy16]; exact hr16)
          have HE16 : Aside0 ((Value.slice A16 y239.length c16).ownBlock = (.slice (some ad236) x6_1.length co15 : Value).ownBlock) := ⟨by rw [hA16]; split <;> (cases ((some ad236) : Option Addr) <;> rfl)⟩
          clear hy16 hi016 hsz16 HO_6 hA16 hc16
          have HO241 := Aside0.mk hr16
          clear hr16
          replace q16 := eq_true q16
          go_wp2_with (first | ((with_reducible refine gate_callee (f := 106) rfl ?_); refine goesL_ (some 27) rfl rfl Try.func106 (by kernel_rfl) rfl #[.pointer (some (Addr.add ad237 ((rd x6_1 0).toNat * 6)))] rfl (by (try simp only [List.map_toArray, List.map_cons, List.map_nil]); first | done | rfl | (simp only [List.length_drop, List.length_take]; rfl)) ?_; (with_reducible refine (impl_Line_used.calls k1 _ ([rd_T45 l0 (rd x6_1 0)]).length [rd_T45 l0 (rd x6_1 0)] t242 _ ?side1 ?side2 A14.out).mono ?_); (case side1 => repeat (first | exact (Kd.C_below HR238.out HB.out) | (with_reducible refine Kd.C_alloc ?_ _) | (with_reducible refine Kd.C_drewN ?_ _) | (with_reducible refine Kd.C_drew ?_))); (case side2 => exact Nat.le_refl _); rintro e w17 ⟨v243, rfl, ho0, hb⟩; refine ⟨_, rfl, ?_⟩; have n0_ := Aside0.mk (Kd.R_below (by (with_reducible repeat (first | apply Kd.R_alloc | apply Kd.R_drewN | apply Kd.R_drew)); exact HO_5.out) hb); have n1_ := Aside0.mk (Kd.Q_below (by (with_reducible repeat (first | apply Kd.Q_alloc | apply Kd.Q_drewN | apply Kd.Q_drew)); exact HO241.out) hb); have n2_ := Aside0.mk (Kd.R_lower ho0 (below_size (by repeat (first | (with_reducible first | exact HB.out | apply below_alloc | apply pw_below_drewN | apply below_drew1) | exact HB.out)))); have n3_ := Aside0.mk (below_step (by repeat (first | (with_reducible first | exact HB.out | apply below_alloc | apply pw_below_drewN | apply below_drew1) | exact HB.out)) hb); clear HO_5; clear HO241; clear HB; have HO_5 := n0_; have HO241 := n1_; have HO244 := n2_; have HB := n3_; clear n0_ n1_ n2_ n3_; (try clear hb); (try clear hb2); (try clear hk); (try clear hi); (try clear ho0); obtain ⟨Ao18, co18, eo18⟩ := Kd.R_slice HO244.out; subst eo18))
          go_loopg [6, 29] k1 (fun kq v6 v29 w' => ∃ (x5_2 : List Bool) (x6_2 : List Int) (x29_2 : Int), v29 = .int .i64 x29_2 ∧ Aside0 (impl_needs.l1 kq l0 x5_2 x6_2 t242 (t242.length : Int) x29_2 = some r) ∧ Aside0 (kq ≤ k1) ∧ Aside0 (Kd.R Kd.bool 4 w' w.heap.size (fun _ => True) v231 x5_2) ∧ Aside0 (Kd.Q (Kd.int .i64) 3 w' w.heap.size (fun _ => True) v6 x6_2) ∧ Aside0 (Kd.R Kd.string 9 w' w.heap.size (fun _ => True) (.slice Ao18 t242.length co18) t242) ∧ Aside0 (Below w.heap.size w w'))
          case atStart => exact ⟨(x5_1), (y239), (0), (by first | rfl | (simp; done) | (simp [*]; done) | (simp [isE_]; done)), H', ⟨Nat.le_refl _⟩, ⟨by (with_reducible repeat (first | apply Kd.R_alloc | apply Kd.R_drewN | apply Kd.R_drew)); exact HO_5.out⟩, ⟨by (with_reducible repeat (first | apply Kd.Q_alloc | apply Kd.Q_drewN | apply Kd.Q_drew)); exact HO241.out⟩, ⟨by (with_reducible repeat (first | apply Kd.R_alloc | apply Kd.R_drewN | apply Kd.R_drew)); exact HO244.out⟩, ⟨by repeat (first | (with_reducible first | exact HB.out | apply below_alloc | apply pw_below_drewN | apply below_drew1) | exact HB.out)⟩⟩
          case round =>
           clear H'
           try clear c1
           try clear q1
           try clear p2
           try clear q2
           try clear hx2
           try clear qi2
           try clear c3
           try clear c3b0
           try clear c3b1
           try clear c4
           try clear c4b0
           try clear c4b1
           try clear c6
           try clear c9
           try clear c9b0
           try clear c9b1
           try clear c10
           try clear c10b0
           try clear c10b1
           try clear c11
           try clear c11b0
           try clear c12
           try clear c12b0
           try clear c13
           try clear c13b0
           try clear c13b1
           try clear c16
           try clear q16
           try clear hx236_0
           try clear hx237_0
           try clear hx237_1
           try clear hx237_2
           try clear hx237_3
           try clear hx237_4
           try clear hx237_5
           try clear p2
           try clear p236
           try clear p237
           try clear q16
           try clear q236
           try clear q237
           obtain ⟨x5_2, x6_2, x29_2, rfl, HA, HK2, HO_5, HO_6, HO_27, HB⟩ := hrel
           cases gk with
           | zero => exact absurd HA.out (by simp [impl_needs.l1])
           | succ k2 =>
            have H := HA.out
            clear HA
            simp only [impl_needs.l1] at H
            by_cases c19 : x29_2 < (t242.length : Int)
            ·
             rw [if_pos c19] at H
             have c19b0 : decide (x29_2 < (t242.length : Int)) = true := decide_eq_true c19
             clear c19
             by_cases c20 : 0 ≤ x29_2
             ·
              rw [if_pos c20] at H
              have c20b0 : decide (0 ≤ x29_2) = true := decide_eq_true c20
              clear c20
              by_cases c21 : x29_2 < (t242.length : Int)
              ·
               rw [if_pos c21] at H
               have c21b0 : decide (x29_2 < (t242.length : Int)) = true := decide_eq_true c21
               clear c21
               replace H := Option.bind_eq_some_iff.mp H
               obtain ⟨t246, A220, H⟩ := H
               replace H : (if 0 ≤ t246 then (if t246 < (x5_2.length : Int) then (if rdOf false x5_2 t246 = true then (impl_needs.l1 k2 l0 x5_2 x6_2 t242 (t242.length : Int) (wrap64 (x29_2 + 1))) else (if x6_2.length < 17592186044416 then (impl_needs.l1 k2 l0 (x5_2.set (t246 : Int).toNat true) (x6_2 ++ [t246]) t242 (t242.length : Int) (wrap64 (x29_2 + 1))) else (none))) else (none)) else (none)) = some r := H
               have A22 := Aside0.mk A220
               clear A220
               by_cases c23 : 0 ≤ t246
               ·
                rw [if_pos c23] at H
                have c23b0 : decide (0 ≤ t246) = true := decide_eq_true c23
                clear c23
                by_cases c24 : t246 < (x5_2.length : Int)
                ·
                 rw [if_pos c24] at H
                 have c24b0 : decide (t246 < (x5_2.length : Int)) = true := decide_eq_true c24
                 clear c24
                 obtain ⟨bq25, hbq25⟩ : ∃ b_ : Bool, b_ = (rdOf false x5_2 t246) := ⟨_, rfl⟩
                 replace H : (if bq25 = true then (impl_needs.l1 k2 l0 x5_2 x6_2 t242 (t242.length : Int) (wrap64 (x29_2 + 1))) else (if x6_2.length < 17592186044416 then (impl_needs.l1 k2 l0 (x5_2.set (t246 : Int).toNat true) (x6_2 ++ [t246]) t242 (t242.length : Int) (wrap64 (x29_2 + 1))) else (none))) = some r := by rw [← hbq25] at H; exact H
                 have Nbq25 := Aside0.mk hbq25
                 clear hbq25
                 by_cases c26 : bq25 = true
                 ·
                  subst c26
                  have H1 : (impl_needs.l1 k2 l0 x5_2 x6_2 t242 (t242.length : Int) (wrap64 (x29_2 + 1))) = some r := by first | (rw [if_pos rfl] at H; exact H) | rfl
                  clear H
                  have H := H1
                  clear H1
                  have H' := Aside0.mk H
                  clear H
                  have p245 : 0 ≤ (x29_2 : Int) := of_decide_eq_true (by assumption)
                  have q245 : x29_2 < (t242.length : Int) := of_decide_eq_true (by assumption)
                  obtain ⟨ad245, e245, hx245_0⟩ := Kd.at_string (Kd.R_reads' HO_27.out).2.2 x29_2 p245 q245
                  cases e245
                  replace p245 := eq_true p245
                  replace q245 := eq_true q245
                  go_wp2_with (first | ((with_reducible refine gate_callee (f := 79) rfl ?_); refine goesL_ (some 35) rfl rfl Try.func79 (by kernel_rfl) rfl #[.slice (some ad237) l0.length c0, .string (rdOf ByteArray.empty t242 x29_2)] rfl (by (try simp only [List.map_toArray, List.map_cons, List.map_nil]); first | done | rfl | (simp only [List.length_drop, List.length_take]; rfl)) ?_; (with_reducible refine (impl_lineOf.calls _ _ l0 (rdOf ByteArray.empty t242 x29_2) t246 _ ?side1 ?side2 A22.out).mono ?_); (case side1 => repeat (first | exact (Kd.C_below HR0.out HB.out) | (with_reducible refine Kd.C_alloc ?_ _) | (with_reducible refine Kd.C_drewN ?_ _) | (with_reducible refine Kd.C_drew ?_))); (case side2 => exact HC0.out); rintro e w27 ⟨rfl, hb⟩; refine ⟨_, rfl, ?_⟩; have n0_ := Aside0.mk (Kd.R_below (by (with_reducible repeat (first | apply Kd.R_alloc | apply Kd.R_drewN | apply Kd.R_drew)); exact HO_5.out) hb); have n1_ := Aside0.mk (Kd.Q_below (by (with_reducible repeat (first | apply Kd.Q_alloc | apply Kd.Q_drewN | apply Kd.Q_drew)); exact HO_6.out) hb); have n2_ := Aside0.mk (Kd.R_below (by (with_reducible repeat (first | apply Kd.R_alloc | apply Kd.R_drewN | apply Kd.R_drew)); exact HO_27.out) hb); have n3_ := Aside0.mk (below_step (by repeat (first | (with_reducible first | exact HB.out | apply below_alloc | apply pw_below_drewN | apply below_drew1) | exact HB.out)) hb); clear HO_5; clear HO_6; clear HO_27; clear HB; have HO_5 := n0_; have HO_6 := n1_; have HO_27 := n2_; have HB := n3_; clear n0_ n1_ n2_ n3_; (try clear hb); (try clear hb2); (try clear hk); (try clear hi); obtain ⟨Ao28, co28, eo28⟩ := Kd.R_slice HO_5.out; subst eo28; have p247 : 0 ≤ (t246 : Int) := of_decide_eq_true (by assumption); have q247 : t246 < (x5_2.length : Int) := of_decide_eq_true (by assumption); obtain ⟨ad247, e247, hx247_0⟩ := Kd.at_bool (Kd.R_reads' HO_5.out).2.2 t246 p247 q247; (try rw [← Nbq25.out] at hx247_0); cases e247; replace p247 := eq_true p247; replace q247 := eq_true q247))
                  go_roundg k2
                  case measure => have := HK1.out; have := HK2.out; omega
                  case rel => exact ⟨(x5_2), (x6_2), (wrap64 (x29_2 + 1)), (by first | rfl | (simp; done) | (simp [*]; done) | (simp [isE_]; done)), H', ⟨by have := HK1.out; have := HK2.out; omega⟩, ⟨by (with_reducible repeat (first | apply Kd.R_alloc | apply Kd.R_drewN | apply Kd.R_drew)); exact HO_5.out⟩, ⟨by (with_reducible repeat (first | apply Kd.Q_alloc | apply Kd.Q_drewN | apply Kd.Q_drew)); exact HO_6.out⟩, ⟨by (with_reducible repeat (first | apply Kd.R_alloc | apply Kd.R_drewN | apply Kd.R_drew)); exact HO_27.out⟩, ⟨by repeat (first | (with_reducible first | exact HB.out | apply below_alloc | apply pw_below_drewN | apply below_drew1) | exact HB.out)⟩⟩
                 ·
                  replace c26 := Bool.eq_false_iff.mpr c26
                  subst c26
                  have H1 : (if x6_2.length < 17592186044416 then (impl_needs.l1 k2 l0 (x5_2.set (t246 : Int).toNat true) (x6_2 ++ [t246]) t242 (t242.length : Int) (wrap64 (x29_2 + 1))) else (none)) = some r := by first | (rw [if_neg (show ¬ (false = true) by decide)] at H; exact H) | rfl
                  clear H
                  have H := H1
                  clear H1
                  obtain ⟨y248, hy248⟩ : ∃ y_ : List Bool, y_ = (x5_2.set (t246 : Int).toNat true) := ⟨_, rfl⟩
                  replace H : (if x6_2.length < 17592186044416 then (impl_needs.l1 k2 l0 y248 (x6_2 ++ [t246]) t242 (t242.length : Int) (wrap64 (x29_2 + 1))) else (none)) = some r := by first | (rw [hy248]; with_reducible exact H) | (have H2_ := (Option.bind_some _ _).symm.trans H; rw [hy248]; with_reducible exact H2_) | (have H2_ := (Option.bind_some _ _).symm.trans H; with_reducible exact H2_) | with_reducible exact H | (rw [hy248]; exact H) | exact H
                  have Ny248 := Aside0.mk hy248
                  clear hy248
                  by_cases c30 : x6_2.length < 17592186044416
                  ·
                   rw [if_pos c30] at H
                   have LMc30 := Aside0.mk c30
                   clear c30
                   obtain ⟨y249, hy249⟩ : ∃ y_ : List Int, y_ = (x6_2 ++ [t246]) := ⟨_, rfl⟩
                   replace H : (impl_needs.l1 k2 l0 y248 y249 t242 (t242.length : Int) (wrap64 (x29_2 + 1))) = some r := by first | (rw [hy249]; with_reducible exact H) | (have H2_ := (Option.bind_some _ _).symm.trans H; rw [hy249]; with_reducible exact H2_) | (have H2_ := (Option.bind_some _ _).symm.trans H; with_reducible exact H2_) | with_reducible exact H | (rw [hy249]; exact H) | exact H
                   have Ny249 := Aside0.mk hy249
                   clear hy249
                   have H' := Aside0.mk H
                   clear H
                   have p245 : 0 ≤ (x29_2 : Int) := of_decide_eq_true (by assumption)
                   have q245 : x29_2 < (t242.length : Int) := of_decide_eq_true (by assumption)
                   obtain ⟨ad245, e245, hx245_0⟩ := Kd.at_string (Kd.R_reads' HO_27.out).2.2 x29_2 p245 q245
                   cases e245
                   replace p245 := eq_true p245
                   replace q245 := eq_true q245
                   go_wp2_with (first | ((with_reducible refine gate_callee (f := 79) rfl ?_); refine goesL_ (some 35) rfl rfl Try.func79 (by kernel_rfl) rfl #[.slice (some ad237) l0.length c0, .string (rdOf ByteArray.empty t242 x29_2)] rfl (by (try simp only [List.map_toArray, List.map_cons, List.map_nil]); first | done | rfl | (simp only [List.length_drop, List.length_take]; rfl)) ?_; (with_reducible refine (impl_lineOf.calls _ _ l0 (rdOf ByteArray.empty t242 x29_2) t246 _ ?side1 ?side2 A22.out).mono ?_); (case side1 => repeat (first | exact (Kd.C_below HR0.out HB.out) | (with_reducible refine Kd.C_alloc ?_ _) | (with_reducible refine Kd.C_drewN ?_ _) | (with_reducible refine Kd.C_drew ?_))); (case side2 => exact HC0.out); rintro e w31 ⟨rfl, hb⟩; refine ⟨_, rfl, ?_⟩; have n0_ := Aside0.mk (Kd.R_below (by (with_reducible repeat (first | apply Kd.R_alloc | apply Kd.R_drewN | apply Kd.R_drew)); exact HO_5.out) hb); have n1_ := Aside0.mk (Kd.Q_below (by (with_reducible repeat (first | apply Kd.Q_alloc | apply Kd.Q_drewN | apply Kd.Q_drew)); exact HO_6.out) hb); have n2_ := Aside0.mk (Kd.R_below (by (with_reducible repeat (first | apply Kd.R_alloc | apply Kd.R_drewN | apply Kd.R_drew)); exact HO_27.out) hb); have n3_ := Aside0.mk (below_step (by repeat (first | (with_reducible first | exact HB.out | apply below_alloc | apply pw_below_drewN | apply below_drew1) | exact HB.out)) hb); clear HO_5; clear HO_6; clear HO_27; clear HB; have HO_5 := n0_; have HO_6 := n1_; have HO_27 := n2_; have HB := n3_; clear n0_ n1_ n2_ n3_; (try clear hb); (try clear hb2); (try clear hk); (try clear hi); obtain ⟨Ao32, co32, eo32⟩ := Kd.R_slice HO_5.out; subst eo32; have p247 : 0 ≤ (t246 : Int) := of_decide_eq_true (by assumption); have q247 : t246 < (x5_2.length : Int) := of_decide_eq_true (by assumption); obtain ⟨ad247, e247, hx247_0⟩ := Kd.at_bool (Kd.R_reads' HO_5.out).2.2 t246 p247 q247; (try rw [← Nbq25.out] at hx247_0); cases e247; replace p247 := eq_true p247; replace q247 := eq_true q247; have p29 : 0 ≤ (t246 : Int) := of_decide_eq_true (by assumption); have q29 : (t246 : Int) < ((x5_2.length : Int) : Int) := of_decide_eq_true (by assumption); obtain ⟨go29, co29, eo29, gb29, gl29, cl29, HG29⟩ := Kd.R_form HO_5.out (by omega); (first | cases eo29 | (injection eo29 with ea_ en_ ec_; (first | subst ea_ | (injection ea_ with ea_; subst ea_)); subst ec_; clear en_)); have GB29 := Aside0.mk gb29; have GG29 := Aside0.mk HG29; clear gb29 gl29 HG29; (first | simp only [add_plain] at hx247_0 | skip); obtain ⟨hx29_0, hf29_0⟩ := Kd.R_celln false HO_5.out (t246 : Int) p29 q29; replace p29 := eq_true p29; replace q29 := eq_true q29; obtain ⟨hy33_, hz33_⟩ := Kd.R_celln false HO_5.out (t246 : Int) (of_decide_eq_true (by assumption)) (of_decide_eq_true (by assumption)); have HP33 := Kd.R_putg HO_5.out (t246 : Int) true) | ((with_reducible refine gate_store (t := 4) (p := 43) rfl ?_); refine store_event (t := 4) (p := 43) (v := ?vo_w34) (w1 := (w31.setCell ⟨go29, (t246 : Int).toNat, none⟩ (.bool true))) ?hg ?ho ?hn ?hr ?_; (case ho => rfl); (case hg => rfl); (case hn => rfl); (case hr => first | (go_simp; done) | (go_simp; rfl)); intro w34 hw; have hg : w31.grownBy w34 (some go29) := (by rw [hw]; exact HP33.2); have hp_ : Kd.R Kd.bool 4 w34 w.heap.size (fun _ => True) (.slice (some ⟨go29, 0, none⟩) x5_2.length co32) y248 := (by rw [hw, Ny248.out]; exact HP33.1); clear HP33; have n0_ := Aside0.mk (hp_); have n1_ := Aside0.mk (Kd.Q_over' (v := (.slice (some ⟨go29, 0, none⟩) x5_2.length co32)) (by (with_reducible repeat (first | apply Kd.Q_alloc | apply Kd.Q_drewN | apply Kd.Q_drew)); exact HO_6.out) (Kd.R_typed HO_5.out) (by decide) hg); have n2_ := Aside0.mk (Kd.R_over' (v := (.slice (some ⟨go29, 0, none⟩) x5_2.length co32)) (by (with_reducible repeat (first | apply Kd.R_alloc | apply Kd.R_drewN | apply Kd.R_drew)); exact HO_27.out) (Kd.R_typed HO_5.out) (by decide) hg); have n3_ := Aside0.mk ((by rw [hw]; exact below_set (HB.out) GB29.out : Below w.heap.size w w34)); clear HO_5; clear HO_6; clear HO_27; clear HB; have HO_5 := n0_; have HO_6 := n1_; have HO_27 := n2_; have HB := n3_; clear n0_ n1_ n2_ n3_; clear hg hw hp_) | ((with_reducible refine gate_builtin (b := .append) (xs := #[.tmp 44, .tmp 46]) rfl ?_); at_builtin; refine Kd.Q_append (Kd.int .i64) (w0 := w) w.heap.size rfl (.tmp 44) (.tmp 46) 134 3 (.int .i64 0) 8 rfl Try.underlying134 info3 rfl (by decide) (by omega) u6 x6_2 t246 [.int .i64 t246] (fun _ => True) (fun _ => False) rfl rfl ?aP (fun _ hk => hk.elim) ?aF ?aO ?aB ?aS ?aL ?_; (case aP => exact rfl); (case aB => exact (by repeat (first | (with_reducible first | exact HB.out | apply below_alloc | apply pw_below_drewN | apply below_drew1) | exact HB.out))); (case aF => exact (fun _ _ => trivial)); (case aO => exact (by (with_reducible repeat (first | apply Kd.Q_alloc | apply Kd.Q_drewN | apply Kd.Q_drew)); exact HO_6.out)); (case aS => exact (below_size (by repeat (first | (with_reducible first | exact HB.out | apply below_alloc | apply pw_below_drewN | apply below_drew1) | exact HB.out)))); (case aL => have := LMc30.out; omega); intro v250 w35 ho hb hg hat; rw [← Ny249.out] at ho; have n0_ := Aside0.mk (Kd.R_over' (by (with_reducible repeat (first | apply Kd.R_alloc | apply Kd.R_drewN | apply Kd.R_drew)); exact HO_5.out) (Kd.Q_typed (by (with_reducible repeat (first | apply Kd.Q_alloc | apply Kd.Q_drewN | apply Kd.Q_drew)); exact HO_6.out)) (by decide) hg); have n1_ := Aside0.mk (Kd.R_over' (by (with_reducible repeat (first | apply Kd.R_alloc | apply Kd.R_drewN | apply Kd.R_drew)); exact HO_27.out) (Kd.Q_typed (by (with_reducible repeat (first | apply Kd.Q_alloc | apply Kd.Q_drewN | apply Kd.Q_drew)); exact HO_6.out)) (by decide) hg); have n2_ := Aside0.mk (hb); have n3_ := Aside0.mk (ho); clear HO_5; clear HO_27; clear HB; clear HO_6; have HO_5 := n0_; have HO_27 := n1_; have HB := n2_; have HO251 := n3_; clear n0_ n1_ n2_ n3_; clear ho hb hg hat))
                   go_roundg k2
                   case measure => have := HK1.out; have := HK2.out; omega
                   case rel => exact ⟨(y248), (y249), (wrap64 (x29_2 + 1)), (by first | rfl | (simp; done) | (simp [*]; done) | (simp [isE_]; done)), H', ⟨by have := HK1.out; have := HK2.out; omega⟩, ⟨by (with_reducible repeat (first | apply Kd.R_alloc | apply Kd.R_drewN | apply Kd.R_drew)); exact HO_5.out⟩, ⟨by (with_reducible repeat (first | apply Kd.Q_alloc | apply Kd.Q_drewN | apply Kd.Q_drew)); exact HO251.out⟩, ⟨by (with_reducible repeat (first | apply Kd.R_alloc | apply Kd.R_drewN | apply Kd.R_drew)); exact HO_27.out⟩, ⟨by repeat (first | (with_reducible first | exact HB.out | apply below_alloc | apply pw_below_drewN | apply below_drew1) | exact HB.out)⟩⟩
                  ·
                   rw [if_neg c30] at H
                   exact absurd H (by simp)
                ·
                 rw [if_neg c24] at H
                 exact absurd H (by simp)
               ·
                rw [if_neg c23] at H
                exact absurd H (by simp)
              ·
               rw [if_neg c21] at H
               exact absurd H (by simp)
             ·
              rw [if_neg c20] at H
              exact absurd H (by simp)
            ·
             rw [if_neg c19] at H
             have c19b0 : decide (x29_2 < (t242.length : Int)) = false := decide_eq_false c19
             clear c19
             have H' := Aside0.mk H
             clear H
             go_wp2
             go_roundg k2
             case measure => have := HK1.out; have := HK2.out; omega
             case rel => exact ⟨(x5_2), (x6_2), H', ⟨by have := HK1.out; have := HK2.out; omega⟩, ⟨by (with_reducible repeat (first | apply Kd.R_alloc | apply Kd.R_drewN | apply Kd.R_drew)); exact HO_5.out⟩, ⟨by (with_reducible repeat (first | apply Kd.Q_alloc | apply Kd.Q_drewN | apply Kd.Q_drew)); exact HO_6.out⟩, ⟨by repeat (first | (with_reducible first | exact HB.out | apply below_alloc | apply pw_below_drewN | apply below_drew1) | exact HB.out)⟩⟩
         ·
          rw [if_neg c13] at H
          exact absurd H (by simp)
        ·
         rw [if_neg c12] at H
         exact absurd H (by simp)
       ·
        rw [if_neg c11] at H
        exact absurd H (by simp)
      ·
       rw [if_neg c10] at H
       exact absurd H (by simp)
     ·
      rw [if_neg c9] at H
      have c9b0 : decide (0 < (x6_1.length : Int)) = false := decide_eq_false c9
      have c9b1 : decide (0 < x6_1.length) = false := decide_eq_false (by omega)
      clear c9
      obtain rfl := Option.some.inj H
      obtain ⟨Ao36, co36, eo36, _⟩ := Kd.Q_slice HO_6.out
      subst eo36
      go_wp2
      go_ret
      exact ⟨_, by first | rfl | (simp [errW_none, errW_some] <;> rfl) | (simp [*, errW_none, errW_some] <;> rfl), by (with_reducible repeat (first | apply Kd.R_alloc | apply Kd.R_drewN | apply Kd.R_drew)); exact HO_5.out, by repeat (first | (with_reducible first | exact HB.out | apply below_alloc | apply pw_below_drewN | apply below_drew1) | exact HB.out)⟩
  ·
   rw [if_neg c4] at H
   exact absurd H (by simp)
 ·
  rw [if_neg c3] at H
  exact absurd H (by simp)
end Go.Proofs.Ytenhgmddpkiliaa.PB

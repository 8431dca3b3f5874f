-- Written by a program (xprint.py) out of the translation's own print; Lean checks it.
import Derived.Test.YtenhgmddpkiliaaPBx0
import Derived.Test.YtenhgmddpkiliaaPBx4
import Derived.Test.YtenhgmddpkiliaaPBx5
import Derived.Test.YtenhgmddpkiliaaPBl07Line
namespace Go.Proofs.Ytenhgmddpkiliaa.PB
open Go.RowKit Go.Proofs.YtenhgmddpkiliaaW.PrintWords Go.Proofs.YtenhgmddpkiliaaW.PrintLast Go.Proofs.YtenhgmddpkiliaaW.PrintMore Go.Proofs.YtenhgmddpkiliaaRP
attribute [local go_sem] max2_int min2_int max_two min_two max_three min_three max_four min_four Go.Proofs.YtenhgmddpkiliaaRP.max_eight   -- for this text's walks alone
set_option linter.unusedVariables false
set_option linter.unusedSimpArgs false
/-! ### spec_l07Ok: function 64 -/
mutual
def spec_l07Ok.l0 : Nat → List (S45) → Int → Option (Bool)
 | 0, _, _ => none
 | k + 1, x0, x3 => if x3 < (x0.length : Int) then (if 0 ≤ x3 then ((spec_l07Line.f k [rd_T45 x0 x3]).bind fun t185 => (if t185 = true then ((spec_l07Find.f k x0 ((rd_T45 x0 x3).f0)).bind fun t187 => (spec_l07Ok.j1 k x0 x3 (t187 != x3))) else (spec_l07Ok.j1 k x0 x3 true))) else (none)) else (spec_l07Ok.l2 k x0 0)
def spec_l07Ok.j1 : Nat → List (S45) → Int → Bool → Option (Bool)
 | 0, _, _, _ => none
 | k + 1, x0, x3, x33 => if x33 = true then (some false) else ((spec_l07Uses.f k x0 x3).bind fun t188 => (spec_l07Ok.l1 k x0 x3 t188 0))
def spec_l07Ok.l1 : Nat → List (S45) → Int → List Int → Int → Option (Bool)
 | 0, _, _, _, _ => none
 | k + 1, x0, x3, x4, x5 => if x5 < (x4.length : Int) then (if 0 ≤ x5 then (if (rd x4 x5) < 0 then (some false) else (spec_l07Ok.l1 k x0 x3 x4 (wrap64 (x5 + 1)))) else (none)) else (spec_l07Ok.l0 k x0 (wrap64 (x3 + 1)))
def spec_l07Ok.l2 : Nat → List (S45) → Int → Option (Bool)
 | 0, _, _ => none
 | k + 1, x0, x6 => if x6 < (x0.length : Int) then ((spec_l07Needs.f k x0 x6).bind fun bt192 => (if bt192.2 = true then (spec_l07Ok.l2 k x0 (wrap64 (x6 + 1))) else (some false))) else (some true)
end
def spec_l07Ok.f (k : Nat) (l0 : List (S45)) : Option (Bool) := if (l0.length : Int) > 24 then (some false) else (spec_l07Ok.l0 k l0 0)
theorem spec_l07Ok.mono_l : ∀ k, (∀ y0 y1, LeO (spec_l07Ok.l0 k y0 y1) (spec_l07Ok.l0 (k + 1) y0 y1)) ∧ (∀ y0 y1 y2, LeO (spec_l07Ok.j1 k y0 y1 y2) (spec_l07Ok.j1 (k + 1) y0 y1 y2)) ∧ (∀ y0 y1 y2 y3, LeO (spec_l07Ok.l1 k y0 y1 y2 y3) (spec_l07Ok.l1 (k + 1) y0 y1 y2 y3)) ∧ (∀ y0 y1, LeO (spec_l07Ok.l2 k y0 y1) (spec_l07Ok.l2 (k + 1) y0 y1))
 | 0 => ⟨fun _ _ r h => by simp [spec_l07Ok.l0] at h, fun _ _ _ r h => by simp [spec_l07Ok.j1] at h, fun _ _ _ _ r h => by simp [spec_l07Ok.l1] at h, fun _ _ r h => by simp [spec_l07Ok.l2] at h⟩
 | k + 1 => by
  obtain ⟨ih0, ih1, ih2, ih3⟩ := spec_l07Ok.mono_l k
  refine ⟨?_, ?_, ?_, ?_⟩
  ·
   intro y0 y1
   unfold spec_l07Ok.l0
   repeat' first
   | (with_reducible exact ih0 _ _)
   | (with_reducible exact ih1 _ _ _)
   | (with_reducible exact ih2 _ _ _ _)
   | (with_reducible exact ih3 _ _)
   | (with_reducible exact spec_l07Find.mono _ _ _)
   | (with_reducible exact spec_l07Line.mono _ _)
   | (with_reducible exact spec_l07Needs.mono _ _ _)
   | (with_reducible exact spec_l07Uses.mono _ _ _)
   | (with_reducible exact LeO.refl _)
   | (with_reducible exact LeO.none _)
   | (with_reducible refine LeO.ite ?_ ?_)
   | (with_reducible refine LeO.bind ?_ (fun _ => ?_))
   | exact ih0 _ _
   | exact ih1 _ _ _
   | exact ih2 _ _ _ _
   | exact ih3 _ _
   | exact LeO.none _
   | refine LeO.ite ?_ ?_
   | refine LeO.bind ?_ (fun _ => ?_)
  ·
   intro y0 y1 y2
   unfold spec_l07Ok.j1
   repeat' first
   | (with_reducible exact ih0 _ _)
   | (with_reducible exact ih1 _ _ _)
   | (with_reducible exact ih2 _ _ _ _)
   | (with_reducible exact ih3 _ _)
   | (with_reducible exact spec_l07Find.mono _ _ _)
   | (with_reducible exact spec_l07Line.mono _ _)
   | (with_reducible exact spec_l07Needs.mono _ _ _)
   | (with_reducible exact spec_l07Uses.mono _ _ _)
   | (with_reducible exact LeO.refl _)
   | (with_reducible exact LeO.none _)
   | (with_reducible refine LeO.ite ?_ ?_)
   | (with_reducible refine LeO.bind ?_ (fun _ => ?_))
   | exact ih0 _ _
   | exact ih1 _ _ _
   | exact ih2 _ _ _ _
   | exact ih3 _ _
   | exact LeO.none _
   | refine LeO.ite ?_ ?_
   | refine LeO.bind ?_ (fun _ => ?_)
  ·
   intro y0 y1 y2 y3
   unfold spec_l07Ok.l1
   repeat' first
   | (with_reducible exact ih0 _ _)
   | (with_reducible exact ih1 _ _ _)
   | (with_reducible exact ih2 _ _ _ _)
   | (with_reducible exact ih3 _ _)
   | (with_reducible exact spec_l07Find.mono _ _ _)
   | (with_reducible exact spec_l07Line.mono _ _)
   | (with_reducible exact spec_l07Needs.mono _ _ _)
   | (with_reducible exact spec_l07Uses.mono _ _ _)
   | (with_reducible exact LeO.refl _)
   | (with_reducible exact LeO.none _)
   | (with_reducible refine LeO.ite ?_ ?_)
   | (with_reducible refine LeO.bind ?_ (fun _ => ?_))
   | exact ih0 _ _
   | exact ih1 _ _ _
   | exact ih2 _ _ _ _
   | exact ih3 _ _
   | exact LeO.none _
   | refine LeO.ite ?_ ?_
   | refine LeO.bind ?_ (fun _ => ?_)
  ·
   intro y0 y1
   unfold spec_l07Ok.l2
   repeat' first
   | (with_reducible exact ih0 _ _)
   | (with_reducible exact ih1 _ _ _)
   | (with_reducible exact ih2 _ _ _ _)
   | (with_reducible exact ih3 _ _)
   | (with_reducible exact spec_l07Find.mono _ _ _)
   | (with_reducible exact spec_l07Line.mono _ _)
   | (with_reducible exact spec_l07Needs.mono _ _ _)
   | (with_reducible exact spec_l07Uses.mono _ _ _)
   | (with_reducible exact LeO.refl _)
   | (with_reducible exact LeO.none _)
   | (with_reducible refine LeO.ite ?_ ?_)
   | (with_reducible refine LeO.bind ?_ (fun _ => ?_))
   | exact ih0 _ _
   | exact ih1 _ _ _
   | exact ih2 _ _ _ _
   | exact ih3 _ _
   | exact LeO.none _
   | refine LeO.ite ?_ ?_
   | refine LeO.bind ?_ (fun _ => ?_)
theorem spec_l07Ok.mono : ∀ a0 k, LeO (spec_l07Ok.f k a0) (spec_l07Ok.f (k + 1) a0) := by
 intro a0 k
 obtain ⟨ih0, ih1, ih2, ih3⟩ := spec_l07Ok.mono_l k
 unfold spec_l07Ok.f
 repeat' first
   | (with_reducible exact ih0 _ _)
   | (with_reducible exact ih1 _ _ _)
   | (with_reducible exact ih2 _ _ _ _)
   | (with_reducible exact ih3 _ _)
   | (with_reducible exact spec_l07Find.mono _ _ _)
   | (with_reducible exact spec_l07Line.mono _ _)
   | (with_reducible exact spec_l07Needs.mono _ _ _)
   | (with_reducible exact spec_l07Uses.mono _ _ _)
   | (with_reducible exact LeO.refl _)
   | (with_reducible exact LeO.none _)
   | (with_reducible refine LeO.ite ?_ ?_)
   | (with_reducible refine LeO.bind ?_ (fun _ => ?_))
   | exact ih0 _ _
   | exact ih1 _ _ _
   | exact ih2 _ _ _ _
   | exact ih3 _ _
   | exact LeO.none _
   | refine LeO.ite ?_ ?_
   | refine LeO.bind ?_ (fun _ => ?_)
set_option maxHeartbeats 8000000 in
set_option maxRecDepth 100000 in
theorem spec_l07Ok.calls (k : Nat) (A0 : Option Addr) (c0 : Nat) (l0 : List (S45)) (r : Bool) (w : World) (hr0 : Kd.C k45 w A0 l0.length l0) (hc0 : l0.length ≤ c0) (h : spec_l07Ok.f k l0 = some r) :
  Calls Try.prog 64 #[.slice A0 l0.length c0] w fun e w' => e = .returned (.bool r) ∧ Below w.heap.size w w' := by
 have HR0 := Aside0.mk hr0
 have HC0 := Aside0.mk hc0
 clear hr0 hc0
 have HB := Aside0.mk (Below.refl w.heap.size w)
 have H : (if (l0.length : Int) > 24 then (some false) else (spec_l07Ok.l0 k l0 0)) = some r := h
 clear h
 by_cases c2 : (l0.length : Int) > 24
 ·
  rw [if_pos c2] at H
  have c2b0 : decide (24 < (l0.length : Int)) = true := decide_eq_true c2
  have c2b1 : decide (24 < l0.length) = true := decide_eq_true (by omega)
  clear c2
  obtain rfl := Option.some.inj H
  go_enter Try.func64, Try.ntmps64
  go_wp2
  go_ret
  exact ⟨by first | rfl | (simp [errW_none, errW_some] <;> rfl) | (simp [*, errW_none, errW_some] <;> rfl), by repeat (first | (with_reducible first | exact HB.out | apply below_alloc | apply pw_below_drewN | apply below_drew1) | exact HB.out)⟩
 ·
  rw [if_neg c2] at H
  have c2b0 : decide (24 < (l0.length : Int)) = false := decide_eq_false c2
  have c2b1 : decide (24 < l0.length) = false := decide_eq_false (by omega)
  clear c2
  have H' := Aside0.mk H
  clear H
  go_enter Try.func64, Try.ntmps64
  go_wp2
  go_loopg [3] k (fun kq v3 w' => ∃ (x3_1 : Int), v3 = .int .i64 x3_1 ∧ Aside0 (spec_l07Ok.l0 kq l0 x3_1 = some r) ∧ Aside0 (kq ≤ k) ∧ Aside0 (Below w.heap.size w w'))
  case atStart => exact ⟨(0), (by first | rfl | (simp; done) | (simp [*]; done) | (simp [isE_]; done)), H', ⟨Nat.le_refl _⟩, ⟨by repeat (first | (with_reducible first | exact HB.out | apply below_alloc | apply pw_below_drewN | apply below_drew1) | exact HB.out)⟩⟩
  case round =>
   clear H'
   try clear c2
   try clear c2b0
   try clear c2b1
   try clear p2
   obtain ⟨x3_1, rfl, HA, HK1, HB⟩ := hrel
   cases gk with
   | zero => exact absurd HA.out (by simp [spec_l07Ok.l0])
   | succ k1 =>
    have H := HA.out
    clear HA
    simp only [spec_l07Ok.l0] at H
    by_cases c3 : x3_1 < (l0.length : Int)
    ·
     rw [if_pos c3] at H
     have c3b0 : decide (x3_1 < (l0.length : Int)) = true := decide_eq_true c3
     clear c3
     have HC4 := Aside0.mk H
     clear H
     go_upto_region 6 with (fail)
     go_cut [33] (fun v33 wc => ∃ (kq : Nat) (x33_3 : Bool), v33 = .bool x33_3 ∧ Aside0 (spec_l07Ok.j1 kq l0 x3_1 x33_3 = some r) ∧ Aside0 (kq ≤ k1) ∧ Aside0 (Below w.heap.size w wc))
     case first =>
      have H := HC4.out
      clear HC4
      by_cases c5 : 0 ≤ x3_1
      ·
       rw [if_pos c5] at H
       have c5b0 : decide (0 ≤ x3_1) = true := decide_eq_true c5
       clear c5
       (first | rw [c5b0] | (simp only [i64_w, i32_w]; rw [c5b0]) | skip)
       replace H := Option.bind_eq_some_iff.mp H
       obtain ⟨t185, A60, H⟩ := H
       replace H : (if t185 = true then ((spec_l07Find.f k1 l0 ((rd_T45 l0 x3_1).f0)).bind fun t187 => (spec_l07Ok.j1 k1 l0 x3_1 (t187 != x3_1))) else (spec_l07Ok.j1 k1 l0 x3_1 true)) = some r := H
       have A6 := Aside0.mk A60
       clear A60
       by_cases c7 : t185 = true
       ·
        subst c7
        have H1 : ((spec_l07Find.f k1 l0 ((rd_T45 l0 x3_1).f0)).bind fun t187 => (spec_l07Ok.j1 k1 l0 x3_1 (t187 != x3_1))) = some r := by first | (rw [if_pos rfl] at H; exact H) | rfl
        clear H
        have H := H1
        clear H1
        replace H := Option.bind_eq_some_iff.mp H
        obtain ⟨t187, A80, H⟩ := H
        replace H : (spec_l07Ok.j1 k1 l0 x3_1 (t187 != x3_1)) = some r := H
        have A8 := Aside0.mk A80
        clear A80
        have H' := Aside0.mk H
        clear H
        have p183 : 0 ≤ (x3_1 : Int) := of_decide_eq_true (by assumption)
        have q183 : x3_1 < (l0.length : Int) := of_decide_eq_true (by assumption)
        obtain ⟨ad183, e183, hx183_0, hx183_1, hx183_2, hx183_3, hx183_4, hx183_5⟩ := at_T45 HR0.out x3_1 p183 q183
        cases e183
        replace hx183_0 := (HB.out.cell (World.block_lt_of_cell? w _ hx183_0)).trans hx183_0
        replace hx183_1 := (HB.out.cell (World.block_lt_of_cell? w _ hx183_1)).trans hx183_1
        replace hx183_2 := (HB.out.cell (World.block_lt_of_cell? w _ hx183_2)).trans hx183_2
        replace hx183_3 := (HB.out.cell (World.block_lt_of_cell? w _ hx183_3)).trans hx183_3
        replace hx183_4 := (HB.out.cell (World.block_lt_of_cell? w _ hx183_4)).trans hx183_4
        replace hx183_5 := (HB.out.cell (World.block_lt_of_cell? w _ hx183_5)).trans hx183_5
        replace p183 := eq_true p183
        replace q183 := eq_true q183
        go_wp2_with (first | ((with_reducible refine gate_callee (f := 103) rfl ?_); refine goesL_ (some 21) rfl rfl Try.func103 (by kernel_rfl) rfl #[.pointer (some (Addr.add ad183 (x3_1.toNat * 6)))] rfl (by (try simp only [List.map_toArray, List.map_cons, List.map_nil]); first | done | rfl | (simp only [List.length_drop, List.length_take]; rfl)) ?_; (with_reducible refine (spec_l07Line.calls k1 _ ([rd_T45 l0 x3_1]).length [rd_T45 l0 x3_1] true _ ?side1 ?side2 A6.out).mono ?_); (case side1 => refine Kd.C_el k45 z45 ?_ (x3_1 : Int) (of_eq_true p183) (of_eq_true q183); repeat (first | exact (Kd.C_below HR0.out HB.out) | (with_reducible refine Kd.C_alloc ?_ _) | (with_reducible refine Kd.C_drewN ?_ _) | (with_reducible refine Kd.C_drew ?_))); (case side2 => exact Nat.le_refl _); rintro e w' ⟨rfl, ⟨nd, rfl⟩⟩; refine ⟨_, rfl, ?_⟩; have p186 : 0 ≤ (x3_1 : Int) := of_decide_eq_true (by assumption); have q186 : x3_1 < (l0.length : Int) := of_decide_eq_true (by assumption); obtain ⟨ad186, e186, hx186_0, hx186_1, hx186_2, hx186_3, hx186_4, hx186_5⟩ := at_T45 HR0.out x3_1 p186 q186; obtain rfl : ad183 = ad186 := (by injection e186); replace hx186_0 := (HB.out.cell (World.block_lt_of_cell? w _ hx186_0)).trans hx186_0; replace hx186_1 := (HB.out.cell (World.block_lt_of_cell? w _ hx186_1)).trans hx186_1; replace hx186_2 := (HB.out.cell (World.block_lt_of_cell? w _ hx186_2)).trans hx186_2; replace hx186_3 := (HB.out.cell (World.block_lt_of_cell? w _ hx186_3)).trans hx186_3; replace hx186_4 := (HB.out.cell (World.block_lt_of_cell? w _ hx186_4)).trans hx186_4; replace hx186_5 := (HB.out.cell (World.block_lt_of_cell? w _ hx186_5)).trans hx186_5; replace p186 := eq_true p186; replace q186 := eq_true q186) | (go_at_call 89; (with_reducible refine (spec_l07Find.calls k1 _ _ l0 ((rd_T45 l0 x3_1).f0) t187 _ ?side1 ?side2 A8.out).mono ?_); (case side1 => repeat (first | exact (Kd.C_below HR0.out (by repeat (first | (with_reducible first | exact HB.out | apply below_alloc | apply pw_below_drewN | apply below_drew1) | exact HB.out))) | (with_reducible refine Kd.C_alloc ?_ _) | (with_reducible refine Kd.C_drewN ?_ _) | (with_reducible refine Kd.C_drew ?_))); (case side2 => exact HC0.out); rintro e w' ⟨rfl, ⟨nd, rfl⟩⟩))
        go_meet
        case rel => exact ⟨_, ((t187 != x3_1)), (by first | rfl | (simp; done) | (simp [*]; done) | (simp [isE_]; done)), H', ⟨by have := HK1.out; first | omega | exact Nat.le_refl _⟩, ⟨by repeat (first | (with_reducible first | exact HB.out | apply below_alloc | apply pw_below_drewN | apply below_drew1) | exact HB.out)⟩⟩
       ·
        replace c7 := Bool.eq_false_iff.mpr c7
        subst c7
        have H1 : (spec_l07Ok.j1 k1 l0 x3_1 true) = some r := by first | (rw [if_neg (show ¬ (false = true) by decide)] at H; exact H) | rfl
        clear H
        have H := H1
        clear H1
        have H' := Aside0.mk H
        clear H
        have p183 : 0 ≤ (x3_1 : Int) := of_decide_eq_true (by assumption)
        have q183 : x3_1 < (l0.length : Int) := of_decide_eq_true (by assumption)
        obtain ⟨ad183, e183, hx183_0, hx183_1, hx183_2, hx183_3, hx183_4, hx183_5⟩ := at_T45 HR0.out x3_1 p183 q183
        cases e183
        replace hx183_0 := (HB.out.cell (World.block_lt_of_cell? w _ hx183_0)).trans hx183_0
        replace hx183_1 := (HB.out.cell (World.block_lt_of_cell? w _ hx183_1)).trans hx183_1
        replace hx183_2 := (HB.out.cell (World.block_lt_of_cell? w _ hx183_2)).trans hx183_2
        replace hx183_3 := (HB.out.cell (World.block_lt_of_cell? w _ hx183_3)).trans hx183_3
        replace hx183_4 := (HB.out.cell (World.block_lt_of_cell? w _ hx183_4)).trans hx183_4
        replace hx183_5 := (HB.out.cell (World.block_lt_of_cell? w _ hx183_5)).trans hx183_5
        replace p183 := eq_true p183
        replace q183 := eq_true q183
        go_wp2_with (first | ((with_reducible refine gate_callee (f := 103) rfl ?_); refine goesL_ (some 21) rfl rfl Try.func103 (by kernel_rfl) rfl #[.pointer (some (Addr.add ad183 (x3_1.toNat * 6)))] rfl (by (try simp only [List.map_toArray, List.map_cons, List.map_nil]); first | done | rfl | (simp only [List.length_drop, List.length_take]; rfl)) ?_; (with_reducible refine (spec_l07Line.calls k1 _ ([rd_T45 l0 x3_1]).length [rd_T45 l0 x3_1] false _ ?side1 ?side2 A6.out).mono ?_); (case side1 => refine Kd.C_el k45 z45 ?_ (x3_1 : Int) (of_eq_true p183) (of_eq_true q183); repeat (first | exact (Kd.C_below HR0.out HB.out) | (with_reducible refine Kd.C_alloc ?_ _) | (with_reducible refine Kd.C_drewN ?_ _) | (with_reducible refine Kd.C_drew ?_))); (case side2 => exact Nat.le_refl _); rintro e w' ⟨rfl, ⟨nd, rfl⟩⟩; refine ⟨_, rfl, ?_⟩))
        go_meet
        case rel => exact ⟨_, (true), (by first | rfl | (simp; done) | (simp [*]; done) | (simp [isE_]; done)), H', ⟨by have := HK1.out; first | omega | exact Nat.le_refl _⟩, ⟨by repeat (first | (with_reducible first | exact HB.out | apply below_alloc | apply pw_below_drewN | apply below_drew1) | exact HB.out)⟩⟩
      ·
       rw [if_neg c5] at H
       exact absurd H (by simp)
     case rest =>
      clear HC4
      try clear c1
      try clear p1
      try clear q1
      try clear hx1
      try clear c2
      try clear c2b0
      try clear c2b1
      try clear p2
      try clear c3
      try clear c3b0
      try clear c5
      try clear c5b0
      try clear c6
      try clear c7
      try clear hx183_0
      try clear hx183_1
      try clear hx183_2
      try clear hx183_3
      try clear hx183_4
      try clear hx183_5
      try clear hx186_0
      try clear hx186_1
      try clear hx186_2
      try clear hx186_3
      try clear hx186_4
      try clear hx186_5
      try clear p183
      try clear p186
      try clear p2
      try clear q183
      try clear q186
      obtain ⟨kq, x33_3, rfl, HA, HJ3, HB⟩ := hcut
      cases kq with
      | zero => exact absurd HA.out (by simp [spec_l07Ok.j1])
      | succ kj3 =>
       have H := HA.out
       clear HA
       simp only [spec_l07Ok.j1] at H
       by_cases c9 : x33_3 = true
       ·
        subst c9
        have H1 : (some false) = some r := by first | (rw [if_pos rfl] at H; exact H) | rfl
        clear H
        have H := H1
        clear H1
        obtain rfl := Option.some.inj H
        go_wp2
        go_ret
        exact ⟨by first | rfl | (simp [errW_none, errW_some] <;> rfl) | (simp [*, errW_none, errW_some] <;> rfl), by repeat (first | (with_reducible first | exact HB.out | apply below_alloc | apply pw_below_drewN | apply below_drew1) | exact HB.out)⟩
       ·
        replace c9 := Bool.eq_false_iff.mpr c9
        subst c9
        have H1 : ((spec_l07Uses.f kj3 l0 x3_1).bind fun t188 => (spec_l07Ok.l1 kj3 l0 x3_1 t188 0)) = some r := by first | (rw [if_neg (show ¬ (false = true) by decide)] at H; exact H) | rfl
        clear H
        have H := H1
        clear H1
        replace H := Option.bind_eq_some_iff.mp H
        obtain ⟨t188, A100, H⟩ := H
        replace H : (spec_l07Ok.l1 kj3 l0 x3_1 t188 0) = some r := H
        have A10 := Aside0.mk A100
        clear A100
        have H' := Aside0.mk H
        clear H
        go_wp2_with (first | ((with_reducible refine gate_callee (f := 104) rfl ?_); refine goesL_ (some 36) rfl rfl Try.func104 (by kernel_rfl) rfl #[.slice A0 l0.length c0, .int .i64 x3_1] rfl (by (try simp only [List.map_toArray, List.map_cons, List.map_nil]); first | done | rfl | (simp only [List.length_drop, List.length_take]; rfl)) ?_; (with_reducible refine (spec_l07Uses.calls kj3 _ _ l0 x3_1 t188 _ ?side1 ?side2 A10.out).mono ?_); (case side1 => repeat (first | exact (Kd.C_below HR0.out HB.out) | (with_reducible refine Kd.C_alloc ?_ _) | (with_reducible refine Kd.C_drewN ?_ _) | (with_reducible refine Kd.C_drew ?_))); (case side2 => exact HC0.out); rintro e w11 ⟨v189, rfl, ho0, hb⟩; refine ⟨_, rfl, ?_⟩; have n0_ := Aside0.mk (Kd.R_lower ho0 (below_size (by repeat (first | (with_reducible first | exact HB.out | apply below_alloc | apply pw_below_drewN | apply below_drew1) | exact HB.out)))); have n1_ := Aside0.mk (below_step (by repeat (first | (with_reducible first | exact HB.out | apply below_alloc | apply pw_below_drewN | apply below_drew1) | exact HB.out)) hb); clear HB; have HO190 := n0_; have HB := n1_; clear n0_ n1_; (try clear hb); (try clear hb2); (try clear hk); (try clear hi); (try clear ho0)))
        go_loopg [5] kj3 (fun kq v5 w' => ∃ (x5_3 : Int), v5 = .int .i64 x5_3 ∧ Aside0 (spec_l07Ok.l1 kq l0 x3_1 t188 x5_3 = some r) ∧ Aside0 (kq ≤ kj3) ∧ Aside0 (Kd.R (Kd.int .i64) 2 w' w.heap.size (fun _ => True) v189 t188) ∧ Aside0 (Below w.heap.size w w'))
        case atStart => exact ⟨(0), (by first | rfl | (simp; done) | (simp [*]; done) | (simp [isE_]; done)), H', ⟨Nat.le_refl _⟩, ⟨by (with_reducible repeat (first | apply Kd.R_alloc | apply Kd.R_drewN | apply Kd.R_drew)); exact HO190.out⟩, ⟨by repeat (first | (with_reducible first | exact HB.out | apply below_alloc | apply pw_below_drewN | apply below_drew1) | exact HB.out)⟩⟩
        case round =>
         clear H'
         try clear c1
         try clear p1
         try clear q1
         try clear hx1
         try clear c2
         try clear c2b0
         try clear c2b1
         try clear p2
         try clear c3
         try clear c3b0
         try clear c5
         try clear c5b0
         try clear c6
         try clear c7
         try clear c9
         try clear c10
         try clear hx183_0
         try clear hx183_1
         try clear hx183_2
         try clear hx183_3
         try clear hx183_4
         try clear hx183_5
         try clear hx186_0
         try clear hx186_1
         try clear hx186_2
         try clear hx186_3
         try clear hx186_4
         try clear hx186_5
         try clear p1
         try clear p183
         try clear p186
         try clear p2
         try clear q1
         try clear q183
         try clear q186
         obtain ⟨x5_3, rfl, HA, HK3, HO_4, HB⟩ := hrel
         cases gk with
         | zero => exact absurd HA.out (by simp [spec_l07Ok.l1])
         | succ k3 =>
          have H := HA.out
          clear HA
          simp only [spec_l07Ok.l1] at H
          by_cases c12 : x5_3 < (t188.length : Int)
          ·
           rw [if_pos c12] at H
           have c12b0 : decide (x5_3 < (t188.length : Int)) = true := decide_eq_true c12
           clear c12
           by_cases c13 : 0 ≤ x5_3
           ·
            rw [if_pos c13] at H
            have c13b0 : decide (0 ≤ x5_3) = true := decide_eq_true c13
            clear c13
            by_cases c14 : (rd t188 x5_3) < 0
            ·
             rw [if_pos c14] at H
             have c14b0 : decide ((rd t188 x5_3) < 0) = true := decide_eq_true c14
             clear c14
             obtain rfl := Option.some.inj H
             obtain ⟨Ao15, co15, eo15⟩ := Kd.R_slice HO_4.out
             subst eo15
             have p191 : 0 ≤ (x5_3 : Int) := of_decide_eq_true (by assumption)
             have q191 : x5_3 < (t188.length : Int) := of_decide_eq_true (by assumption)
             obtain ⟨ad191, e191, hx191_0⟩ := Kd.at_int (Kd.R_reads' HO_4.out).2.2 x5_3 p191 q191
             cases e191
             replace p191 := eq_true p191
             replace q191 := eq_true q191
             go_wp2
             go_ret
             exact ⟨by first | rfl | (simp [errW_none, errW_some] <;> rfl) | (simp [*, errW_none, errW_some] <;> rfl), by repeat (first | (with_reducible first | exact HB.out | apply below_alloc | apply pw_below_drewN | apply below_drew1) | exact HB.out)⟩
            ·
             rw [if_neg c14] at H
             have c14b0 : decide ((rd t188 x5_3) < 0) = false := decide_eq_false c14
             clear c14
             have H' := Aside0.mk H
             clear H
             obtain ⟨Ao16, co16, eo16⟩ := Kd.R_slice HO_4.out
             subst eo16
             have p191 : 0 ≤ (x5_3 : Int) := of_decide_eq_true (by assumption)
             have q191 : x5_3 < (t188.length : Int) := of_decide_eq_true (by assumption)
             obtain ⟨ad191, e191, hx191_0⟩ := Kd.at_int (Kd.R_reads' HO_4.out).2.2 x5_3 p191 q191
             cases e191
             replace p191 := eq_true p191
             replace q191 := eq_true q191
             go_wp2
             go_roundg k3
             case measure => have := HK1.out; have := HJ3.out; have := HK3.out; omega
             case rel => exact ⟨(wrap64 (x5_3 + 1)), (by first | rfl | (simp; done) | (simp [*]; done) | (simp [isE_]; done)), H', ⟨by have := HK1.out; have := HJ3.out; have := HK3.out; omega⟩, ⟨by (with_reducible repeat (first | apply Kd.R_alloc | apply Kd.R_drewN | apply Kd.R_drew)); exact HO_4.out⟩, ⟨by repeat (first | (with_reducible first | exact HB.out | apply below_alloc | apply pw_below_drewN | apply below_drew1) | exact HB.out)⟩⟩
           ·
            rw [if_neg c13] at H
            exact absurd H (by simp)
          ·
           rw [if_neg c12] at H
           have c12b0 : decide (x5_3 < (t188.length : Int)) = false := decide_eq_false c12
           clear c12
           have H' := Aside0.mk H
           clear H
           obtain ⟨Ao17, co17, eo17⟩ := Kd.R_slice HO_4.out
           subst eo17
           go_wp2
           go_roundg k3
           case measure => have := HK1.out; have := HJ3.out; have := HK3.out; omega
           case rel => exact ⟨(wrap64 (x3_1 + 1)), (by first | rfl | (simp; done) | (simp [*]; done) | (simp [isE_]; done)), H', ⟨by have := HK1.out; have := HJ3.out; have := HK3.out; omega⟩, ⟨by repeat (first | (with_reducible first | exact HB.out | apply below_alloc | apply pw_below_drewN | apply below_drew1) | exact HB.out)⟩⟩
    ·
     rw [if_neg c3] at H
     have c3b0 : decide (x3_1 < (l0.length : Int)) = false := decide_eq_false c3
     clear c3
     have H' := Aside0.mk H
     clear H
     go_wp2
     go_loopg [6] k1 (fun kq v6 w' => ∃ (x6_2 : Int), v6 = .int .i64 x6_2 ∧ Aside0 (spec_l07Ok.l2 kq l0 x6_2 = some r) ∧ Aside0 (kq ≤ k1) ∧ Aside0 (Below w.heap.size w w'))
     case atStart => exact ⟨(0), (by first | rfl | (simp; done) | (simp [*]; done) | (simp [isE_]; done)), H', ⟨Nat.le_refl _⟩, ⟨by repeat (first | (with_reducible first | exact HB.out | apply below_alloc | apply pw_below_drewN | apply below_drew1) | exact HB.out)⟩⟩
     case round =>
      clear H'
      try clear c1
      try clear p1
      try clear q1
      try clear hx1
      try clear c2
      try clear c2b0
      try clear c2b1
      try clear p2
      try clear c3
      try clear c3b0
      try clear c5
      try clear c5b0
      try clear c6
      try clear p6
      try clear c7
      try clear c9
      try clear c10
      try clear c12
      try clear c12b0
      try clear c13
      try clear c13b0
      try clear c14
      try clear c14b0
      try clear hx183_0
      try clear hx183_1
      try clear hx183_2
      try clear hx183_3
      try clear hx183_4
      try clear hx183_5
      try clear hx186_0
      try clear hx186_1
      try clear hx186_2
      try clear hx186_3
      try clear hx186_4
      try clear hx186_5
      try clear hx191_0
      try clear p1
      try clear p183
      try clear p186
      try clear p191
      try clear p2
      try clear q1
      try clear q183
      try clear q186
      try clear q191
      obtain ⟨x6_2, rfl, HA, HK2, HB⟩ := hrel
      cases gk with
      | zero => exact absurd HA.out (by simp [spec_l07Ok.l2])
      | succ k2 =>
       have H := HA.out
       clear HA
       simp only [spec_l07Ok.l2] at H
       by_cases c18 : x6_2 < (l0.length : Int)
       ·
        rw [if_pos c18] at H
        have c18b0 : decide (x6_2 < (l0.length : Int)) = true := decide_eq_true c18
        clear c18
        replace H := Option.bind_eq_some_iff.mp H
        obtain ⟨⟨t192, t193⟩, A190, H⟩ := H
        replace H : (if t193 = true then (spec_l07Ok.l2 k2 l0 (wrap64 (x6_2 + 1))) else (some false)) = some r := H
        have A19 := Aside0.mk A190
        clear A190
        by_cases c20 : t193 = true
        ·
         subst c20
         have H1 : (spec_l07Ok.l2 k2 l0 (wrap64 (x6_2 + 1))) = some r := by first | (rw [if_pos rfl] at H; exact H) | rfl
         clear H
         have H := H1
         clear H1
         have H' := Aside0.mk H
         clear H
         go_wp2_with (first | ((with_reducible refine gate_callee (f := 81) rfl ?_); refine goesL_ (some 57) rfl rfl Try.func81 (by kernel_rfl) rfl #[.slice A0 l0.length c0, .int .i64 x6_2] rfl (by (try simp only [List.map_toArray, List.map_cons, List.map_nil]); first | done | rfl | (simp only [List.length_drop, List.length_take]; rfl)) ?_; (with_reducible refine (spec_l07Needs.calls k2 _ _ l0 x6_2 t192 true _ ?side1 ?side2 A19.out).mono ?_); (case side1 => repeat (first | exact (Kd.C_below HR0.out HB.out) | (with_reducible refine Kd.C_alloc ?_ _) | (with_reducible refine Kd.C_drewN ?_ _) | (with_reducible refine Kd.C_drew ?_))); (case side2 => exact HC0.out); rintro e w21 ⟨v194, rfl, ho0, hb⟩; refine ⟨_, rfl, ?_⟩; have n0_ := Aside0.mk (Kd.R_lower ho0 (below_size (by repeat (first | (with_reducible first | exact HB.out | apply below_alloc | apply pw_below_drewN | apply below_drew1) | exact HB.out)))); have n1_ := Aside0.mk (below_step (by repeat (first | (with_reducible first | exact HB.out | apply below_alloc | apply pw_below_drewN | apply below_drew1) | exact HB.out)) hb); clear HB; have HO195 := n0_; have HB := n1_; clear n0_ n1_; (try clear hb); (try clear hb2); (try clear hk); (try clear hi); (try clear ho0)))
         go_roundg k2
         case measure => have := HK1.out; have := HK2.out; omega
         case rel => exact ⟨(wrap64 (x6_2 + 1)), (by first | rfl | (simp; done) | (simp [*]; done) | (simp [isE_]; done)), H', ⟨by have := HK1.out; have := HK2.out; omega⟩, ⟨by repeat (first | (with_reducible first | exact HB.out | apply below_alloc | apply pw_below_drewN | apply below_drew1) | exact HB.out)⟩⟩
        ·
         replace c20 := Bool.eq_false_iff.mpr c20
         subst c20
         have H1 : (some false) = some r := by first | (rw [if_neg (show ¬ (false = true) by decide)] at H; exact H) | rfl
         clear H
         have H := H1
         clear H1
         obtain rfl := Option.some.inj H
         go_wp2_with (first | ((with_reducible refine gate_callee (f := 81) rfl ?_); refine goesL_ (some 57) rfl rfl Try.func81 (by kernel_rfl) rfl #[.slice A0 l0.length c0, .int .i64 x6_2] rfl (by (try simp only [List.map_toArray, List.map_cons, List.map_nil]); first | done | rfl | (simp only [List.length_drop, List.length_take]; rfl)) ?_; (with_reducible refine (spec_l07Needs.calls k2 _ _ l0 x6_2 t192 false _ ?side1 ?side2 A19.out).mono ?_); (case side1 => repeat (first | exact (Kd.C_below HR0.out HB.out) | (with_reducible refine Kd.C_alloc ?_ _) | (with_reducible refine Kd.C_drewN ?_ _) | (with_reducible refine Kd.C_drew ?_))); (case side2 => exact HC0.out); rintro e w22 ⟨v194, rfl, ho0, hb⟩; refine ⟨_, rfl, ?_⟩; have n0_ := Aside0.mk (Kd.R_lower ho0 (below_size (by repeat (first | (with_reducible first | exact HB.out | apply below_alloc | apply pw_below_drewN | apply below_drew1) | exact HB.out)))); have n1_ := Aside0.mk (below_step (by repeat (first | (with_reducible first | exact HB.out | apply below_alloc | apply pw_below_drewN | apply below_drew1) | exact HB.out)) hb); clear HB; have HO195 := n0_; have HB := n1_; clear n0_ n1_; (try clear hb); (try clear hb2); (try clear hk); (try clear hi); (try clear ho0)))
         go_ret
         exact ⟨by first | rfl | (simp [errW_none, errW_some] <;> rfl) | (simp [*, errW_none, errW_some] <;> rfl), by repeat (first | (with_reducible first | exact HB.out | apply below_alloc | apply pw_below_drewN | apply below_drew1) | exact HB.out)⟩
       ·
        rw [if_neg c18] at H
        have c18b0 : decide (x6_2 < (l0.length : Int)) = false := decide_eq_false c18
        clear c18
        obtain rfl := Option.some.inj H
        go_wp2
        go_ret
        exact ⟨by first | rfl | (simp [errW_none, errW_some] <;> rfl) | (simp [*, errW_none, errW_some] <;> rfl), by repeat (first | (with_reducible first | exact HB.out | apply below_alloc | apply pw_below_drewN | apply below_drew1) | exact HB.out)⟩
/-! ### spec_l07Write: function 77 -/
def spec_l07Write.f (k : Nat) (l0 : List (S45)) (a1_0 : ByteArray) (a1_1 : Int) (a1_2 : ByteArray) (a1_3 : ByteArray) (a1_4 : Int) (a1_5 : Int) : Option ((List (S45)) × Int) := (some (([] : List (S45)) : List (S45))).bind fun y197 => (if y197.length + l0.length < 1954687338268 then ((some (y197 ++ l0 : List (S45))).bind fun y200 => ((spec_l07Find.f k l0 a1_0).bind fun t203 => (if t203 < 0 then (if (l0.length : Int) ≥ 24 then (some ((([] : List (S45))), 3)) else (if y200.length < 1954687338268 then ((some (y200 ++ [(⟨a1_0, a1_1, a1_2, a1_3, a1_4, a1_5⟩ : S45)] : List (S45))).bind fun y207 => ((spec_l07Ok.f k y207).bind fun t210 => (if t210 = true then (some (y207, 0)) else (some ((([] : List (S45))), 4))))) else (none))) else (if 0 ≤ t203 then (if t203 < (y200.length : Int) then ((some (y200.set (t203 : Int).toNat (⟨a1_0, a1_1, a1_2, a1_3, a1_4, a1_5⟩ : S45) : List (S45))).bind fun y214 => ((spec_l07Ok.f k y214).bind fun t215 => (if t215 = true then (some (y214, 0)) else (some ((([] : List (S45))), 4))))) else (none)) else (none))))) else (none))
theorem spec_l07Write.mono : ∀ a0 a1 a2 a3 a4 a5 a6 k, LeO (spec_l07Write.f k a0 a1 a2 a3 a4 a5 a6) (spec_l07Write.f (k + 1) a0 a1 a2 a3 a4 a5 a6) := by
 intro a0 a1 a2 a3 a4 a5 a6 k
 unfold spec_l07Write.f
 repeat' first
   | (with_reducible exact spec_l07Find.mono _ _ _)
   | (with_reducible exact spec_l07Ok.mono _ _)
   | (with_reducible exact LeO.refl _)
   | (with_reducible exact LeO.none _)
   | (with_reducible refine LeO.ite ?_ ?_)
   | (with_reducible refine LeO.bind ?_ (fun _ => ?_))
   | exact LeO.none _
   | refine LeO.ite ?_ ?_
   | refine LeO.bind ?_ (fun _ => ?_)
set_option maxHeartbeats 8000000 in
set_option maxRecDepth 100000 in
theorem spec_l07Write.calls (k : Nat) (A0 : Option Addr) (c0 : Nat) (l0 : List (S45)) (a1_0 : ByteArray) (a1_1 : Int) (a1_2 : ByteArray) (a1_3 : ByteArray) (a1_4 : Int) (a1_5 : Int) (r1 : List (S45)) (r2 : Int) (w : World) (hr0 : Kd.C k45 w A0 l0.length l0) (hc0 : l0.length ≤ c0) (h : spec_l07Write.f k l0 a1_0 a1_1 a1_2 a1_3 a1_4 a1_5 = some (r1, r2)) :
  Calls Try.prog 77 #[.slice A0 l0.length c0, .agg #[.string a1_0, .int .i8 a1_1, .string a1_2, .string a1_3, .int .i64 a1_4, .int .i64 a1_5]] w fun e w' => ∃ v0_ : Value, e = .returned (.tuple #[v0_, .int .i64 r2]) ∧ Kd.R k45 45 w' w.heap.size (fun _ => True) v0_ r1 ∧ Below w.heap.size w w' := by
 have hu45 := Try.underlying45
 have HR0 := Aside0.mk hr0
 have HC0 := Aside0.mk hc0
 clear hr0 hc0
 have HB := Aside0.mk (Below.refl w.heap.size w)
 have H : ((some (([] : List (S45)) : List (S45))).bind fun y197 => (if y197.length + l0.length < 1954687338268 then ((some (y197 ++ l0 : List (S45))).bind fun y200 => ((spec_l07Find.f k l0 a1_0).bind fun t203 => (if t203 < 0 then (if (l0.length : Int) ≥ 24 then (some ((([] : List (S45))), 3)) else (if y200.length < 1954687338268 then ((some (y200 ++ [(⟨a1_0, a1_1, a1_2, a1_3, a1_4, a1_5⟩ : S45)] : List (S45))).bind fun y207 => ((spec_l07Ok.f k y207).bind fun t210 => (if t210 = true then (some (y207, 0)) else (some ((([] : List (S45))), 4))))) else (none))) else (if 0 ≤ t203 then (if t203 < (y200.length : Int) then ((some (y200.set (t203 : Int).toNat (⟨a1_0, a1_1, a1_2, a1_3, a1_4, a1_5⟩ : S45) : List (S45))).bind fun y214 => ((spec_l07Ok.f k y214).bind fun t215 => (if t215 = true then (some (y214, 0)) else (some ((([] : List (S45))), 4))))) else (none)) else (none))))) else (none))) = some (r1, r2) := h
 clear h
 obtain ⟨y197, hy197⟩ : ∃ y_ : List (S45), y_ = (([] : List (S45))) := ⟨_, rfl⟩
 replace H : (if y197.length + l0.length < 1954687338268 then ((some (y197 ++ l0 : List (S45))).bind fun y200 => ((spec_l07Find.f k l0 a1_0).bind fun t203 => (if t203 < 0 then (if (l0.length : Int) ≥ 24 then (some ((([] : List (S45))), 3)) else (if y200.length < 1954687338268 then ((some (y200 ++ [(⟨a1_0, a1_1, a1_2, a1_3, a1_4, a1_5⟩ : S45)] : List (S45))).bind fun y207 => ((spec_l07Ok.f k y207).bind fun t210 => (if t210 = true then (some (y207, 0)) else (some ((([] : List (S45))), 4))))) else (none))) else (if 0 ≤ t203 then (if t203 < (y200.length : Int) then ((some (y200.set (t203 : Int).toNat (⟨a1_0, a1_1, a1_2, a1_3, a1_4, a1_5⟩ : S45) : List (S45))).bind fun y214 => ((spec_l07Ok.f k y214).bind fun t215 => (if t215 = true then (some (y214, 0)) else (some ((([] : List (S45))), 4))))) else (none)) else (none))))) else (none)) = some (r1, r2) := by first | (rw [hy197]; with_reducible exact H) | (have H2_ := (Option.bind_some _ _).symm.trans H; rw [hy197]; with_reducible exact H2_) | (have H2_ := (Option.bind_some _ _).symm.trans H; with_reducible exact H2_) | with_reducible exact H | (rw [hy197]; exact H) | exact H
 have Ny197 := Aside0.mk hy197
 clear hy197
 by_cases c3 : y197.length + l0.length < 1954687338268
 ·
  rw [if_pos c3] at H
  have LMc3 := Aside0.mk c3
  clear c3
  obtain ⟨y200, hy200⟩ : ∃ y_ : List (S45), y_ = (y197 ++ l0) := ⟨_, rfl⟩
  replace H : ((spec_l07Find.f k l0 a1_0).bind fun t203 => (if t203 < 0 then (if (l0.length : Int) ≥ 24 then (some ((([] : List (S45))), 3)) else (if y200.length < 1954687338268 then ((some (y200 ++ [(⟨a1_0, a1_1, a1_2, a1_3, a1_4, a1_5⟩ : S45)] : List (S45))).bind fun y207 => ((spec_l07Ok.f k y207).bind fun t210 => (if t210 = true then (some (y207, 0)) else (some ((([] : List (S45))), 4))))) else (none))) else (if 0 ≤ t203 then (if t203 < (y200.length : Int) then ((some (y200.set (t203 : Int).toNat (⟨a1_0, a1_1, a1_2, a1_3, a1_4, a1_5⟩ : S45) : List (S45))).bind fun y214 => ((spec_l07Ok.f k y214).bind fun t215 => (if t215 = true then (some (y214, 0)) else (some ((([] : List (S45))), 4))))) else (none)) else (none)))) = some (r1, r2) := by first | (rw [hy200]; with_reducible exact H) | (have H2_ := (Option.bind_some _ _).symm.trans H; rw [hy200]; with_reducible exact H2_) | (have H2_ := (Option.bind_some _ _).symm.trans H; with_reducible exact H2_) | with_reducible exact H | (rw [hy200]; exact H) | exact H
  have Ny200 := Aside0.mk hy200
  clear hy200
  replace H := Option.bind_eq_some_iff.mp H
  obtain ⟨t203, A40, H⟩ := H
  replace H : (if t203 < 0 then (if (l0.length : Int) ≥ 24 then (some ((([] : List (S45))), 3)) else (if y200.length < 1954687338268 then ((some (y200 ++ [(⟨a1_0, a1_1, a1_2, a1_3, a1_4, a1_5⟩ : S45)] : List (S45))).bind fun y207 => ((spec_l07Ok.f k y207).bind fun t210 => (if t210 = true then (some (y207, 0)) else (some ((([] : List (S45))), 4))))) else (none))) else (if 0 ≤ t203 then (if t203 < (y200.length : Int) then ((some (y200.set (t203 : Int).toNat (⟨a1_0, a1_1, a1_2, a1_3, a1_4, a1_5⟩ : S45) : List (S45))).bind fun y214 => ((spec_l07Ok.f k y214).bind fun t215 => (if t215 = true then (some (y214, 0)) else (some ((([] : List (S45))), 4))))) else (none)) else (none))) = some (r1, r2) := H
  have A4 := Aside0.mk A40
  clear A40
  by_cases c5 : t203 < 0
  ·
   rw [if_pos c5] at H
   have c5b0 : decide (t203 < 0) = true := decide_eq_true c5
   clear c5
   by_cases c6 : (l0.length : Int) ≥ 24
   ·
    rw [if_pos c6] at H
    have c6b0 : decide (24 ≤ (l0.length : Int)) = true := decide_eq_true c6
    have c6b1 : decide (24 ≤ l0.length) = true := decide_eq_true (by omega)
    clear c6
    obtain ⟨y204, hy204⟩ : ∃ y_ : List (S45), y_ = (([] : List (S45))) := ⟨_, rfl⟩
    replace H : (some (y204, 3)) = some (r1, r2) := by first | (rw [hy204]; with_reducible exact H) | (have H2_ := (Option.bind_some _ _).symm.trans H; rw [hy204]; with_reducible exact H2_) | (have H2_ := (Option.bind_some _ _).symm.trans H; with_reducible exact H2_) | with_reducible exact H | (rw [hy204]; exact H) | exact H
    have Ny204 := Aside0.mk hy204
    clear hy204
    simp only [Option.some.injEq, Prod.mk.injEq] at H
    obtain ⟨rfl, rfl⟩ := H
    go_enter Try.func77, Try.ntmps77
    go_wp2_with (first | ((with_reducible refine gate_dst (N := 3) rfl ?_); refine box_event ?hg (N := 3) ?hd (cs := #[.string a1_0, .int .i8 a1_1, .string a1_2, .string a1_3, .int .i64 a1_4, .int .i64 a1_5]) (t := 45) ?hr ?_; (case hd => rfl); (case hg => rfl); (case hr => first | (go_simp; done) | (go_simp; rfl)); intro gb196 hg w7 hbox hb; have n0_ := Aside0.mk (below_step (by repeat (first | (with_reducible first | exact HB.out | apply below_alloc | apply pw_below_drewN | apply below_drew1) | exact HB.out)) hb); have n1_ := Aside0.mk (hbox); have n2_ := Aside0.mk ((by rw [hg]; exact (below_size (by repeat (first | (with_reducible first | exact HB.out | apply below_alloc | apply pw_below_drewN | apply below_drew1) | exact HB.out))) : w.heap.size ≤ gb196)); have n3_ := Aside0.mk ((by rw [hg]; exact (below_size (by repeat (first | (with_reducible first | exact HB.out | apply below_alloc | apply pw_below_drewN | apply below_drew1) | exact HB.out))) : w.heap.size ≤ gb196)); clear HB; have HB := n0_; have BK196 := n1_; have GW196 := n2_; have GE196 := n3_; clear n0_ n1_ n2_ n3_; clear hb hbox hg) | ((with_reducible refine gate_dst (N := 8) rfl ?_); refine Kd.R_lit k45 _ 45 ?hg (N := 8) ?hd (xs := ([] : List (S45))) (inner := []) (ok := fun _ => True) (okp := fun _ => True) ?hr ?hp (fun _ hk => hk) trivial (Below.refl _ _) (Nat.le_refl _) (by simp) ?_; (case hd => rfl); (case hg => rfl); (case hr => first | (go_simp; done) | (go_simp; rfl)); (case hp => exact (Reps.none _ _)); intro v198 w8 ho9 hb hg_ hnew_; clear hg_ hnew_; (first | rw [← Ny197.out] at ho9 | (simp only [Int.reduceToNat] at ho9; rw [← Ny197.out] at ho9)); have n0_ := Aside0.mk (Kd.R_lower (Kd.R_newB ho9 (g := gb196) (o := .cells #[.string a1_0, .int .i8 a1_1, .string a1_2, .string a1_3, .int .i64 a1_4, .int .i64 a1_5] 45 (0, 0)) (by (with_reducible repeat (first | refine blk_drewN ?_ _ | refine blk_drew ?_ | refine blk_alloc ?_ _)); exact BK196.out)) (below_size (by repeat (first | (with_reducible first | exact HB.out | apply below_alloc | apply pw_below_drewN | apply below_drew1 | refine below_set ?_ GE196.out) | exact HB.out)))); have n1_ := Aside0.mk (blk_below (g := gb196) (o := .cells #[.string a1_0, .int .i8 a1_1, .string a1_2, .string a1_3, .int .i64 a1_4, .int .i64 a1_5] 45 (0, 0)) (by (with_reducible repeat (first | refine blk_drewN ?_ _ | refine blk_drew ?_ | refine blk_alloc ?_ _)); exact BK196.out) hb); have n2_ := Aside0.mk (below_step (by repeat (first | (with_reducible first | exact HB.out | apply below_alloc | apply pw_below_drewN | apply below_drew1 | refine below_set ?_ GE196.out) | exact HB.out)) hb); clear BK196; clear HB; have HO199 := n0_; have BK196 := n1_; have HB := n2_; clear n0_ n1_ n2_; clear hb ho9) | ((with_reducible refine gate_builtin (b := .append) (xs := #[.tmp 8, .tmp 9]) rfl ?_); at_builtin; refine Kd.R_append_rows k45 (w0 := w) w.heap.size rfl (.tmp 8) (.tmp 9) 25 45 (.agg #[(.string ⟨#[]⟩), (.int .i8 0), (.string ⟨#[]⟩), (.string ⟨#[]⟩), (.int .i64 0), (.int .i64 0)]) 72 rfl Try.underlying25 info45 rfl (by decide) (by omega) v198 y197 l0 _ _ _ (fun k_ => k_ ≠ gb196) (fun _ => False) rfl rfl ?aO ?aR (fun _ _ h => h) (fun _ h => h.elim) ?aF ?aB ?aS ?aL ?_; (case aR => repeat (first | exact (Kd.C_below HR0.out HB.out) | (with_reducible refine Kd.C_alloc ?_ _) | (with_reducible refine Kd.C_drewN ?_ _) | (with_reducible refine Kd.C_drew ?_))); (case aB => exact (by repeat (first | (with_reducible first | exact HB.out | apply below_alloc | apply pw_below_drewN | apply below_drew1 | refine below_set ?_ GE196.out) | exact HB.out))); (case aF => exact (fun k_ hk => Kd.freshB (g := gb196) (o := .cells #[.string a1_0, .int .i8 a1_1, .string a1_2, .string a1_3, .int .i64 a1_4, .int .i64 a1_5] 45 (0, 0)) (by (with_reducible repeat (first | refine blk_drewN ?_ _ | refine blk_drew ?_ | refine blk_alloc ?_ _)); exact BK196.out) k_ hk)); (case aO => exact (by (with_reducible repeat (first | apply Kd.R_alloc | apply Kd.R_drewN | apply Kd.R_drew)); exact Kd.R_mono HO199.out (fun _ hk => hk.2))); (case aS => exact (below_size (by repeat (first | (with_reducible first | exact HB.out | apply below_alloc | apply pw_below_drewN | apply below_drew1 | refine below_set ?_ GE196.out) | exact HB.out)))); (case aL => have := LMc3.out; omega); intro v201 w10 ho hb hg hat; rw [← Ny200.out] at ho; have n0_ := Aside0.mk (blk_grown (g := gb196) (o := .cells #[.string a1_0, .int .i8 a1_1, .string a1_2, .string a1_3, .int .i64 a1_4, .int .i64 a1_5] 45 (0, 0)) (by (with_reducible repeat (first | refine blk_drewN ?_ _ | refine blk_drew ?_ | refine blk_alloc ?_ _)); exact BK196.out) hg (Kd.R_away HO199.out (fun _ hk => hk.2))); have n1_ := Aside0.mk (hb); have n2_ := Aside0.mk (ho); clear BK196; clear HB; clear HO199; have BK196 := n0_; have HB := n1_; have HO202 := n2_; clear n0_ n1_ n2_; clear ho hb hg hat; have hcz11_0 : w10.cell? ⟨gb196, 0, none⟩ = some (.string a1_0) := (blk_cell BK196.out 0).trans rfl; have hcz11_1 : w10.cell? ⟨gb196, 1, none⟩ = some (.int .i8 a1_1) := (blk_cell BK196.out 1).trans rfl; have hcz11_2 : w10.cell? ⟨gb196, 2, none⟩ = some (.string a1_2) := (blk_cell BK196.out 2).trans rfl; have hcz11_3 : w10.cell? ⟨gb196, 3, none⟩ = some (.string a1_3) := (blk_cell BK196.out 3).trans rfl; have hcz11_4 : w10.cell? ⟨gb196, 4, none⟩ = some (.int .i64 a1_4) := (blk_cell BK196.out 4).trans rfl; have hcz11_5 : w10.cell? ⟨gb196, 5, none⟩ = some (.int .i64 a1_5) := (blk_cell BK196.out 5).trans rfl; have hfz11_0 := blk_frozen BK196.out 0; have hfz11_1 := blk_frozen BK196.out 1; have hfz11_2 := blk_frozen BK196.out 2; have hfz11_3 := blk_frozen BK196.out 3; have hfz11_4 := blk_frozen BK196.out 4; have hfz11_5 := blk_frozen BK196.out 5) | ((with_reducible refine gate_callee (f := 89) rfl ?_); refine goesL_ (some 14) rfl rfl Try.func89 (by kernel_rfl) rfl #[.slice A0 l0.length c0, .string a1_0] rfl (by (try simp only [List.map_toArray, List.map_cons, List.map_nil]); first | done | rfl | (simp only [List.length_drop, List.length_take]; rfl)) ?_; (with_reducible refine (spec_l07Find.calls k _ _ l0 a1_0 t203 _ ?side1 ?side2 A4.out).mono ?_); (case side1 => repeat (first | exact (Kd.C_below HR0.out HB.out) | (with_reducible refine Kd.C_alloc ?_ _) | (with_reducible refine Kd.C_drewN ?_ _) | (with_reducible refine Kd.C_drew ?_))); (case side2 => exact HC0.out); rintro e w' ⟨rfl, ⟨nd, rfl⟩⟩; refine ⟨_, rfl, ?_⟩) | ((with_reducible refine gate_dst (N := 20) rfl ?_); refine Kd.R_lit k45 _ 45 ?hg (N := 20) ?hd (xs := ([] : List (S45))) (inner := []) (ok := fun _ => True) (okp := fun _ => True) ?hr ?hp (fun _ hk => hk) trivial (Below.refl _ _) (Nat.le_refl _) (by simp) ?_; (case hd => rfl); (case hg => rfl); (case hr => first | (go_simp; done) | (go_simp; rfl)); (case hp => exact (Reps.none _ _)); intro v205 w12 ho13 hb hg_ hnew_; clear hg_ hnew_; (first | rw [← Ny204.out] at ho13 | (simp only [Int.reduceToNat] at ho13; rw [← Ny204.out] at ho13)); have n0_ := Aside0.mk (Kd.R_elder' (by (with_reducible repeat (first | apply Kd.R_alloc | apply Kd.R_drewN | apply Kd.R_drew)); exact HO202.out) (Kd.R_base ho13) hb); have n1_ := Aside0.mk (Kd.R_lower (Kd.R_newB (Kd.R_new' ho13 (Kd.R_lt (by (with_reducible repeat (first | apply Kd.R_alloc | apply Kd.R_drewN | apply Kd.R_drew)); exact HO202.out))) (g := gb196) (o := .cells #[.string a1_0, .int .i8 a1_1, .string a1_2, .string a1_3, .int .i64 a1_4, .int .i64 a1_5] 45 (0, 0)) (by (with_reducible repeat (first | refine blk_drewN ?_ _ | refine blk_drew ?_ | refine blk_alloc ?_ _)); exact BK196.out)) (below_size (by repeat (first | (with_reducible first | exact HB.out | apply below_alloc | apply pw_below_drewN | apply below_drew1 | refine below_set ?_ GE196.out) | exact HB.out)))); have n2_ := Aside0.mk (blk_below (g := gb196) (o := .cells #[.string a1_0, .int .i8 a1_1, .string a1_2, .string a1_3, .int .i64 a1_4, .int .i64 a1_5] 45 (0, 0)) (by (with_reducible repeat (first | refine blk_drewN ?_ _ | refine blk_drew ?_ | refine blk_alloc ?_ _)); exact BK196.out) hb); have n3_ := Aside0.mk (below_step (by repeat (first | (with_reducible first | exact HB.out | apply below_alloc | apply pw_below_drewN | apply below_drew1 | refine below_set ?_ GE196.out) | exact HB.out)) hb); clear HO202; clear BK196; clear HB; have HO202 := n0_; have HO206 := n1_; have BK196 := n2_; have HB := n3_; clear n0_ n1_ n2_ n3_; clear hb ho13))
    go_ret2
    exact ⟨_, by first | rfl | (simp [errW_none, errW_some] <;> rfl) | (simp [*, errW_none, errW_some] <;> rfl), by (with_reducible repeat (first | apply Kd.R_alloc | apply Kd.R_drewN | apply Kd.R_drew)); exact Kd.R_mono HO206.out (fun _ hk => trivial), by repeat (first | (with_reducible first | exact HB.out | apply below_alloc | apply pw_below_drewN | apply below_drew1 | refine below_set ?_ GE196.out) | exact HB.out)⟩
   ·
    rw [if_neg c6] at H
    have c6b0 : decide (24 ≤ (l0.length : Int)) = false := decide_eq_false c6
    have c6b1 : decide (24 ≤ l0.length) = false := decide_eq_false (by omega)
    clear c6
    by_cases c14 : y200.length < 1954687338268
    ·
     rw [if_pos c14] at H
     have LMc14 := Aside0.mk c14
     clear c14
     obtain ⟨y207, hy207⟩ : ∃ y_ : List (S45), y_ = (y200 ++ [(⟨a1_0, a1_1, a1_2, a1_3, a1_4, a1_5⟩ : S45)]) := ⟨_, rfl⟩
     replace H : ((spec_l07Ok.f k y207).bind fun t210 => (if t210 = true then (some (y207, 0)) else (some ((([] : List (S45))), 4)))) = some (r1, r2) := by first | (rw [hy207]; with_reducible exact H) | (have H2_ := (Option.bind_some _ _).symm.trans H; rw [hy207]; with_reducible exact H2_) | (have H2_ := (Option.bind_some _ _).symm.trans H; with_reducible exact H2_) | with_reducible exact H | (rw [hy207]; exact H) | exact H
     have Ny207 := Aside0.mk hy207
     clear hy207
     replace H := Option.bind_eq_some_iff.mp H
     obtain ⟨t210, A150, H⟩ := H
     replace H : (if t210 = true then (some (y207, 0)) else (some ((([] : List (S45))), 4))) = some (r1, r2) := H
     have A15 := Aside0.mk A150
     clear A150
     by_cases c16 : t210 = true
     ·
      subst c16
      have H1 : (some (y207, 0)) = some (r1, r2) := by first | (rw [if_pos rfl] at H; exact H) | rfl
      clear H
      have H := H1
      clear H1
      simp only [Option.some.injEq, Prod.mk.injEq] at H
      obtain ⟨rfl, rfl⟩ := H
      go_enter Try.func77, Try.ntmps77
      go_wp2_with (first | ((with_reducible refine gate_dst (N := 3) rfl ?_); refine box_event ?hg (N := 3) ?hd (cs := #[.string a1_0, .int .i8 a1_1, .string a1_2, .string a1_3, .int .i64 a1_4, .int .i64 a1_5]) (t := 45) ?hr ?_; (case hd => rfl); (case hg => rfl); (case hr => first | (go_simp; done) | (go_simp; rfl)); intro gb196 hg w17 hbox hb; have n0_ := Aside0.mk (below_step (by repeat (first | (with_reducible first | exact HB.out | apply below_alloc | apply pw_below_drewN | apply below_drew1) | exact HB.out)) hb); have n1_ := Aside0.mk (hbox); have n2_ := Aside0.mk ((by rw [hg]; exact (below_size (by repeat (first | (with_reducible first | exact HB.out | apply below_alloc | apply pw_below_drewN | apply below_drew1) | exact HB.out))) : w.heap.size ≤ gb196)); have n3_ := Aside0.mk ((by rw [hg]; exact (below_size (by repeat (first | (with_reducible first | exact HB.out | apply below_alloc | apply pw_below_drewN | apply below_drew1) | exact HB.out))) : w.heap.size ≤ gb196)); clear HB; have HB := n0_; have BK196 := n1_; have GW196 := n2_; have GE196 := n3_; clear n0_ n1_ n2_ n3_; clear hb hbox hg) | ((with_reducible refine gate_dst (N := 8) rfl ?_); refine Kd.R_lit k45 _ 45 ?hg (N := 8) ?hd (xs := ([] : List (S45))) (inner := []) (ok := fun _ => True) (okp := fun _ => True) ?hr ?hp (fun _ hk => hk) trivial (Below.refl _ _) (Nat.le_refl _) (by simp) ?_; (case hd => rfl); (case hg => rfl); (case hr => first | (go_simp; done) | (go_simp; rfl)); (case hp => exact (Reps.none _ _)); intro v198 w18 ho19 hb hg_ hnew_; clear hg_ hnew_; (first | rw [← Ny197.out] at ho19 | (simp only [Int.reduceToNat] at ho19; rw [← Ny197.out] at ho19)); have n0_ := Aside0.mk (Kd.R_lower (Kd.R_newB ho19 (g := gb196) (o := .cells #[.string a1_0, .int .i8 a1_1, .string a1_2, .string a1_3, .int .i64 a1_4, .int .i64 a1_5] 45 (0, 0)) (by (with_reducible repeat (first | refine blk_drewN ?_ _ | refine blk_drew ?_ | refine blk_alloc ?_ _)); exact BK196.out)) (below_size (by repeat (first | (with_reducible first | exact HB.out | apply below_alloc | apply pw_below_drewN | apply below_drew1 | refine below_set ?_ GE196.out) | exact HB.out)))); have n1_ := Aside0.mk (blk_below (g := gb196) (o := .cells #[.string a1_0, .int .i8 a1_1, .string a1_2, .string a1_3, .int .i64 a1_4, .int .i64 a1_5] 45 (0, 0)) (by (with_reducible repeat (first | refine blk_drewN ?_ _ | refine blk_drew ?_ | refine blk_alloc ?_ _)); exact BK196.out) hb); have n2_ := Aside0.mk (below_step (by repeat (first | (with_reducible first | exact HB.out | apply below_alloc | apply pw_below_drewN | apply below_drew1 | refine below_set ?_ GE196.out) | exact HB.out)) hb); clear BK196; clear HB; have HO199 := n0_; have BK196 := n1_; have HB := n2_; clear n0_ n1_ n2_; clear hb ho19) | ((with_reducible refine gate_builtin (b := .append) (xs := #[.tmp 8, .tmp 9]) rfl ?_); at_builtin; refine Kd.R_append_rows k45 (w0 := w) w.heap.size rfl (.tmp 8) (.tmp 9) 25 45 (.agg #[(.string ⟨#[]⟩), (.int .i8 0), (.string ⟨#[]⟩), (.string ⟨#[]⟩), (.int .i64 0), (.int .i64 0)]) 72 rfl Try.underlying25 info45 rfl (by decide) (by omega) v198 y197 l0 _ _ _ (fun k_ => k_ ≠ gb196) (fun _ => False) rfl rfl ?aO ?aR (fun _ _ h => h) (fun _ h => h.elim) ?aF ?aB ?aS ?aL ?_; (case aR => repeat (first | exact (Kd.C_below HR0.out HB.out) | (with_reducible refine Kd.C_alloc ?_ _) | (with_reducible refine Kd.C_drewN ?_ _) | (with_reducible refine Kd.C_drew ?_))); (case aB => exact (by repeat (first | (with_reducible first | exact HB.out | apply below_alloc | apply pw_below_drewN | apply below_drew1 | refine below_set ?_ GE196.out) | exact HB.out))); (case aF => exact (fun k_ hk => Kd.freshB (g := gb196) (o := .cells #[.string a1_0, .int .i8 a1_1, .string a1_2, .string a1_3, .int .i64 a1_4, .int .i64 a1_5] 45 (0, 0)) (by (with_reducible repeat (first | refine blk_drewN ?_ _ | refine blk_drew ?_ | refine blk_alloc ?_ _)); exact BK196.out) k_ hk)); (case aO => exact (by (with_reducible repeat (first | apply Kd.R_alloc | apply Kd.R_drewN | apply Kd.R_drew)); exact Kd.R_mono HO199.out (fun _ hk => hk.2))); (case aS => exact (below_size (by repeat (first | (with_reducible first | exact HB.out | apply below_alloc | apply pw_below_drewN | apply below_drew1 | refine below_set ?_ GE196.out) | exact HB.out)))); (case aL => have := LMc3.out; omega); intro v201 w20 ho hb hg hat; rw [← Ny200.out] at ho; have n0_ := Aside0.mk (blk_grown (g := gb196) (o := .cells #[.string a1_0, .int .i8 a1_1, .string a1_2, .string a1_3, .int .i64 a1_4, .int .i64 a1_5] 45 (0, 0)) (by (with_reducible repeat (first | refine blk_drewN ?_ _ | refine blk_drew ?_ | refine blk_alloc ?_ _)); exact BK196.out) hg (Kd.R_away HO199.out (fun _ hk => hk.2))); have n1_ := Aside0.mk (hb); have n2_ := Aside0.mk (ho); clear BK196; clear HB; clear HO199; have BK196 := n0_; have HB := n1_; have HO202 := n2_; clear n0_ n1_ n2_; clear ho hb hg hat; have hcz21_0 : w20.cell? ⟨gb196, 0, none⟩ = some (.string a1_0) := (blk_cell BK196.out 0).trans rfl; have hcz21_1 : w20.cell? ⟨gb196, 1, none⟩ = some (.int .i8 a1_1) := (blk_cell BK196.out 1).trans rfl; have hcz21_2 : w20.cell? ⟨gb196, 2, none⟩ = some (.string a1_2) := (blk_cell BK196.out 2).trans rfl; have hcz21_3 : w20.cell? ⟨gb196, 3, none⟩ = some (.string a1_3) := (blk_cell BK196.out 3).trans rfl; have hcz21_4 : w20.cell? ⟨gb196, 4, none⟩ = some (.int .i64 a1_4) := (blk_cell BK196.out 4).trans rfl; have hcz21_5 : w20.cell? ⟨gb196, 5, none⟩ = some (.int .i64 a1_5) := (blk_cell BK196.out 5).trans rfl; have hfz21_0 := blk_frozen BK196.out 0; have hfz21_1 := blk_frozen BK196.out 1; have hfz21_2 := blk_frozen BK196.out 2; have hfz21_3 := blk_frozen BK196.out 3; have hfz21_4 := blk_frozen BK196.out 4; have hfz21_5 := blk_frozen BK196.out 5) | ((with_reducible refine gate_callee (f := 89) rfl ?_); refine goesL_ (some 14) rfl rfl Try.func89 (by kernel_rfl) rfl #[.slice A0 l0.length c0, .string a1_0] rfl (by (try simp only [List.map_toArray, List.map_cons, List.map_nil]); first | done | rfl | (simp only [List.length_drop, List.length_take]; rfl)) ?_; (with_reducible refine (spec_l07Find.calls k _ _ l0 a1_0 t203 _ ?side1 ?side2 A4.out).mono ?_); (case side1 => repeat (first | exact (Kd.C_below HR0.out HB.out) | (with_reducible refine Kd.C_alloc ?_ _) | (with_reducible refine Kd.C_drewN ?_ _) | (with_reducible refine Kd.C_drew ?_))); (case side2 => exact HC0.out); rintro e w' ⟨rfl, ⟨nd, rfl⟩⟩; refine ⟨_, rfl, ?_⟩) | ((with_reducible refine gate_builtin (b := .append) (xs := #[.tmp 21, .tmp 23]) rfl ?_); at_builtin; refine Kd.R_append k45 (w0 := w) w.heap.size rfl (.tmp 21) (.tmp 23) 25 45 (.agg #[(.string ⟨#[]⟩), (.int .i8 0), (.string ⟨#[]⟩), (.string ⟨#[]⟩), (.int .i64 0), (.int .i64 0)]) 72 rfl Try.underlying25 info45 rfl (by decide) (by omega) v201 y200 (⟨a1_0, a1_1, a1_2, a1_3, a1_4, a1_5⟩ : S45) [.string a1_0, .int .i8 a1_1, .string a1_2, .string a1_3, .int .i64 a1_4, .int .i64 a1_5] (fun k_ => k_ ≠ gb196) (fun _ => False) rfl rfl ?aP (fun _ hk => hk.elim) ?aF ?aO ?aB ?aS ?aL ?_; (case aP => exact k45_mkM _ _ _ (⟨a1_0, a1_1, a1_2, a1_3, a1_4, a1_5⟩ : S45)); (case aB => exact (by repeat (first | (with_reducible first | exact HB.out | apply below_alloc | apply pw_below_drewN | apply below_drew1 | refine below_set ?_ GE196.out) | exact HB.out))); (case aF => exact (fun k_ hk => Kd.freshB (g := gb196) (o := .cells #[.string a1_0, .int .i8 a1_1, .string a1_2, .string a1_3, .int .i64 a1_4, .int .i64 a1_5] 45 (0, 0)) (by (with_reducible repeat (first | refine blk_drewN ?_ _ | refine blk_drew ?_ | refine blk_alloc ?_ _)); exact BK196.out) k_ hk)); (case aO => exact (by (with_reducible repeat (first | apply Kd.R_alloc | apply Kd.R_drewN | apply Kd.R_drew)); exact HO202.out)); (case aS => exact (below_size (by repeat (first | (with_reducible first | exact HB.out | apply below_alloc | apply pw_below_drewN | apply below_drew1 | refine below_set ?_ GE196.out) | exact HB.out)))); (case aL => have := LMc14.out; omega); intro v208 w22 ho hb hg hat; rw [← Ny207.out] at ho; have n0_ := Aside0.mk (blk_grown (g := gb196) (o := .cells #[.string a1_0, .int .i8 a1_1, .string a1_2, .string a1_3, .int .i64 a1_4, .int .i64 a1_5] 45 (0, 0)) (by (with_reducible repeat (first | refine blk_drewN ?_ _ | refine blk_drew ?_ | refine blk_alloc ?_ _)); exact BK196.out) hg (Kd.R_away HO202.out (fun _ hk => hk))); have n1_ := Aside0.mk (hb); have n2_ := Aside0.mk (ho); clear BK196; clear HB; clear HO202; have BK196 := n0_; have HB := n1_; have HO209 := n2_; clear n0_ n1_ n2_; clear ho hb hg hat; obtain ⟨Ao23, co23, eo23⟩ := Kd.R_slice HO209.out; subst eo23) | ((with_reducible refine gate_callee (f := 64) rfl ?_); refine goesL_ (some 30) rfl rfl Try.func64 (by kernel_rfl) rfl #[.slice Ao23 y207.length co23] rfl (by (try simp only [List.map_toArray, List.map_cons, List.map_nil]); first | done | rfl | (simp only [List.length_drop, List.length_take]; rfl)) ?_; (with_reducible refine (spec_l07Ok.calls k _ _ y207 true _ ?side1 ?side2 A15.out).mono ?_); (case side1 => repeat (first | exact (Kd.R_reads' HO209.out).2.2 | (with_reducible refine Kd.C_alloc ?_ _) | (with_reducible refine Kd.C_drewN ?_ _) | (with_reducible refine Kd.C_drew ?_))); (case side2 => exact (Kd.R_reads' HO209.out).2.1); rintro e w24 ⟨rfl, hb⟩; refine ⟨_, rfl, ?_⟩; have n0_ := Aside0.mk (Kd.R_below (by (with_reducible repeat (first | apply Kd.R_alloc | apply Kd.R_drewN | apply Kd.R_drew)); exact HO209.out) hb); have n1_ := Aside0.mk (blk_below (g := gb196) (o := .cells #[.string a1_0, .int .i8 a1_1, .string a1_2, .string a1_3, .int .i64 a1_4, .int .i64 a1_5] 45 (0, 0)) (by (with_reducible repeat (first | refine blk_drewN ?_ _ | refine blk_drew ?_ | refine blk_alloc ?_ _)); exact BK196.out) hb); have n2_ := Aside0.mk (below_step (by repeat (first | (with_reducible first | exact HB.out | apply below_alloc | apply pw_below_drewN | apply below_drew1 | refine below_set ?_ GE196.out) | exact HB.out)) hb); clear HO209; clear BK196; clear HB; have HO209 := n0_; have BK196 := n1_; have HB := n2_; clear n0_ n1_ n2_; (try clear hb); (try clear hb2); (try clear hk); (try clear hi)))
      go_ret2
      exact ⟨_, by first | rfl | (simp [errW_none, errW_some] <;> rfl) | (simp [*, errW_none, errW_some] <;> rfl), by (with_reducible repeat (first | apply Kd.R_alloc | apply Kd.R_drewN | apply Kd.R_drew)); exact Kd.R_mono HO209.out (fun _ hk => trivial), by repeat (first | (with_reducible first | exact HB.out | apply below_alloc | apply pw_below_drewN | apply below_drew1 | refine below_set ?_ GE196.out) | exact HB.out)⟩
     ·
      replace c16 := Bool.eq_false_iff.mpr c16
      subst c16
      have H1 : (some ((([] : List (S45))), 4)) = some (r1, r2) := by first | (rw [if_neg (show ¬ (false = true) by decide)] at H; exact H) | rfl
      clear H
      have H := H1
      clear H1
      obtain ⟨y211, hy211⟩ : ∃ y_ : List (S45), y_ = (([] : List (S45))) := ⟨_, rfl⟩
      replace H : (some (y211, 4)) = some (r1, r2) := by first | (rw [hy211]; with_reducible exact H) | (have H2_ := (Option.bind_some _ _).symm.trans H; rw [hy211]; with_reducible exact H2_) | (have H2_ := (Option.bind_some _ _).symm.trans H; with_reducible exact H2_) | with_reducible exact H | (rw [hy211]; exact H) | exact H
      have Ny211 := Aside0.mk hy211
      clear hy211
      simp only [Option.some.injEq, Prod.mk.injEq] at H
      obtain ⟨rfl, rfl⟩ := H
      go_enter Try.func77, Try.ntmps77
      go_wp2_with (first | ((with_reducible refine gate_dst (N := 3) rfl ?_); refine box_event ?hg (N := 3) ?hd (cs := #[.string a1_0, .int .i8 a1_1, .string a1_2, .string a1_3, .int .i64 a1_4, .int .i64 a1_5]) (t := 45) ?hr ?_; (case hd => rfl); (case hg => rfl); (case hr => first | (go_simp; done) | (go_simp; rfl)); intro gb196 hg w25 hbox hb; have n0_ := Aside0.mk (below_step (by repeat (first | (with_reducible first | exact HB.out | apply below_alloc | apply pw_below_drewN | apply below_drew1) | exact HB.out)) hb); have n1_ := Aside0.mk (hbox); have n2_ := Aside0.mk ((by rw [hg]; exact (below_size (by repeat (first | (with_reducible first | exact HB.out | apply below_alloc | apply pw_below_drewN | apply below_drew1) | exact HB.out))) : w.heap.size ≤ gb196)); have n3_ := Aside0.mk ((by rw [hg]; exact (below_size (by repeat (first | (with_reducible first | exact HB.out | apply below_alloc | apply pw_below_drewN | apply below_drew1) | exact HB.out))) : w.heap.size ≤ gb196)); clear HB; have HB := n0_; have BK196 := n1_; have GW196 := n2_; have GE196 := n3_; clear n0_ n1_ n2_ n3_; clear hb hbox hg) | ((with_reducible refine gate_dst (N := 8) rfl ?_); refine Kd.R_lit k45 _ 45 ?hg (N := 8) ?hd (xs := ([] : List (S45))) (inner := []) (ok := fun _ => True) (okp := fun _ => True) ?hr ?hp (fun _ hk => hk) trivial (Below.refl _ _) (Nat.le_refl _) (by simp) ?_; (case hd => rfl); (case hg => rfl); (case hr => first | (go_simp; done) | (go_simp; rfl)); (case hp => exact (Reps.none _ _)); intro v198 w26 ho27 hb hg_ hnew_; clear hg_ hnew_; (first | rw [← Ny197.out] at ho27 | (simp only [Int.reduceToNat] at ho27; rw [← Ny197.out] at ho27)); have n0_ := Aside0.mk (Kd.R_lower (Kd.R_newB ho27 (g := gb196) (o := .cells #[.string a1_0, .int .i8 a1_1, .string a1_2, .string a1_3, .int .i64 a1_4, .int .i64 a1_5] 45 (0, 0)) (by (with_reducible repeat (first | refine blk_drewN ?_ _ | refine blk_drew ?_ | refine blk_alloc ?_ _)); exact BK196.out)) (below_size (by repeat (first | (with_reducible first | exact HB.out | apply below_alloc | apply pw_below_drewN | apply below_drew1 | refine below_set ?_ GE196.out) | exact HB.out)))); have n1_ := Aside0.mk (blk_below (g := gb196) (o := .cells #[.string a1_0, .int .i8 a1_1, .string a1_2, .string a1_3, .int .i64 a1_4, .int .i64 a1_5] 45 (0, 0)) (by (with_reducible repeat (first | refine blk_drewN ?_ _ | refine blk_drew ?_ | refine blk_alloc ?_ _)); exact BK196.out) hb); have n2_ := Aside0.mk (below_step (by repeat (first | (with_reducible first | exact HB.out | apply below_alloc | apply pw_below_drewN | apply below_drew1 | refine below_set ?_ GE196.out) | exact HB.out)) hb); clear BK196; clear HB; have HO199 := n0_; have BK196 := n1_; have HB := n2_; clear n0_ n1_ n2_; clear hb ho27) | ((with_reducible refine gate_builtin (b := .append) (xs := #[.tmp 8, .tmp 9]) rfl ?_); at_builtin; refine Kd.R_append_rows k45 (w0 := w) w.heap.size rfl (.tmp 8) (.tmp 9) 25 45 (.agg #[(.string ⟨#[]⟩), (.int .i8 0), (.string ⟨#[]⟩), (.string ⟨#[]⟩), (.int .i64 0), (.int .i64 0)]) 72 rfl Try.underlying25 info45 rfl (by decide) (by omega) v198 y197 l0 _ _ _ (fun k_ => k_ ≠ gb196) (fun _ => False) rfl rfl ?aO ?aR (fun _ _ h => h) (fun _ h => h.elim) ?aF ?aB ?aS ?aL ?_; (case aR => repeat (first | exact (Kd.C_below HR0.out HB.out) | (with_reducible refine Kd.C_alloc ?_ _) | (with_reducible refine Kd.C_drewN ?_ _) | (with_reducible refine Kd.C_drew ?_))); (case aB => exact (by repeat (first | (with_reducible first | exact HB.out | apply below_alloc | apply pw_below_drewN | apply below_drew1 | refine below_set ?_ GE196.out) | exact HB.out))); (case aF => exact (fun k_ hk => Kd.freshB (g := gb196) (o := .cells #[.string a1_0, .int .i8 a1_1, .string a1_2, .string a1_3, .int .i64 a1_4, .int .i64 a1_5] 45 (0, 0)) (by (with_reducible repeat (first | refine blk_drewN ?_ _ | refine blk_drew ?_ | refine blk_alloc ?_ _)); exact BK196.out) k_ hk)); (case aO => exact (by (with_reducible repeat (first | apply Kd.R_alloc | apply Kd.R_drewN | apply Kd.R_drew)); exact Kd.R_mono HO199.out (fun _ hk => hk.2))); (case aS => exact (below_size (by repeat (first | (with_reducible first | exact HB.out | apply below_alloc | apply pw_below_drewN | apply below_drew1 | refine below_set ?_ GE196.out) | exact HB.out)))); (case aL => have := LMc3.out; omega); intro v201 w28 ho hb hg hat; rw [← Ny200.out] at ho; have n0_ := Aside0.mk (blk_grown (g := gb196) (o := .cells #[.string a1_0, .int .i8 a1_1, .string a1_2, .string a1_3, .int .i64 a1_4, .int .i64 a1_5] 45 (0, 0)) (by (with_reducible repeat (first | refine blk_drewN ?_ _ | refine blk_drew ?_ | refine blk_alloc ?_ _)); exact BK196.out) hg (Kd.R_away HO199.out (fun _ hk => hk.2))); have n1_ := Aside0.mk (hb); have n2_ := Aside0.mk (ho); clear BK196; clear HB; clear HO199; have BK196 := n0_; have HB := n1_; have HO202 := n2_; clear n0_ n1_ n2_; clear ho hb hg hat; have hcz29_0 : w28.cell? ⟨gb196, 0, none⟩ = some (.string a1_0) := (blk_cell BK196.out 0).trans rfl; have hcz29_1 : w28.cell? ⟨gb196, 1, none⟩ = some (.int .i8 a1_1) := (blk_cell BK196.out 1).trans rfl; have hcz29_2 : w28.cell? ⟨gb196, 2, none⟩ = some (.string a1_2) := (blk_cell BK196.out 2).trans rfl; have hcz29_3 : w28.cell? ⟨gb196, 3, none⟩ = some (.string a1_3) := (blk_cell BK196.out 3).trans rfl; have hcz29_4 : w28.cell? ⟨gb196, 4, none⟩ = some (.int .i64 a1_4) := (blk_cell BK196.out 4).trans rfl; have hcz29_5 : w28.cell? ⟨gb196, 5, none⟩ = some (.int .i64 a1_5) := (blk_cell BK196.out 5).trans rfl; have hfz29_0 := blk_frozen BK196.out 0; have hfz29_1 := blk_frozen BK196.out 1; have hfz29_2 := blk_frozen BK196.out 2; have hfz29_3 := blk_frozen BK196.out 3; have hfz29_4 := blk_frozen BK196.out 4; have hfz29_5 := blk_frozen BK196.out 5) | ((with_reducible refine gate_callee (f := 89) rfl ?_); refine goesL_ (some 14) rfl rfl Try.func89 (by kernel_rfl) rfl #[.slice A0 l0.length c0, .string a1_0] rfl (by (try simp only [List.map_toArray, List.map_cons, List.map_nil]); first | done | rfl | (simp only [List.length_drop, List.length_take]; rfl)) ?_; (with_reducible refine (spec_l07Find.calls k _ _ l0 a1_0 t203 _ ?side1 ?side2 A4.out).mono ?_); (case side1 => repeat (first | exact (Kd.C_below HR0.out HB.out) | (with_reducible refine Kd.C_alloc ?_ _) | (with_reducible refine Kd.C_drewN ?_ _) | (with_reducible refine Kd.C_drew ?_))); (case side2 => exact HC0.out); rintro e w' ⟨rfl, ⟨nd, rfl⟩⟩; refine ⟨_, rfl, ?_⟩) | ((with_reducible refine gate_builtin (b := .append) (xs := #[.tmp 21, .tmp 23]) rfl ?_); at_builtin; refine Kd.R_append k45 (w0 := w) w.heap.size rfl (.tmp 21) (.tmp 23) 25 45 (.agg #[(.string ⟨#[]⟩), (.int .i8 0), (.string ⟨#[]⟩), (.string ⟨#[]⟩), (.int .i64 0), (.int .i64 0)]) 72 rfl Try.underlying25 info45 rfl (by decide) (by omega) v201 y200 (⟨a1_0, a1_1, a1_2, a1_3, a1_4, a1_5⟩ : S45) [.string a1_0, .int .i8 a1_1, .string a1_2, .string a1_3, .int .i64 a1_4, .int .i64 a1_5] (fun k_ => k_ ≠ gb196) (fun _ => False) rfl rfl ?aP (fun _ hk => hk.elim) ?aF ?aO ?aB ?aS ?aL ?_; (case aP => exact k45_mkM _ _ _ (⟨a1_0, a1_1, a1_2, a1_3, a1_4, a1_5⟩ : S45)); (case aB => exact (by repeat (first | (with_reducible first | exact HB.out | apply below_alloc | apply pw_below_drewN | apply below_drew1 | refine below_set ?_ GE196.out) | exact HB.out))); (case aF => exact (fun k_ hk => Kd.freshB (g := gb196) (o := .cells #[.string a1_0, .int .i8 a1_1, .string a1_2, .string a1_3, .int .i64 a1_4, .int .i64 a1_5] 45 (0, 0)) (by (with_reducible repeat (first | refine blk_drewN ?_ _ | refine blk_drew ?_ | refine blk_alloc ?_ _)); exact BK196.out) k_ hk)); (case aO => exact (by (with_reducible repeat (first | apply Kd.R_alloc | apply Kd.R_drewN | apply Kd.R_drew)); exact HO202.out)); (case aS => exact (below_size (by repeat (first | (with_reducible first | exact HB.out | apply below_alloc | apply pw_below_drewN | apply below_drew1 | refine below_set ?_ GE196.out) | exact HB.out)))); (case aL => have := LMc14.out; omega); intro v208 w30 ho hb hg hat; rw [← Ny207.out] at ho; have n0_ := Aside0.mk (blk_grown (g := gb196) (o := .cells #[.string a1_0, .int .i8 a1_1, .string a1_2, .string a1_3, .int .i64 a1_4, .int .i64 a1_5] 45 (0, 0)) (by (with_reducible repeat (first | refine blk_drewN ?_ _ | refine blk_drew ?_ | refine blk_alloc ?_ _)); exact BK196.out) hg (Kd.R_away HO202.out (fun _ hk => hk))); have n1_ := Aside0.mk (hb); have n2_ := Aside0.mk (ho); clear BK196; clear HB; clear HO202; have BK196 := n0_; have HB := n1_; have HO209 := n2_; clear n0_ n1_ n2_; clear ho hb hg hat; obtain ⟨Ao31, co31, eo31⟩ := Kd.R_slice HO209.out; subst eo31) | ((with_reducible refine gate_callee (f := 64) rfl ?_); refine goesL_ (some 30) rfl rfl Try.func64 (by kernel_rfl) rfl #[.slice Ao31 y207.length co31] rfl (by (try simp only [List.map_toArray, List.map_cons, List.map_nil]); first | done | rfl | (simp only [List.length_drop, List.length_take]; rfl)) ?_; (with_reducible refine (spec_l07Ok.calls k _ _ y207 false _ ?side1 ?side2 A15.out).mono ?_); (case side1 => repeat (first | exact (Kd.R_reads' HO209.out).2.2 | (with_reducible refine Kd.C_alloc ?_ _) | (with_reducible refine Kd.C_drewN ?_ _) | (with_reducible refine Kd.C_drew ?_))); (case side2 => exact (Kd.R_reads' HO209.out).2.1); rintro e w32 ⟨rfl, hb⟩; refine ⟨_, rfl, ?_⟩; have n0_ := Aside0.mk (Kd.R_below (by (with_reducible repeat (first | apply Kd.R_alloc | apply Kd.R_drewN | apply Kd.R_drew)); exact HO209.out) hb); have n1_ := Aside0.mk (blk_below (g := gb196) (o := .cells #[.string a1_0, .int .i8 a1_1, .string a1_2, .string a1_3, .int .i64 a1_4, .int .i64 a1_5] 45 (0, 0)) (by (with_reducible repeat (first | refine blk_drewN ?_ _ | refine blk_drew ?_ | refine blk_alloc ?_ _)); exact BK196.out) hb); have n2_ := Aside0.mk (below_step (by repeat (first | (with_reducible first | exact HB.out | apply below_alloc | apply pw_below_drewN | apply below_drew1 | refine below_set ?_ GE196.out) | exact HB.out)) hb); clear HO209; clear BK196; clear HB; have HO209 := n0_; have BK196 := n1_; have HB := n2_; clear n0_ n1_ n2_; (try clear hb); (try clear hb2); (try clear hk); (try clear hi)) | ((with_reducible refine gate_dst (N := 32) rfl ?_); refine Kd.R_lit k45 _ 45 ?hg (N := 32) ?hd (xs := ([] : List (S45))) (inner := []) (ok := fun _ => True) (okp := fun _ => True) ?hr ?hp (fun _ hk => hk) trivial (Below.refl _ _) (Nat.le_refl _) (by simp) ?_; (case hd => rfl); (case hg => rfl); (case hr => first | (go_simp; done) | (go_simp; rfl)); (case hp => exact (Reps.none _ _)); intro v212 w33 ho34 hb hg_ hnew_; clear hg_ hnew_; (first | rw [← Ny211.out] at ho34 | (simp only [Int.reduceToNat] at ho34; rw [← Ny211.out] at ho34)); have n0_ := Aside0.mk (Kd.R_elder' (by (with_reducible repeat (first | apply Kd.R_alloc | apply Kd.R_drewN | apply Kd.R_drew)); exact HO209.out) (Kd.R_base ho34) hb); have n1_ := Aside0.mk (Kd.R_lower (Kd.R_newB (Kd.R_new' ho34 (Kd.R_lt (by (with_reducible repeat (first | apply Kd.R_alloc | apply Kd.R_drewN | apply Kd.R_drew)); exact HO209.out))) (g := gb196) (o := .cells #[.string a1_0, .int .i8 a1_1, .string a1_2, .string a1_3, .int .i64 a1_4, .int .i64 a1_5] 45 (0, 0)) (by (with_reducible repeat (first | refine blk_drewN ?_ _ | refine blk_drew ?_ | refine blk_alloc ?_ _)); exact BK196.out)) (below_size (by repeat (first | (with_reducible first | exact HB.out | apply below_alloc | apply pw_below_drewN | apply below_drew1 | refine below_set ?_ GE196.out) | exact HB.out)))); have n2_ := Aside0.mk (blk_below (g := gb196) (o := .cells #[.string a1_0, .int .i8 a1_1, .string a1_2, .string a1_3, .int .i64 a1_4, .int .i64 a1_5] 45 (0, 0)) (by (with_reducible repeat (first | refine blk_drewN ?_ _ | refine blk_drew ?_ | refine blk_alloc ?_ _)); exact BK196.out) hb); have n3_ := Aside0.mk (below_step (by repeat (first | (with_reducible first | exact HB.out | apply below_alloc | apply pw_below_drewN | apply below_drew1 | refine below_set ?_ GE196.out) | exact HB.out)) hb); clear HO209; clear BK196; clear HB; have HO209 := n0_; have HO213 := n1_; have BK196 := n2_; have HB := n3_; clear n0_ n1_ n2_ n3_; clear hb ho34))
      go_ret2
      exact ⟨_, by first | rfl | (simp [errW_none, errW_some] <;> rfl) | (simp [*, errW_none, errW_some] <;> rfl), by (with_reducible repeat (first | apply Kd.R_alloc | apply Kd.R_drewN | apply Kd.R_drew)); exact Kd.R_mono HO213.out (fun _ hk => trivial), by repeat (first | (with_reducible first | exact HB.out | apply below_alloc | apply pw_below_drewN | apply below_drew1 | refine below_set ?_ GE196.out) | exact HB.out)⟩
    ·
     rw [if_neg c14] at H
     exact absurd H (by simp)
  ·
   rw [if_neg c5] at H
   have c5b0 : decide (t203 < 0) = false := decide_eq_false c5
   clear c5
   by_cases c35 : 0 ≤ t203
   ·
    rw [if_pos c35] at H
    have c35b0 : decide (0 ≤ t203) = true := decide_eq_true c35
    clear c35
    by_cases c36 : t203 < (y200.length : Int)
    ·
     rw [if_pos c36] at H
     have c36b0 : decide (t203 < (y200.length : Int)) = true := decide_eq_true c36
     clear c36
     obtain ⟨y214, hy214⟩ : ∃ y_ : List (S45), y_ = (y200.set (t203 : Int).toNat (⟨a1_0, a1_1, a1_2, a1_3, a1_4, a1_5⟩ : S45)) := ⟨_, rfl⟩
     replace H : ((spec_l07Ok.f k y214).bind fun t215 => (if t215 = true then (some (y214, 0)) else (some ((([] : List (S45))), 4)))) = some (r1, r2) := by first | (rw [hy214]; with_reducible exact H) | (have H2_ := (Option.bind_some _ _).symm.trans H; rw [hy214]; with_reducible exact H2_) | (have H2_ := (Option.bind_some _ _).symm.trans H; with_reducible exact H2_) | with_reducible exact H | (rw [hy214]; exact H) | exact H
     have Ny214 := Aside0.mk hy214
     clear hy214
     replace H := Option.bind_eq_some_iff.mp H
     obtain ⟨t215, A380, H⟩ := H
     replace H : (if t215 = true then (some (y214, 0)) else (some ((([] : List (S45))), 4))) = some (r1, r2) := H
     have A38 := Aside0.mk A380
     clear A380
     by_cases c39 : t215 = true
     ·
      subst c39
      have H1 : (some (y214, 0)) = some (r1, r2) := by first | (rw [if_pos rfl] at H; exact H) | rfl
      clear H
      have H := H1
      clear H1
      simp only [Option.some.injEq, Prod.mk.injEq] at H
      obtain ⟨rfl, rfl⟩ := H
      go_enter Try.func77, Try.ntmps77
      go_wp2_with (first | ((with_reducible refine gate_dst (N := 3) rfl ?_); refine box_event ?hg (N := 3) ?hd (cs := #[.string a1_0, .int .i8 a1_1, .string a1_2, .string a1_3, .int .i64 a1_4, .int .i64 a1_5]) (t := 45) ?hr ?_; (case hd => rfl); (case hg => rfl); (case hr => first | (go_simp; done) | (go_simp; rfl)); intro gb196 hg w40 hbox hb; have n0_ := Aside0.mk (below_step (by repeat (first | (with_reducible first | exact HB.out | apply below_alloc | apply pw_below_drewN | apply below_drew1) | exact HB.out)) hb); have n1_ := Aside0.mk (hbox); have n2_ := Aside0.mk ((by rw [hg]; exact (below_size (by repeat (first | (with_reducible first | exact HB.out | apply below_alloc | apply pw_below_drewN | apply below_drew1) | exact HB.out))) : w.heap.size ≤ gb196)); have n3_ := Aside0.mk ((by rw [hg]; exact (below_size (by repeat (first | (with_reducible first | exact HB.out | apply below_alloc | apply pw_below_drewN | apply below_drew1) | exact HB.out))) : w.heap.size ≤ gb196)); clear HB; have HB := n0_; have BK196 := n1_; have GW196 := n2_; have GE196 := n3_; clear n0_ n1_ n2_ n3_; clear hb hbox hg) | ((with_reducible refine gate_dst (N := 8) rfl ?_); refine Kd.R_lit k45 _ 45 ?hg (N := 8) ?hd (xs := ([] : List (S45))) (inner := []) (ok := fun _ => True) (okp := fun _ => True) ?hr ?hp (fun _ hk => hk) trivial (Below.refl _ _) (Nat.le_refl _) (by simp) ?_; (case hd => rfl); (case hg => rfl); (case hr => first | (go_simp; done) | (go_simp; rfl)); (case hp => exact (Reps.none _ _)); intro v198 w41 ho42 hb hg_ hnew_; clear hg_ hnew_; (first | rw [← Ny197.out] at ho42 | (simp only [Int.reduceToNat] at ho42; rw [← Ny197.out] at ho42)); have n0_ := Aside0.mk (Kd.R_lower (Kd.R_newB ho42 (g := gb196) (o := .cells #[.string a1_0, .int .i8 a1_1, .string a1_2, .string a1_3, .int .i64 a1_4, .int .i64 a1_5] 45 (0, 0)) (by (with_reducible repeat (first | refine blk_drewN ?_ _ | refine blk_drew ?_ | refine blk_alloc ?_ _)); exact BK196.out)) (below_size (by repeat (first | (with_reducible first | exact HB.out | apply below_alloc | apply pw_below_drewN | apply below_drew1 | refine below_set ?_ GE196.out) | exact HB.out)))); have n1_ := Aside0.mk (blk_below (g := gb196) (o := .cells #[.string a1_0, .int .i8 a1_1, .string a1_2, .string a1_3, .int .i64 a1_4, .int .i64 a1_5] 45 (0, 0)) (by (with_reducible repeat (first | refine blk_drewN ?_ _ | refine blk_drew ?_ | refine blk_alloc ?_ _)); exact BK196.out) hb); have n2_ := Aside0.mk (below_step (by repeat (first | (with_reducible first | exact HB.out | apply below_alloc | apply pw_below_drewN | apply below_drew1 | refine below_set ?_ GE196.out) | exact HB.out)) hb); clear BK196; clear HB; have HO199 := n0_; have BK196 := n1_; have HB := n2_; clear n0_ n1_ n2_; clear hb ho42) | ((with_reducible refine gate_builtin (b := .append) (xs := #[.tmp 8, .tmp 9]) rfl ?_); at_builtin; refine Kd.R_append_rows k45 (w0 := w) w.heap.size rfl (.tmp 8) (.tmp 9) 25 45 (.agg #[(.string ⟨#[]⟩), (.int .i8 0), (.string ⟨#[]⟩), (.string ⟨#[]⟩), (.int .i64 0), (.int .i64 0)]) 72 rfl Try.underlying25 info45 rfl (by decide) (by omega) v198 y197 l0 _ _ _ (fun k_ => k_ ≠ gb196) (fun _ => False) rfl rfl ?aO ?aR (fun _ _ h => h) (fun _ h => h.elim) ?aF ?aB ?aS ?aL ?_; (case aR => repeat (first | exact (Kd.C_below HR0.out HB.out) | (with_reducible refine Kd.C_alloc ?_ _) | (with_reducible refine Kd.C_drewN ?_ _) | (with_reducible refine Kd.C_drew ?_))); (case aB => exact (by repeat (first | (with_reducible first | exact HB.out | apply below_alloc | apply pw_below_drewN | apply below_drew1 | refine below_set ?_ GE196.out) | exact HB.out))); (case aF => exact (fun k_ hk => Kd.freshB (g := gb196) (o := .cells #[.string a1_0, .int .i8 a1_1, .string a1_2, .string a1_3, .int .i64 a1_4, .int .i64 a1_5] 45 (0, 0)) (by (with_reducible repeat (first | refine blk_drewN ?_ _ | refine blk_drew ?_ | refine blk_alloc ?_ _)); exact BK196.out) k_ hk)); (case aO => exact (by (with_reducible repeat (first | apply Kd.R_alloc | apply Kd.R_drewN | apply Kd.R_drew)); exact Kd.R_mono HO199.out (fun _ hk => hk.2))); (case aS => exact (below_size (by repeat (first | (with_reducible first | exact HB.out | apply below_alloc | apply pw_below_drewN | apply below_drew1 | refine below_set ?_ GE196.out) | exact HB.out)))); (case aL => have := LMc3.out; omega); intro v201 w43 ho hb hg hat; rw [← Ny200.out] at ho; have n0_ := Aside0.mk (blk_grown (g := gb196) (o := .cells #[.string a1_0, .int .i8 a1_1, .string a1_2, .string a1_3, .int .i64 a1_4, .int .i64 a1_5] 45 (0, 0)) (by (with_reducible repeat (first | refine blk_drewN ?_ _ | refine blk_drew ?_ | refine blk_alloc ?_ _)); exact BK196.out) hg (Kd.R_away HO199.out (fun _ hk => hk.2))); have n1_ := Aside0.mk (hb); have n2_ := Aside0.mk (ho); clear BK196; clear HB; clear HO199; have BK196 := n0_; have HB := n1_; have HO202 := n2_; clear n0_ n1_ n2_; clear ho hb hg hat; have hcz44_0 : w43.cell? ⟨gb196, 0, none⟩ = some (.string a1_0) := (blk_cell BK196.out 0).trans rfl; have hcz44_1 : w43.cell? ⟨gb196, 1, none⟩ = some (.int .i8 a1_1) := (blk_cell BK196.out 1).trans rfl; have hcz44_2 : w43.cell? ⟨gb196, 2, none⟩ = some (.string a1_2) := (blk_cell BK196.out 2).trans rfl; have hcz44_3 : w43.cell? ⟨gb196, 3, none⟩ = some (.string a1_3) := (blk_cell BK196.out 3).trans rfl; have hcz44_4 : w43.cell? ⟨gb196, 4, none⟩ = some (.int .i64 a1_4) := (blk_cell BK196.out 4).trans rfl; have hcz44_5 : w43.cell? ⟨gb196, 5, none⟩ = some (.int .i64 a1_5) := (blk_cell BK196.out 5).trans rfl; have hfz44_0 := blk_frozen BK196.out 0; have hfz44_1 := blk_frozen BK196.out 1; have hfz44_2 := blk_frozen BK196.out 2; have hfz44_3 := blk_frozen BK196.out 3; have hfz44_4 := blk_frozen BK196.out 4; have hfz44_5 := blk_frozen BK196.out 5) | ((with_reducible refine gate_callee (f := 89) rfl ?_); refine goesL_ (some 14) rfl rfl Try.func89 (by kernel_rfl) rfl #[.slice A0 l0.length c0, .string a1_0] rfl (by (try simp only [List.map_toArray, List.map_cons, List.map_nil]); first | done | rfl | (simp only [List.length_drop, List.length_take]; rfl)) ?_; (with_reducible refine (spec_l07Find.calls k _ _ l0 a1_0 t203 _ ?side1 ?side2 A4.out).mono ?_); (case side1 => repeat (first | exact (Kd.C_below HR0.out HB.out) | (with_reducible refine Kd.C_alloc ?_ _) | (with_reducible refine Kd.C_drewN ?_ _) | (with_reducible refine Kd.C_drew ?_))); (case side2 => exact HC0.out); rintro e w' ⟨rfl, ⟨nd, rfl⟩⟩; refine ⟨_, rfl, ?_⟩; (try (rw [drewN_self w43]; generalize hq_ : World.drewN w43 _ = w43; have n0_ : Aside0 (Kd.R k45 45 w43 w.heap.size (fun k_ => k_ ≠ gb196) v201 y200) := ⟨by rw [← hq_]; exact (by (with_reducible repeat (first | apply Kd.R_alloc | apply Kd.R_drewN | apply Kd.R_drew)); exact HO202.out)⟩; have n1_ : Aside0 (w43.heap[gb196]? = some (.cells #[.string a1_0, .int .i8 a1_1, .string a1_2, .string a1_3, .int .i64 a1_4, .int .i64 a1_5] 45 (0, 0))) := ⟨by rw [← hq_]; exact (by (with_reducible repeat (first | refine blk_drewN ?_ _ | refine blk_drew ?_ | refine blk_alloc ?_ _)); exact BK196.out)⟩; have n2_ : Aside0 (Below w.heap.size w w43) := ⟨by rw [← hq_]; exact (by repeat (first | (with_reducible first | exact HB.out | apply below_alloc | apply pw_below_drewN | apply below_drew1 | refine below_set ?_ GE196.out) | exact HB.out))⟩; clear HO202 BK196 HB hq_; have HO202 := n0_; have BK196 := n1_; have HB := n2_; clear n0_ n1_ n2_)); (try (have hcz44_0 : w43.cell? ⟨gb196, 0, none⟩ = some (.string a1_0) := (blk_cell BK196.out 0).trans rfl; have hcz44_1 : w43.cell? ⟨gb196, 1, none⟩ = some (.int .i8 a1_1) := (blk_cell BK196.out 1).trans rfl; have hcz44_2 : w43.cell? ⟨gb196, 2, none⟩ = some (.string a1_2) := (blk_cell BK196.out 2).trans rfl; have hcz44_3 : w43.cell? ⟨gb196, 3, none⟩ = some (.string a1_3) := (blk_cell BK196.out 3).trans rfl; have hcz44_4 : w43.cell? ⟨gb196, 4, none⟩ = some (.int .i64 a1_4) := (blk_cell BK196.out 4).trans rfl; have hcz44_5 : w43.cell? ⟨gb196, 5, none⟩ = some (.int .i64 a1_5) := (blk_cell BK196.out 5).trans rfl; have hfz44_0 := blk_frozen BK196.out 0; have hfz44_1 := blk_frozen BK196.out 1; have hfz44_2 := blk_frozen BK196.out 2; have hfz44_3 := blk_frozen BK196.out 3; have hfz44_4 := blk_frozen BK196.out 4; have hfz44_5 := blk_frozen BK196.out 5)); have p37 : 0 ≤ (t203 : Int) := of_decide_eq_true (by assumption); have q37 : (t203 : Int) < ((y200.length : Int) : Int) := of_decide_eq_true (by assumption); obtain ⟨go37, co37, eo37, gb37, gl37, cl37, HG37⟩ := Kd.R_form HO202.out (by omega); (first | cases eo37 | (injection eo37 with ea_ en_ ec_; (first | subst ea_ | (injection ea_ with ea_; subst ea_)); subst ec_; clear en_)); have GB37 := Aside0.mk gb37; have GG37 := Aside0.mk HG37; clear gb37 gl37 HG37; obtain ⟨ce37, hcl37, hM37, hcc37, hfr37⟩ := Kd.R_elem HO202.out z45 (t203 : Int) p37 q37; obtain rfl := k45_openM hM37; have hx37_0 : w43.cell? ⟨go37, (t203 : Int).toNat * 6, none⟩ = some (.string ((rd_T45 y200 t203).f0)) := hcc37 0 _ rfl; have hx37_1 : w43.cell? ⟨go37, (t203 : Int).toNat * 6 + 1, none⟩ = some (.int .i8 ((rd_T45 y200 t203).f1)) := hcc37 1 _ rfl; have hx37_2 : w43.cell? ⟨go37, (t203 : Int).toNat * 6 + 2, none⟩ = some (.string ((rd_T45 y200 t203).f2)) := hcc37 2 _ rfl; have hx37_3 : w43.cell? ⟨go37, (t203 : Int).toNat * 6 + 3, none⟩ = some (.string ((rd_T45 y200 t203).f3)) := hcc37 3 _ rfl; have hx37_4 : w43.cell? ⟨go37, (t203 : Int).toNat * 6 + 4, none⟩ = some (.int .i64 ((rd_T45 y200 t203).f4)) := hcc37 4 _ rfl; have hx37_5 : w43.cell? ⟨go37, (t203 : Int).toNat * 6 + 5, none⟩ = some (.int .i64 ((rd_T45 y200 t203).f5)) := hcc37 5 _ rfl; have hf37_0 : w43.frozen? ⟨go37, (t203 : Int).toNat * 6, none⟩ = false := hfr37 0; have hf37_1 : w43.frozen? ⟨go37, (t203 : Int).toNat * 6 + 1, none⟩ = false := hfr37 1; have hf37_2 : w43.frozen? ⟨go37, (t203 : Int).toNat * 6 + 2, none⟩ = false := hfr37 2; have hf37_3 : w43.frozen? ⟨go37, (t203 : Int).toNat * 6 + 3, none⟩ = false := hfr37 3; have hf37_4 : w43.frozen? ⟨go37, (t203 : Int).toNat * 6 + 4, none⟩ = false := hfr37 4; have hf37_5 : w43.frozen? ⟨go37, (t203 : Int).toNat * 6 + 5, none⟩ = false := hfr37 5; clear hcl37 hcc37 hfr37 hM37; replace p37 := eq_true p37; replace q37 := eq_true q37; have HX45 := Aside0.mk (show Kd.R k45 45 w43 w.heap.size (fun k_ => k_ ≠ gb196) (.slice (some ⟨go37, 0, none⟩) y200.length co37) y200 from (by (with_reducible repeat (first | apply Kd.R_alloc | apply Kd.R_drewN | apply Kd.R_drew)); exact HO202.out)); obtain ⟨ce45, hcl45, hM45, hcc45, hfr45⟩ := Kd.R_elem HX45.out z45 (t203 : Int) (of_decide_eq_true (by assumption)) (by have h_ : (t203 : Int) < ((y200.length : Int) : Int) := of_decide_eq_true (by assumption); first | exact h_ | (have e_ := (Kd.R_reads' HO202.out).1; omega) | simpa using h_); obtain rfl := k45_openM hM45; have HP45 := Kd.R_seg HX45.out (t203 : Int) (of_decide_eq_true (by assumption)) (by have h_ : (t203 : Int) < ((y200.length : Int) : Int) := of_decide_eq_true (by assumption); first | exact h_ | (have e_ := (Kd.R_reads' HO202.out).1; omega) | simpa using h_) (seg := [.string a1_0, .int .i8 a1_1, .string a1_2, .string a1_3, .int .i64 a1_4, .int .i64 a1_5]) (j := 0) hcl45 hcc45 (show 6 ≤ 6 from by decide) (x' := (⟨a1_0, a1_1, a1_2, a1_3, a1_4, a1_5⟩ : S45)) (k45_mkM _ _ _ (⟨a1_0, a1_1, a1_2, a1_3, a1_4, a1_5⟩ : S45) ) (fun _ hk => hk); have hx45_0 := hcc45 0 _ rfl; (try simp only [show (k45).sz = 6 from rfl, Nat.mul_one, Nat.add_zero] at hx45_0); have hf45_0 := hfr45 0; (try simp only [show (k45).sz = 6 from rfl, Nat.mul_one, Nat.add_zero] at hf45_0); have hx45_1 := hcc45 1 _ rfl; (try simp only [show (k45).sz = 6 from rfl, Nat.mul_one, Nat.add_zero] at hx45_1); have hf45_1 := hfr45 1; (try simp only [show (k45).sz = 6 from rfl, Nat.mul_one, Nat.add_zero] at hf45_1); have hx45_2 := hcc45 2 _ rfl; (try simp only [show (k45).sz = 6 from rfl, Nat.mul_one, Nat.add_zero] at hx45_2); have hf45_2 := hfr45 2; (try simp only [show (k45).sz = 6 from rfl, Nat.mul_one, Nat.add_zero] at hf45_2); have hx45_3 := hcc45 3 _ rfl; (try simp only [show (k45).sz = 6 from rfl, Nat.mul_one, Nat.add_zero] at hx45_3); have hf45_3 := hfr45 3; (try simp only [show (k45).sz = 6 from rfl, Nat.mul_one, Nat.add_zero] at hf45_3); have hx45_4 := hcc45 4 _ rfl; (try simp only [show (k45).sz = 6 from rfl, Nat.mul_one, Nat.add_zero] at hx45_4); have hf45_4 := hfr45 4; (try simp only [show (k45).sz = 6 from rfl, Nat.mul_one, Nat.add_zero] at hf45_4); have hx45_5 := hcc45 5 _ rfl; (try simp only [show (k45).sz = 6 from rfl, Nat.mul_one, Nat.add_zero] at hx45_5); have hf45_5 := hfr45 5; (try simp only [show (k45).sz = 6 from rfl, Nat.mul_one, Nat.add_zero] at hf45_5); clear hcl45 hcc45 hfr45 hM45) | ((with_reducible refine gate_store (t := 45) (p := 28) rfl ?_); refine store_event (t := 45) (p := 28) (v := ?vo_w46) (w1 := ((((((w43.setCell ⟨go37, (t203 : Int).toNat * 6, none⟩ (.string a1_0)).setCell ⟨go37, (t203 : Int).toNat * 6 + 1, none⟩ (.int .i8 a1_1)).setCell ⟨go37, (t203 : Int).toNat * 6 + 2, none⟩ (.string a1_2)).setCell ⟨go37, (t203 : Int).toNat * 6 + 3, none⟩ (.string a1_3)).setCell ⟨go37, (t203 : Int).toNat * 6 + 4, none⟩ (.int .i64 a1_4)).setCell ⟨go37, (t203 : Int).toNat * 6 + 5, none⟩ (.int .i64 a1_5))) ?hg ?ho ?hn ?hr ?_; (case ho => rfl); (case hg => rfl); (case hn => rfl); (case hr => first | (go_simp; done) | (go_simp; rfl)); intro w46 hw; have hg : w43.grownBy w46 (some go37) := (by rw [hw]; exact HP45.2); have hp_ : Kd.R k45 45 w46 w.heap.size (fun k_ => k_ ≠ gb196) (.slice (some ⟨go37, 0, none⟩) y200.length co37) y214 := (by rw [hw, Ny214.out]; exact HP45.1); clear HP45; have n0_ := Aside0.mk (blk_grown (g := gb196) (o := .cells #[.string a1_0, .int .i8 a1_1, .string a1_2, .string a1_3, .int .i64 a1_4, .int .i64 a1_5] 45 (0, 0)) (by (with_reducible repeat (first | refine blk_drewN ?_ _ | refine blk_drew ?_ | refine blk_alloc ?_ _)); exact BK196.out) hg (Kd.R_away HO202.out (fun _ hk => hk))); have n1_ := Aside0.mk (hp_); have n2_ := Aside0.mk ((by rw [hw]; exact below_set (below_set (below_set (below_set (below_set (below_set (HB.out) GB37.out) GB37.out) GB37.out) GB37.out) GB37.out) GB37.out : Below w.heap.size w w46)); clear BK196; clear HO202; clear HB; have BK196 := n0_; have HO202 := n1_; have HB := n2_; clear n0_ n1_ n2_; clear hg hw hp_) | ((with_reducible refine gate_callee (f := 64) rfl ?_); refine goesL_ (some 30) rfl rfl Try.func64 (by kernel_rfl) rfl #[.slice (some ⟨go37, 0, none⟩) y214.length co37] rfl (by (try simp only [List.map_toArray, List.map_cons, List.map_nil]); first | done | (rw [show y214.length = y200.length from (Kd.R_reads' HO202.out).1.symm] <;> rfl) | rfl | (simp only [List.length_drop, List.length_take]; rfl)) ?_; (with_reducible refine (spec_l07Ok.calls k _ _ y214 true _ ?side1 ?side2 A38.out).mono ?_); (case side1 => repeat (first | exact (Kd.R_reads' HO202.out).2.2 | (with_reducible refine Kd.C_alloc ?_ _) | (with_reducible refine Kd.C_drewN ?_ _) | (with_reducible refine Kd.C_drew ?_))); (case side2 => rw [show y214.length = y200.length from (Kd.R_reads' HO202.out).1.symm]; exact (Kd.R_reads' HO202.out).2.1); rintro e w47 ⟨rfl, hb⟩; refine ⟨_, rfl, ?_⟩; have n0_ := Aside0.mk (Kd.R_below (by (with_reducible repeat (first | apply Kd.R_alloc | apply Kd.R_drewN | apply Kd.R_drew)); exact HO202.out) hb); have n1_ := Aside0.mk (blk_below (g := gb196) (o := .cells #[.string a1_0, .int .i8 a1_1, .string a1_2, .string a1_3, .int .i64 a1_4, .int .i64 a1_5] 45 (0, 0)) (by (with_reducible repeat (first | refine blk_drewN ?_ _ | refine blk_drew ?_ | refine blk_alloc ?_ _)); exact BK196.out) hb); have n2_ := Aside0.mk (below_step (by repeat (first | (with_reducible first | exact HB.out | apply below_alloc | apply pw_below_drewN | apply below_drew1 | refine below_set ?_ GE196.out) | exact HB.out)) hb); clear HO202; clear BK196; clear HB; have HO202 := n0_; have BK196 := n1_; have HB := n2_; clear n0_ n1_ n2_; (try clear hb); (try clear hb2); (try clear hk); (try clear hi)))
      go_ret2
      exact ⟨_, by first | rfl | (simp [errW_none, errW_some] <;> rfl) | (simp [*, errW_none, errW_some] <;> rfl), by (with_reducible repeat (first | apply Kd.R_alloc | apply Kd.R_drewN | apply Kd.R_drew)); exact Kd.R_mono HO202.out (fun _ hk => trivial), by repeat (first | (with_reducible first | exact HB.out | apply below_alloc | apply pw_below_drewN | apply below_drew1 | refine below_set ?_ GE196.out) | exact HB.out)⟩
     ·
      replace c39 := Bool.eq_false_iff.mpr c39
      subst c39
      have H1 : (some ((([] : List (S45))), 4)) = some (r1, r2) := by first | (rw [if_neg (show ¬ (false = true) by decide)] at H; exact H) | rfl
      clear H
      have H := H1
      clear H1
      obtain ⟨y216, hy216⟩ : ∃ y_ : List (S45), y_ = (([] : List (S45))) := ⟨_, rfl⟩
      replace H : (some (y216, 4)) = some (r1, r2) := by first | (rw [hy216]; with_reducible exact H) | (have H2_ := (Option.bind_some _ _).symm.trans H; rw [hy216]; with_reducible exact H2_) | (have H2_ := (Option.bind_some _ _).symm.trans H; with_reducible exact H2_) | with_reducible exact H | (rw [hy216]; exact H) | exact H
      have Ny216 := Aside0.mk hy216
      clear hy216
      simp only [Option.some.injEq, Prod.mk.injEq] at H
      obtain ⟨rfl, rfl⟩ := H
      go_enter Try.func77, Try.ntmps77
      go_wp2_with (first | ((with_reducible refine gate_dst (N := 3) rfl ?_); refine box_event ?hg (N := 3) ?hd (cs := #[.string a1_0, .int .i8 a1_1, .string a1_2, .string a1_3, .int .i64 a1_4, .int .i64 a1_5]) (t := 45) ?hr ?_; (case hd => rfl); (case hg => rfl); (case hr => first | (go_simp; done) | (go_simp; rfl)); intro gb196 hg w48 hbox hb; have n0_ := Aside0.mk (below_step (by repeat (first | (with_reducible first | exact HB.out | apply below_alloc | apply pw_below_drewN | apply below_drew1) | exact HB.out)) hb); have n1_ := Aside0.mk (hbox); have n2_ := Aside0.mk ((by rw [hg]; exact (below_size (by repeat (first | (with_reducible first | exact HB.out | apply below_alloc | apply pw_below_drewN | apply below_drew1) | exact HB.out))) : w.heap.size ≤ gb196)); have n3_ := Aside0.mk ((by rw [hg]; exact (below_size (by repeat (first | (with_reducible first | exact HB.out | apply below_alloc | apply pw_below_drewN | apply below_drew1) | exact HB.out))) : w.heap.size ≤ gb196)); clear HB; have HB := n0_; have BK196 := n1_; have GW196 := n2_; have GE196 := n3_; clear n0_ n1_ n2_ n3_; clear hb hbox hg) | ((with_reducible refine gate_dst (N := 8) rfl ?_); refine Kd.R_lit k45 _ 45 ?hg (N := 8) ?hd (xs := ([] : List (S45))) (inner := []) (ok := fun _ => True) (okp := fun _ => True) ?hr ?hp (fun _ hk => hk) trivial (Below.refl _ _) (Nat.le_refl _) (by simp) ?_; (case hd => rfl); (case hg => rfl); (case hr => first | (go_simp; done) | (go_simp; rfl)); (case hp => exact (Reps.none _ _)); intro v198 w49 ho50 hb hg_ hnew_; clear hg_ hnew_; (first | rw [← Ny197.out] at ho50 | (simp only [Int.reduceToNat] at ho50; rw [← Ny197.out] at ho50)); have n0_ := Aside0.mk (Kd.R_lower (Kd.R_newB ho50 (g := gb196) (o := .cells #[.string a1_0, .int .i8 a1_1, .string a1_2, .string a1_3, .int .i64 a1_4, .int .i64 a1_5] 45 (0, 0)) (by (with_reducible repeat (first | refine blk_drewN ?_ _ | refine blk_drew ?_ | refine blk_alloc ?_ _)); exact BK196.out)) (below_size (by repeat (first | (with_reducible first | exact HB.out | apply below_alloc | apply pw_below_drewN | apply below_drew1 | refine below_set ?_ GE196.out) | exact HB.out)))); have n1_ := Aside0.mk (blk_below (g := gb196) (o := .cells #[.string a1_0, .int .i8 a1_1, .string a1_2, .string a1_3, .int .i64 a1_4, .int .i64 a1_5] 45 (0, 0)) (by (with_reducible repeat (first | refine blk_drewN ?_ _ | refine blk_drew ?_ | refine blk_alloc ?_ _)); exact BK196.out) hb); have n2_ := Aside0.mk (below_step (by repeat (first | (with_reducible first | exact HB.out | apply below_alloc | apply pw_below_drewN | apply below_drew1 | refine below_set ?_ GE196.out) | exact HB.out)) hb); clear BK196; clear HB; have HO199 := n0_; have BK196 := n1_; have HB := n2_; clear n0_ n1_ n2_; clear hb ho50) | ((with_reducible refine gate_builtin (b := .append) (xs := #[.tmp 8, .tmp 9]) rfl ?_); at_builtin; refine Kd.R_append_rows k45 (w0 := w) w.heap.size rfl (.tmp 8) (.tmp 9) 25 45 (.agg #[(.string ⟨#[]⟩), (.int .i8 0), (.string ⟨#[]⟩), (.string ⟨#[]⟩), (.int .i64 0), (.int .i64 0)]) 72 rfl Try.underlying25 info45 rfl (by decide) (by omega) v198 y197 l0 _ _ _ (fun k_ => k_ ≠ gb196) (fun _ => False) rfl rfl ?aO ?aR (fun _ _ h => h) (fun _ h => h.elim) ?aF ?aB ?aS ?aL ?_; (case aR => repeat (first | exact (Kd.C_below HR0.out HB.out) | (with_reducible refine Kd.C_alloc ?_ _) | (with_reducible refine Kd.C_drewN ?_ _) | (with_reducible refine Kd.C_drew ?_))); (case aB => exact (by repeat (first | (with_reducible first | exact HB.out | apply below_alloc | apply pw_below_drewN | apply below_drew1 | refine below_set ?_ GE196.out) | exact HB.out))); (case aF => exact (fun k_ hk => Kd.freshB (g := gb196) (o := .cells #[.string a1_0, .int .i8 a1_1, .string a1_2, .string a1_3, .int .i64 a1_4, .int .i64 a1_5] 45 (0, 0)) (by (with_reducible repeat (first | refine blk_drewN ?_ _ | refine blk_drew ?_ | refine blk_alloc ?_ _)); exact BK196.out) k_ hk)); (case aO => exact (by (with_reducible repeat (first | apply Kd.R_alloc | apply Kd.R_drewN | apply Kd.R_drew)); exact Kd.R_mono HO199.out (fun _ hk => hk.2))); (case aS => exact (below_size (by repeat (first | (with_reducible first | exact HB.out | apply below_alloc | apply pw_below_drewN | apply below_drew1 | refine below_set ?_ GE196.out) | exact HB.out)))); (case aL => have := LMc3.out; omega); intro v201 w51 ho hb hg hat; rw [← Ny200.out] at ho; have n0_ := Aside0.mk (blk_grown (g := gb196) (o := .cells #[.string a1_0, .int .i8 a1_1, .string a1_2, .string a1_3, .int .i64 a1_4, .int .i64 a1_5] 45 (0, 0)) (by (with_reducible repeat (first | refine blk_drewN ?_ _ | refine blk_drew ?_ | refine blk_alloc ?_ _)); exact BK196.out) hg (Kd.R_away HO199.out (fun _ hk => hk.2))); have n1_ := Aside0.mk (hb); have n2_ := Aside0.mk (ho); clear BK196; clear HB; clear HO199; have BK196 := n0_; have HB := n1_; have HO202 := n2_; clear n0_ n1_ n2_; clear ho hb hg hat; have hcz52_0 : w51.cell? ⟨gb196, 0, none⟩ = some (.string a1_0) := (blk_cell BK196.out 0).trans rfl; have hcz52_1 : w51.cell? ⟨gb196, 1, none⟩ = some (.int .i8 a1_1) := (blk_cell BK196.out 1).trans rfl; have hcz52_2 : w51.cell? ⟨gb196, 2, none⟩ = some (.string a1_2) := (blk_cell BK196.out 2).trans rfl; have hcz52_3 : w51.cell? ⟨gb196, 3, none⟩ = some (.string a1_3) := (blk_cell BK196.out 3).trans rfl; have hcz52_4 : w51.cell? ⟨gb196, 4, none⟩ = some (.int .i64 a1_4) := (blk_cell BK196.out 4).trans rfl; have hcz52_5 : w51.cell? ⟨gb196, 5, none⟩ = some (.int .i64 a1_5) := (blk_cell BK196.out 5).trans rfl; have hfz52_0 := blk_frozen BK196.out 0; have hfz52_1 := blk_frozen BK196.out 1; have hfz52_2 := blk_frozen BK196.out 2; have hfz52_3 := blk_frozen BK196.out 3; have hfz52_4 := blk_frozen BK196.out 4; have hfz52_5 := blk_frozen BK196.out 5) | ((with_reducible refine gate_callee (f := 89) rfl ?_); refine goesL_ (some 14) rfl rfl Try.func89 (by kernel_rfl) rfl #[.slice A0 l0.length c0, .string a1_0] rfl (by (try simp only [List.map_toArray, List.map_cons, List.map_nil]); first | done | rfl | (simp only [List.length_drop, List.length_take]; rfl)) ?_; (with_reducible refine (spec_l07Find.calls k _ _ l0 a1_0 t203 _ ?side1 ?side2 A4.out).mono ?_); (case side1 => repeat (first | exact (Kd.C_below HR0.out HB.out) | (with_reducible refine Kd.C_alloc ?_ _) | (with_reducible refine Kd.C_drewN ?_ _) | (with_reducible refine Kd.C_drew ?_))); (case side2 => exact HC0.out); rintro e w' ⟨rfl, ⟨nd, rfl⟩⟩; refine ⟨_, rfl, ?_⟩; (try (rw [drewN_self w51]; generalize hq_ : World.drewN w51 _ = w51; have n0_ : Aside0 (Kd.R k45 45 w51 w.heap.size (fun k_ => k_ ≠ gb196) v201 y200) := ⟨by rw [← hq_]; exact (by (with_reducible repeat (first | apply Kd.R_alloc | apply Kd.R_drewN | apply Kd.R_drew)); exact HO202.out)⟩; have n1_ : Aside0 (w51.heap[gb196]? = some (.cells #[.string a1_0, .int .i8 a1_1, .string a1_2, .string a1_3, .int .i64 a1_4, .int .i64 a1_5] 45 (0, 0))) := ⟨by rw [← hq_]; exact (by (with_reducible repeat (first | refine blk_drewN ?_ _ | refine blk_drew ?_ | refine blk_alloc ?_ _)); exact BK196.out)⟩; have n2_ : Aside0 (Below w.heap.size w w51) := ⟨by rw [← hq_]; exact (by repeat (first | (with_reducible first | exact HB.out | apply below_alloc | apply pw_below_drewN | apply below_drew1 | refine below_set ?_ GE196.out) | exact HB.out))⟩; clear HO202 BK196 HB hq_; have HO202 := n0_; have BK196 := n1_; have HB := n2_; clear n0_ n1_ n2_)); (try (have hcz52_0 : w51.cell? ⟨gb196, 0, none⟩ = some (.string a1_0) := (blk_cell BK196.out 0).trans rfl; have hcz52_1 : w51.cell? ⟨gb196, 1, none⟩ = some (.int .i8 a1_1) := (blk_cell BK196.out 1).trans rfl; have hcz52_2 : w51.cell? ⟨gb196, 2, none⟩ = some (.string a1_2) := (blk_cell BK196.out 2).trans rfl; have hcz52_3 : w51.cell? ⟨gb196, 3, none⟩ = some (.string a1_3) := (blk_cell BK196.out 3).trans rfl; have hcz52_4 : w51.cell? ⟨gb196, 4, none⟩ = some (.int .i64 a1_4) := (blk_cell BK196.out 4).trans rfl; have hcz52_5 : w51.cell? ⟨gb196, 5, none⟩ = some (.int .i64 a1_5) := (blk_cell BK196.out 5).trans rfl; have hfz52_0 := blk_frozen BK196.out 0; have hfz52_1 := blk_frozen BK196.out 1; have hfz52_2 := blk_frozen BK196.out 2; have hfz52_3 := blk_frozen BK196.out 3; have hfz52_4 := blk_frozen BK196.out 4; have hfz52_5 := blk_frozen BK196.out 5)); have p37 : 0 ≤ (t203 : Int) := of_decide_eq_true (by assumption); have q37 : (t203 : Int) < ((y200.length : Int) : Int) := of_decide_eq_true (by assumption); obtain ⟨go37, co37, eo37, gb37, gl37, cl37, HG37⟩ := Kd.R_form HO202.out (by omega); (first | cases eo37 | (injection eo37 with ea_ en_ ec_; (first | subst ea_ | (injection ea_ with ea_; subst ea_)); subst ec_; clear en_)); have GB37 := Aside0.mk gb37; have GG37 := Aside0.mk HG37; clear gb37 gl37 HG37; obtain ⟨ce37, hcl37, hM37, hcc37, hfr37⟩ := Kd.R_elem HO202.out z45 (t203 : Int) p37 q37; obtain rfl := k45_openM hM37; have hx37_0 : w51.cell? ⟨go37, (t203 : Int).toNat * 6, none⟩ = some (.string ((rd_T45 y200 t203).f0)) := hcc37 0 _ rfl; have hx37_1 : w51.cell? ⟨go37, (t203 : Int).toNat * 6 + 1, none⟩ = some (.int .i8 ((rd_T45 y200 t203).f1)) := hcc37 1 _ rfl; have hx37_2 : w51.cell? ⟨go37, (t203 : Int).toNat * 6 + 2, none⟩ = some (.string ((rd_T45 y200 t203).f2)) := hcc37 2 _ rfl; have hx37_3 : w51.cell? ⟨go37, (t203 : Int).toNat * 6 + 3, none⟩ = some (.string ((rd_T45 y200 t203).f3)) := hcc37 3 _ rfl; have hx37_4 : w51.cell? ⟨go37, (t203 : Int).toNat * 6 + 4, none⟩ = some (.int .i64 ((rd_T45 y200 t203).f4)) := hcc37 4 _ rfl; have hx37_5 : w51.cell? ⟨go37, (t203 : Int).toNat * 6 + 5, none⟩ = some (.int .i64 ((rd_T45 y200 t203).f5)) := hcc37 5 _ rfl; have hf37_0 : w51.frozen? ⟨go37, (t203 : Int).toNat * 6, none⟩ = false := hfr37 0; have hf37_1 : w51.frozen? ⟨go37, (t203 : Int).toNat * 6 + 1, none⟩ = false := hfr37 1; have hf37_2 : w51.frozen? ⟨go37, (t203 : Int).toNat * 6 + 2, none⟩ = false := hfr37 2; have hf37_3 : w51.frozen? ⟨go37, (t203 : Int).toNat * 6 + 3, none⟩ = false := hfr37 3; have hf37_4 : w51.frozen? ⟨go37, (t203 : Int).toNat * 6 + 4, none⟩ = false := hfr37 4; have hf37_5 : w51.frozen? ⟨go37, (t203 : Int).toNat * 6 + 5, none⟩ = false := hfr37 5; clear hcl37 hcc37 hfr37 hM37; replace p37 := eq_true p37; replace q37 := eq_true q37; have HX53 := Aside0.mk (show Kd.R k45 45 w51 w.heap.size (fun k_ => k_ ≠ gb196) (.slice (some ⟨go37, 0, none⟩) y200.length co37) y200 from (by (with_reducible repeat (first | apply Kd.R_alloc | apply Kd.R_drewN | apply Kd.R_drew)); exact HO202.out)); obtain ⟨ce53, hcl53, hM53, hcc53, hfr53⟩ := Kd.R_elem HX53.out z45 (t203 : Int) (of_decide_eq_true (by assumption)) (by have h_ : (t203 : Int) < ((y200.length : Int) : Int) := of_decide_eq_true (by assumption); first | exact h_ | (have e_ := (Kd.R_reads' HO202.out).1; omega) | simpa using h_); obtain rfl := k45_openM hM53; have HP53 := Kd.R_seg HX53.out (t203 : Int) (of_decide_eq_true (by assumption)) (by have h_ : (t203 : Int) < ((y200.length : Int) : Int) := of_decide_eq_true (by assumption); first | exact h_ | (have e_ := (Kd.R_reads' HO202.out).1; omega) | simpa using h_) (seg := [.string a1_0, .int .i8 a1_1, .string a1_2, .string a1_3, .int .i64 a1_4, .int .i64 a1_5]) (j := 0) hcl53 hcc53 (show 6 ≤ 6 from by decide) (x' := (⟨a1_0, a1_1, a1_2, a1_3, a1_4, a1_5⟩ : S45)) (k45_mkM _ _ _ (⟨a1_0, a1_1, a1_2, a1_3, a1_4, a1_5⟩ : S45) ) (fun _ hk => hk); have hx53_0 := hcc53 0 _ rfl; (try simp only [show (k45).sz = 6 from rfl, Nat.mul_one, Nat.add_zero] at hx53_0); have hf53_0 := hfr53 0; (try simp only [show (k45).sz = 6 from rfl, Nat.mul_one, Nat.add_zero] at hf53_0); have hx53_1 := hcc53 1 _ rfl; (try simp only [show (k45).sz = 6 from rfl, Nat.mul_one, Nat.add_zero] at hx53_1); have hf53_1 := hfr53 1; (try simp only [show (k45).sz = 6 from rfl, Nat.mul_one, Nat.add_zero] at hf53_1); have hx53_2 := hcc53 2 _ rfl; (try simp only [show (k45).sz = 6 from rfl, Nat.mul_one, Nat.add_zero] at hx53_2); have hf53_2 := hfr53 2; (try simp only [show (k45).sz = 6 from rfl, Nat.mul_one, Nat.add_zero] at hf53_2); have hx53_3 := hcc53 3 _ rfl; (try simp only [show (k45).sz = 6 from rfl, Nat.mul_one, Nat.add_zero] at hx53_3); have hf53_3 := hfr53 3; (try simp only [show (k45).sz = 6 from rfl, Nat.mul_one, Nat.add_zero] at hf53_3); have hx53_4 := hcc53 4 _ rfl; (try simp only [show (k45).sz = 6 from rfl, Nat.mul_one, Nat.add_zero] at hx53_4); have hf53_4 := hfr53 4; (try simp only [show (k45).sz = 6 from rfl, Nat.mul_one, Nat.add_zero] at hf53_4); have hx53_5 := hcc53 5 _ rfl; (try simp only [show (k45).sz = 6 from rfl, Nat.mul_one, Nat.add_zero] at hx53_5); have hf53_5 := hfr53 5; (try simp only [show (k45).sz = 6 from rfl, Nat.mul_one, Nat.add_zero] at hf53_5); clear hcl53 hcc53 hfr53 hM53) | ((with_reducible refine gate_store (t := 45) (p := 28) rfl ?_); refine store_event (t := 45) (p := 28) (v := ?vo_w54) (w1 := ((((((w51.setCell ⟨go37, (t203 : Int).toNat * 6, none⟩ (.string a1_0)).setCell ⟨go37, (t203 : Int).toNat * 6 + 1, none⟩ (.int .i8 a1_1)).setCell ⟨go37, (t203 : Int).toNat * 6 + 2, none⟩ (.string a1_2)).setCell ⟨go37, (t203 : Int).toNat * 6 + 3, none⟩ (.string a1_3)).setCell ⟨go37, (t203 : Int).toNat * 6 + 4, none⟩ (.int .i64 a1_4)).setCell ⟨go37, (t203 : Int).toNat * 6 + 5, none⟩ (.int .i64 a1_5))) ?hg ?ho ?hn ?hr ?_; (case ho => rfl); (case hg => rfl); (case hn => rfl); (case hr => first | (go_simp; done) | (go_simp; rfl)); intro w54 hw; have hg : w51.grownBy w54 (some go37) := (by rw [hw]; exact HP53.2); have hp_ : Kd.R k45 45 w54 w.heap.size (fun k_ => k_ ≠ gb196) (.slice (some ⟨go37, 0, none⟩) y200.length co37) y214 := (by rw [hw, Ny214.out]; exact HP53.1); clear HP53; have n0_ := Aside0.mk (blk_grown (g := gb196) (o := .cells #[.string a1_0, .int .i8 a1_1, .string a1_2, .string a1_3, .int .i64 a1_4, .int .i64 a1_5] 45 (0, 0)) (by (with_reducible repeat (first | refine blk_drewN ?_ _ | refine blk_drew ?_ | refine blk_alloc ?_ _)); exact BK196.out) hg (Kd.R_away HO202.out (fun _ hk => hk))); have n1_ := Aside0.mk (hp_); have n2_ := Aside0.mk ((by rw [hw]; exact below_set (below_set (below_set (below_set (below_set (below_set (HB.out) GB37.out) GB37.out) GB37.out) GB37.out) GB37.out) GB37.out : Below w.heap.size w w54)); clear BK196; clear HO202; clear HB; have BK196 := n0_; have HO202 := n1_; have HB := n2_; clear n0_ n1_ n2_; clear hg hw hp_) | ((with_reducible refine gate_callee (f := 64) rfl ?_); refine goesL_ (some 30) rfl rfl Try.func64 (by kernel_rfl) rfl #[.slice (some ⟨go37, 0, none⟩) y214.length co37] rfl (by (try simp only [List.map_toArray, List.map_cons, List.map_nil]); first | done | (rw [show y214.length = y200.length from (Kd.R_reads' HO202.out).1.symm] <;> rfl) | rfl | (simp only [List.length_drop, List.length_take]; rfl)) ?_; (with_reducible refine (spec_l07Ok.calls k _ _ y214 false _ ?side1 ?side2 A38.out).mono ?_); (case side1 => repeat (first | exact (Kd.R_reads' HO202.out).2.2 | (with_reducible refine Kd.C_alloc ?_ _) | (with_reducible refine Kd.C_drewN ?_ _) | (with_reducible refine Kd.C_drew ?_))); (case side2 => rw [show y214.length = y200.length from (Kd.R_reads' HO202.out).1.symm]; exact (Kd.R_reads' HO202.out).2.1); rintro e w55 ⟨rfl, hb⟩; refine ⟨_, rfl, ?_⟩; have n0_ := Aside0.mk (Kd.R_below (by (with_reducible repeat (first | apply Kd.R_alloc | apply Kd.R_drewN | apply Kd.R_drew)); exact HO202.out) hb); have n1_ := Aside0.mk (blk_below (g := gb196) (o := .cells #[.string a1_0, .int .i8 a1_1, .string a1_2, .string a1_3, .int .i64 a1_4, .int .i64 a1_5] 45 (0, 0)) (by (with_reducible repeat (first | refine blk_drewN ?_ _ | refine blk_drew ?_ | refine blk_alloc ?_ _)); exact BK196.out) hb); have n2_ := Aside0.mk (below_step (by repeat (first | (with_reducible first | exact HB.out | apply below_alloc | apply pw_below_drewN | apply below_drew1 | refine below_set ?_ GE196.out) | exact HB.out)) hb); clear HO202; clear BK196; clear HB; have HO202 := n0_; have BK196 := n1_; have HB := n2_; clear n0_ n1_ n2_; (try clear hb); (try clear hb2); (try clear hk); (try clear hi)) | ((with_reducible refine gate_dst (N := 32) rfl ?_); refine Kd.R_lit k45 _ 45 ?hg (N := 32) ?hd (xs := ([] : List (S45))) (inner := []) (ok := fun _ => True) (okp := fun _ => True) ?hr ?hp (fun _ hk => hk) trivial (Below.refl _ _) (Nat.le_refl _) (by simp) ?_; (case hd => rfl); (case hg => rfl); (case hr => first | (go_simp; done) | (go_simp; rfl)); (case hp => exact (Reps.none _ _)); intro v217 w56 ho57 hb hg_ hnew_; clear hg_ hnew_; (first | rw [← Ny216.out] at ho57 | (simp only [Int.reduceToNat] at ho57; rw [← Ny216.out] at ho57)); have n0_ := Aside0.mk (Kd.R_elder' (by (with_reducible repeat (first | apply Kd.R_alloc | apply Kd.R_drewN | apply Kd.R_drew)); exact HO202.out) (Kd.R_base ho57) hb); have n1_ := Aside0.mk (Kd.R_lower (Kd.R_newB (Kd.R_new' ho57 (Kd.R_lt (by (with_reducible repeat (first | apply Kd.R_alloc | apply Kd.R_drewN | apply Kd.R_drew)); exact HO202.out))) (g := gb196) (o := .cells #[.string a1_0, .int .i8 a1_1, .string a1_2, .string a1_3, .int .i64 a1_4, .int .i64 a1_5] 45 (0, 0)) (by (with_reducible repeat (first | refine blk_drewN ?_ _ | refine blk_drew ?_ | refine blk_alloc ?_ _)); exact BK196.out)) (below_size (by repeat (first | (with_reducible first | exact HB.out | apply below_alloc | apply pw_below_drewN | apply below_drew1 | refine below_set ?_ GE196.out) | exact HB.out)))); have n2_ := Aside0.mk (blk_below (g := gb196) (o := .cells #[.string a1_0, .int .i8 a1_1, .string a1_2, .string a1_3, .int .i64 a1_4, .int .i64 a1_5] 45 (0, 0)) (by (with_reducible repeat (first | refine blk_drewN ?_ _ | refine blk_drew ?_ | refine blk_alloc ?_ _)); exact BK196.out) hb); have n3_ := Aside0.mk (below_step (by repeat (first | (with_reducible first | exact HB.out | apply below_alloc | apply pw_below_drewN | apply below_drew1 | refine below_set ?_ GE196.out) | exact HB.out)) hb); clear HO202; clear BK196; clear HB; have HO202 := n0_; have HO218 := n1_; have BK196 := n2_; have HB := n3_; clear n0_ n1_ n2_ n3_; clear hb ho57))
      go_ret2
      exact ⟨_, by first | rfl | (simp [errW_none, errW_some] <;> rfl) | (simp [*, errW_none, errW_some] <;> rfl), by (with_reducible repeat (first | apply Kd.R_alloc | apply Kd.R_drewN | apply Kd.R_drew)); exact Kd.R_mono HO218.out (fun _ hk => trivial), by repeat (first | (with_reducible first | exact HB.out | apply below_alloc | apply pw_below_drewN | apply below_drew1 | refine below_set ?_ GE196.out) | exact HB.out)⟩
    ·
     rw [if_neg c36] at H
     exact absurd H (by simp)
   ·
    rw [if_neg c35] at H
    exact absurd H (by simp)
 ·
  rw [if_neg c3] at H
  exact absurd H (by simp)
/-! ### spec_WriteLine: function 30 -/
def spec_WriteLine.f (k : Nat) (l0 : List (S45)) (a1_0 : ByteArray) (a1_1 : Int) (a1_2 : ByteArray) (a1_3 : ByteArray) (a1_4 : Int) (a1_5 : Int) : Option ((List (S45)) × Int) := (spec_l07Ok.f k l0).bind fun t220 => (if t220 = true then ((spec_l07Write.f k l0 a1_0 a1_1 a1_2 a1_3 a1_4 a1_5).bind fun bt221 => (some (bt221.1, bt221.2))) else (some ((([] : List (S45))), 1)))
theorem spec_WriteLine.mono : ∀ a0 a1 a2 a3 a4 a5 a6 k, LeO (spec_WriteLine.f k a0 a1 a2 a3 a4 a5 a6) (spec_WriteLine.f (k + 1) a0 a1 a2 a3 a4 a5 a6) := by
 intro a0 a1 a2 a3 a4 a5 a6 k
 unfold spec_WriteLine.f
 repeat' first
   | (with_reducible exact spec_l07Ok.mono _ _)
   | (with_reducible exact spec_l07Write.mono _ _ _ _ _ _ _ _)
   | (with_reducible exact LeO.refl _)
   | (with_reducible exact LeO.none _)
   | (with_reducible refine LeO.ite ?_ ?_)
   | (with_reducible refine LeO.bind ?_ (fun _ => ?_))
   | exact LeO.none _
   | refine LeO.ite ?_ ?_
   | refine LeO.bind ?_ (fun _ => ?_)
set_option maxHeartbeats 8000000 in
set_option maxRecDepth 100000 in
theorem spec_WriteLine.calls (k : Nat) (A0 : Option Addr) (c0 : Nat) (l0 : List (S45)) (a1_0 : ByteArray) (a1_1 : Int) (a1_2 : ByteArray) (a1_3 : ByteArray) (a1_4 : Int) (a1_5 : Int) (r1 : List (S45)) (r2 : Int) (w : World) (hr0 : Kd.C k45 w A0 l0.length l0) (hc0 : l0.length ≤ c0) (h : spec_WriteLine.f k l0 a1_0 a1_1 a1_2 a1_3 a1_4 a1_5 = some (r1, r2)) :
  Calls Try.prog 30 #[.slice A0 l0.length c0, .agg #[.string a1_0, .int .i8 a1_1, .string a1_2, .string a1_3, .int .i64 a1_4, .int .i64 a1_5]] w fun e w' => ∃ v0_ : Value, e = .returned (.tuple #[v0_, .int .i64 r2]) ∧ Kd.R k45 45 w' w.heap.size (fun _ => True) v0_ r1 ∧ Below w.heap.size w w' := by
 have hu45 := Try.underlying45
 have HR0 := Aside0.mk hr0
 have HC0 := Aside0.mk hc0
 clear hr0 hc0
 have HB := Aside0.mk (Below.refl w.heap.size w)
 have H : ((spec_l07Ok.f k l0).bind fun t220 => (if t220 = true then ((spec_l07Write.f k l0 a1_0 a1_1 a1_2 a1_3 a1_4 a1_5).bind fun bt221 => (some (bt221.1, bt221.2))) else (some ((([] : List (S45))), 1)))) = some (r1, r2) := h
 clear h
 replace H := Option.bind_eq_some_iff.mp H
 obtain ⟨t220, A30, H⟩ := H
 replace H : (if t220 = true then ((spec_l07Write.f k l0 a1_0 a1_1 a1_2 a1_3 a1_4 a1_5).bind fun bt221 => (some (bt221.1, bt221.2))) else (some ((([] : List (S45))), 1))) = some (r1, r2) := H
 have A3 := Aside0.mk A30
 clear A30
 by_cases c4 : t220 = true
 ·
  subst c4
  have H1 : ((spec_l07Write.f k l0 a1_0 a1_1 a1_2 a1_3 a1_4 a1_5).bind fun bt221 => (some (bt221.1, bt221.2))) = some (r1, r2) := by first | (rw [if_pos rfl] at H; exact H) | rfl
  clear H
  have H := H1
  clear H1
  replace H := Option.bind_eq_some_iff.mp H
  obtain ⟨⟨t221, t224⟩, A50, H⟩ := H
  replace H : (some (t221, t224)) = some (r1, r2) := H
  have A5 := Aside0.mk A50
  clear A50
  simp only [Option.some.injEq, Prod.mk.injEq] at H
  obtain ⟨rfl, rfl⟩ := H
  go_enter Try.func30, Try.ntmps30
  go_wp2_with (first | ((with_reducible refine gate_dst (N := 3) rfl ?_); refine box_event ?hg (N := 3) ?hd (cs := #[.string a1_0, .int .i8 a1_1, .string a1_2, .string a1_3, .int .i64 a1_4, .int .i64 a1_5]) (t := 45) ?hr ?_; (case hd => rfl); (case hg => rfl); (case hr => first | (go_simp; done) | (go_simp; rfl)); intro gb219 hg w6 hbox hb; have n0_ := Aside0.mk (below_step (by repeat (first | (with_reducible first | exact HB.out | apply below_alloc | apply pw_below_drewN | apply below_drew1) | exact HB.out)) hb); have n1_ := Aside0.mk (hbox); have n2_ := Aside0.mk ((by rw [hg]; exact (below_size (by repeat (first | (with_reducible first | exact HB.out | apply below_alloc | apply pw_below_drewN | apply below_drew1) | exact HB.out))) : w.heap.size ≤ gb219)); have n3_ := Aside0.mk ((by rw [hg]; exact (below_size (by repeat (first | (with_reducible first | exact HB.out | apply below_alloc | apply pw_below_drewN | apply below_drew1) | exact HB.out))) : w.heap.size ≤ gb219)); clear HB; have HB := n0_; have BK219 := n1_; have GW219 := n2_; have GE219 := n3_; clear n0_ n1_ n2_ n3_; clear hb hbox hg) | ((with_reducible refine gate_callee (f := 64) rfl ?_); refine goesL_ (some 7) rfl rfl Try.func64 (by kernel_rfl) rfl #[.slice A0 l0.length c0] rfl (by (try simp only [List.map_toArray, List.map_cons, List.map_nil]); first | done | rfl | (simp only [List.length_drop, List.length_take]; rfl)) ?_; (with_reducible refine (spec_l07Ok.calls k _ _ l0 true _ ?side1 ?side2 A3.out).mono ?_); (case side1 => repeat (first | exact (Kd.C_below HR0.out HB.out) | (with_reducible refine Kd.C_alloc ?_ _) | (with_reducible refine Kd.C_drewN ?_ _) | (with_reducible refine Kd.C_drew ?_))); (case side2 => exact HC0.out); rintro e w7 ⟨rfl, hb⟩; refine ⟨_, rfl, ?_⟩; have n0_ := Aside0.mk (blk_below (g := gb219) (o := .cells #[.string a1_0, .int .i8 a1_1, .string a1_2, .string a1_3, .int .i64 a1_4, .int .i64 a1_5] 45 (0, 0)) (by (with_reducible repeat (first | refine blk_drewN ?_ _ | refine blk_drew ?_ | refine blk_alloc ?_ _)); exact BK219.out) hb); have n1_ := Aside0.mk (below_step (by repeat (first | (with_reducible first | exact HB.out | apply below_alloc | apply pw_below_drewN | apply below_drew1 | refine below_set ?_ GE219.out) | exact HB.out)) hb); clear BK219; clear HB; have BK219 := n0_; have HB := n1_; clear n0_ n1_; (try clear hb); (try clear hb2); (try clear hk); (try clear hi); have hcz8_0 : w7.cell? ⟨gb219, 0, none⟩ = some (.string a1_0) := (blk_cell BK219.out 0).trans rfl; have hcz8_1 : w7.cell? ⟨gb219, 1, none⟩ = some (.int .i8 a1_1) := (blk_cell BK219.out 1).trans rfl; have hcz8_2 : w7.cell? ⟨gb219, 2, none⟩ = some (.string a1_2) := (blk_cell BK219.out 2).trans rfl; have hcz8_3 : w7.cell? ⟨gb219, 3, none⟩ = some (.string a1_3) := (blk_cell BK219.out 3).trans rfl; have hcz8_4 : w7.cell? ⟨gb219, 4, none⟩ = some (.int .i64 a1_4) := (blk_cell BK219.out 4).trans rfl; have hcz8_5 : w7.cell? ⟨gb219, 5, none⟩ = some (.int .i64 a1_5) := (blk_cell BK219.out 5).trans rfl; have hfz8_0 := blk_frozen BK219.out 0; have hfz8_1 := blk_frozen BK219.out 1; have hfz8_2 := blk_frozen BK219.out 2; have hfz8_3 := blk_frozen BK219.out 3; have hfz8_4 := blk_frozen BK219.out 4; have hfz8_5 := blk_frozen BK219.out 5) | ((with_reducible refine gate_callee (f := 77) rfl ?_); refine goesL_ (some 12) rfl rfl Try.func77 (by kernel_rfl) rfl #[.slice A0 l0.length c0, .agg #[.string a1_0, .int .i8 a1_1, .string a1_2, .string a1_3, .int .i64 a1_4, .int .i64 a1_5]] rfl (by (try simp only [List.map_toArray, List.map_cons, List.map_nil]); first | done | rfl | (simp only [List.length_drop, List.length_take]; rfl)) ?_; (with_reducible refine (spec_l07Write.calls k _ _ l0 a1_0 a1_1 a1_2 a1_3 a1_4 a1_5 t221 t224 _ ?side1 ?side2 A5.out).mono ?_); (case side1 => repeat (first | exact (Kd.C_below HR0.out HB.out) | (with_reducible refine Kd.C_alloc ?_ _) | (with_reducible refine Kd.C_drewN ?_ _) | (with_reducible refine Kd.C_drew ?_))); (case side2 => exact HC0.out); rintro e w9 ⟨v222, rfl, ho0, hb⟩; refine ⟨_, rfl, ?_⟩; have n0_ := Aside0.mk (Kd.R_lower (Kd.R_newB ho0 (g := gb219) (o := .cells #[.string a1_0, .int .i8 a1_1, .string a1_2, .string a1_3, .int .i64 a1_4, .int .i64 a1_5] 45 (0, 0)) (by (with_reducible repeat (first | refine blk_drewN ?_ _ | refine blk_drew ?_ | refine blk_alloc ?_ _)); exact BK219.out)) (below_size (by repeat (first | (with_reducible first | exact HB.out | apply below_alloc | apply pw_below_drewN | apply below_drew1 | refine below_set ?_ GE219.out) | exact HB.out)))); have n1_ := Aside0.mk (blk_below (g := gb219) (o := .cells #[.string a1_0, .int .i8 a1_1, .string a1_2, .string a1_3, .int .i64 a1_4, .int .i64 a1_5] 45 (0, 0)) (by (with_reducible repeat (first | refine blk_drewN ?_ _ | refine blk_drew ?_ | refine blk_alloc ?_ _)); exact BK219.out) hb); have n2_ := Aside0.mk (below_step (by repeat (first | (with_reducible first | exact HB.out | apply below_alloc | apply pw_below_drewN | apply below_drew1 | refine below_set ?_ GE219.out) | exact HB.out)) hb); clear BK219; clear HB; have HO223 := n0_; have BK219 := n1_; have HB := n2_; clear n0_ n1_ n2_; (try clear hb); (try clear hb2); (try clear hk); (try clear hi); (try clear ho0)))
  go_ret2
  exact ⟨_, by first | rfl | (simp [errW_none, errW_some] <;> rfl) | (simp [*, errW_none, errW_some] <;> rfl), by (with_reducible repeat (first | apply Kd.R_alloc | apply Kd.R_drewN | apply Kd.R_drew)); exact Kd.R_mono HO223.out (fun _ hk => trivial), by repeat (first | (with_reducible first | exact HB.out | apply below_alloc | apply pw_below_drewN | apply below_drew1 | refine below_set ?_ GE219.out) | exact HB.out)⟩
 ·
  replace c4 := Bool.eq_false_iff.mpr c4
  subst c4
  have H1 : (some ((([] : List (S45))), 1)) = some (r1, r2) := by first | (rw [if_neg (show ¬ (false = true) by decide)] at H; exact H) | rfl
  clear H
  have H := H1
  clear H1
  obtain ⟨y225, hy225⟩ : ∃ y_ : List (S45), y_ = (([] : List (S45))) := ⟨_, rfl⟩
  replace H : (some (y225, 1)) = some (r1, r2) := by first | (rw [hy225]; with_reducible exact H) | (have H2_ := (Option.bind_some _ _).symm.trans H; rw [hy225]; with_reducible exact H2_) | (have H2_ := (Option.bind_some _ _).symm.trans H; with_reducible exact H2_) | with_reducible exact H | (rw [hy225]; exact H) | exact H
  have Ny225 := Aside0.mk hy225
  clear hy225
  simp only [Option.some.injEq, Prod.mk.injEq] at H
  obtain ⟨rfl, rfl⟩ := H
  go_enter Try.func30, Try.ntmps30
  go_wp2_with (first | ((with_reducible refine gate_dst (N := 3) rfl ?_); refine box_event ?hg (N := 3) ?hd (cs := #[.string a1_0, .int .i8 a1_1, .string a1_2, .string a1_3, .int .i64 a1_4, .int .i64 a1_5]) (t := 45) ?hr ?_; (case hd => rfl); (case hg => rfl); (case hr => first | (go_simp; done) | (go_simp; rfl)); intro gb219 hg w10 hbox hb; have n0_ := Aside0.mk (below_step (by repeat (first | (with_reducible first | exact HB.out | apply below_alloc | apply pw_below_drewN | apply below_drew1) | exact HB.out)) hb); have n1_ := Aside0.mk (hbox); have n2_ := Aside0.mk ((by rw [hg]; exact (below_size (by repeat (first | (with_reducible first | exact HB.out | apply below_alloc | apply pw_below_drewN | apply below_drew1) | exact HB.out))) : w.heap.size ≤ gb219)); have n3_ := Aside0.mk ((by rw [hg]; exact (below_size (by repeat (first | (with_reducible first | exact HB.out | apply below_alloc | apply pw_below_drewN | apply below_drew1) | exact HB.out))) : w.heap.size ≤ gb219)); clear HB; have HB := n0_; have BK219 := n1_; have GW219 := n2_; have GE219 := n3_; clear n0_ n1_ n2_ n3_; clear hb hbox hg) | ((with_reducible refine gate_callee (f := 64) rfl ?_); refine goesL_ (some 7) rfl rfl Try.func64 (by kernel_rfl) rfl #[.slice A0 l0.length c0] rfl (by (try simp only [List.map_toArray, List.map_cons, List.map_nil]); first | done | rfl | (simp only [List.length_drop, List.length_take]; rfl)) ?_; (with_reducible refine (spec_l07Ok.calls k _ _ l0 false _ ?side1 ?side2 A3.out).mono ?_); (case side1 => repeat (first | exact (Kd.C_below HR0.out HB.out) | (with_reducible refine Kd.C_alloc ?_ _) | (with_reducible refine Kd.C_drewN ?_ _) | (with_reducible refine Kd.C_drew ?_))); (case side2 => exact HC0.out); rintro e w11 ⟨rfl, hb⟩; refine ⟨_, rfl, ?_⟩; have n0_ := Aside0.mk (blk_below (g := gb219) (o := .cells #[.string a1_0, .int .i8 a1_1, .string a1_2, .string a1_3, .int .i64 a1_4, .int .i64 a1_5] 45 (0, 0)) (by (with_reducible repeat (first | refine blk_drewN ?_ _ | refine blk_drew ?_ | refine blk_alloc ?_ _)); exact BK219.out) hb); have n1_ := Aside0.mk (below_step (by repeat (first | (with_reducible first | exact HB.out | apply below_alloc | apply pw_below_drewN | apply below_drew1 | refine below_set ?_ GE219.out) | exact HB.out)) hb); clear BK219; clear HB; have BK219 := n0_; have HB := n1_; clear n0_ n1_; (try clear hb); (try clear hb2); (try clear hk); (try clear hi)) | ((with_reducible refine gate_dst (N := 9) rfl ?_); refine Kd.R_lit k45 _ 45 ?hg (N := 9) ?hd (xs := ([] : List (S45))) (inner := []) (ok := fun _ => True) (okp := fun _ => True) ?hr ?hp (fun _ hk => hk) trivial (Below.refl _ _) (Nat.le_refl _) (by simp) ?_; (case hd => rfl); (case hg => rfl); (case hr => first | (go_simp; done) | (go_simp; rfl)); (case hp => exact (Reps.none _ _)); intro v226 w12 ho13 hb hg_ hnew_; clear hg_ hnew_; (first | rw [← Ny225.out] at ho13 | (simp only [Int.reduceToNat] at ho13; rw [← Ny225.out] at ho13)); have n0_ := Aside0.mk (Kd.R_lower (Kd.R_newB ho13 (g := gb219) (o := .cells #[.string a1_0, .int .i8 a1_1, .string a1_2, .string a1_3, .int .i64 a1_4, .int .i64 a1_5] 45 (0, 0)) (by (with_reducible repeat (first | refine blk_drewN ?_ _ | refine blk_drew ?_ | refine blk_alloc ?_ _)); exact BK219.out)) (below_size (by repeat (first | (with_reducible first | exact HB.out | apply below_alloc | apply pw_below_drewN | apply below_drew1 | refine below_set ?_ GE219.out) | exact HB.out)))); have n1_ := Aside0.mk (blk_below (g := gb219) (o := .cells #[.string a1_0, .int .i8 a1_1, .string a1_2, .string a1_3, .int .i64 a1_4, .int .i64 a1_5] 45 (0, 0)) (by (with_reducible repeat (first | refine blk_drewN ?_ _ | refine blk_drew ?_ | refine blk_alloc ?_ _)); exact BK219.out) hb); have n2_ := Aside0.mk (below_step (by repeat (first | (with_reducible first | exact HB.out | apply below_alloc | apply pw_below_drewN | apply below_drew1 | refine below_set ?_ GE219.out) | exact HB.out)) hb); clear BK219; clear HB; have HO227 := n0_; have BK219 := n1_; have HB := n2_; clear n0_ n1_ n2_; clear hb ho13))
  go_ret2
  exact ⟨_, by first | rfl | (simp [errW_none, errW_some] <;> rfl) | (simp [*, errW_none, errW_some] <;> rfl), by (with_reducible repeat (first | apply Kd.R_alloc | apply Kd.R_drewN | apply Kd.R_drew)); exact Kd.R_mono HO227.out (fun _ hk => trivial), by repeat (first | (with_reducible first | exact HB.out | apply below_alloc | apply pw_below_drewN | apply below_drew1 | refine below_set ?_ GE219.out) | exact HB.out)⟩
end Go.Proofs.Ytenhgmddpkiliaa.PB

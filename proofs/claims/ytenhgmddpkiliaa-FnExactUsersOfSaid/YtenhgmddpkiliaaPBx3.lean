-- Written by a program (xprint.py) out of the translation's own print; Lean checks it.
import Derived.Test.YtenhgmddpkiliaaPBx0
import Derived.Test.YtenhgmddpkiliaaPBx2
namespace Go.Proofs.Ytenhgmddpkiliaa.PB
open Go.RowKit Go.Proofs.YtenhgmddpkiliaaW.PrintWords Go.Proofs.YtenhgmddpkiliaaW.PrintLast Go.Proofs.YtenhgmddpkiliaaW.PrintMore Go.Proofs.YtenhgmddpkiliaaRP
attribute [local go_sem] max2_int min2_int max_two min_two max_three min_three max_four min_four Go.Proofs.YtenhgmddpkiliaaRP.max_eight   -- for this text's walks alone
set_option linter.unusedVariables false
set_option linter.unusedSimpArgs false
/-! ### spec_l07Find: function 89 -/
def spec_l07Find.l0 : Nat → List (S45) → ByteArray → Int → Option (Int)
 | 0, _, _, _ => none
 | k + 1, x0, x1, x5 => if x5 < (x0.length : Int) then (if 0 ≤ x5 then (if ((rd_T45 x0 x5).f0).toList = x1.toList then (some x5) else (spec_l07Find.l0 k x0 x1 (wrap64 (x5 + 1)))) else (none)) else (some (-1))
def spec_l07Find.f (k : Nat) (l0 : List (S45)) (a1 : ByteArray) : Option (Int) := spec_l07Find.l0 k l0 a1 0
theorem spec_l07Find.mono_l : ∀ k, (∀ y0 y1 y2, LeO (spec_l07Find.l0 k y0 y1 y2) (spec_l07Find.l0 (k + 1) y0 y1 y2))
 | 0 => fun _ _ _ r h => by simp [spec_l07Find.l0] at h
 | k + 1 => by
  have ih0 := spec_l07Find.mono_l k
  ·
   intro y0 y1 y2
   unfold spec_l07Find.l0
   repeat' first
   | (with_reducible exact ih0 _ _ _)
   | (with_reducible exact LeO.refl _)
   | (with_reducible exact LeO.none _)
   | (with_reducible refine LeO.ite ?_ ?_)
   | (with_reducible refine LeO.bind ?_ (fun _ => ?_))
   | exact ih0 _ _ _
   | exact LeO.none _
   | refine LeO.ite ?_ ?_
   | refine LeO.bind ?_ (fun _ => ?_)
theorem spec_l07Find.mono : ∀ a0 a1 k, LeO (spec_l07Find.f k a0 a1) (spec_l07Find.f (k + 1) a0 a1) := by
 intro a0 a1 k
 have ih0 := spec_l07Find.mono_l k
 unfold spec_l07Find.f
 repeat' first
   | (with_reducible exact ih0 _ _ _)
   | (with_reducible exact LeO.refl _)
   | (with_reducible exact LeO.none _)
   | (with_reducible refine LeO.ite ?_ ?_)
   | (with_reducible refine LeO.bind ?_ (fun _ => ?_))
   | exact ih0 _ _ _
   | exact LeO.none _
   | refine LeO.ite ?_ ?_
   | refine LeO.bind ?_ (fun _ => ?_)
set_option maxHeartbeats 8000000 in
set_option maxRecDepth 100000 in
theorem spec_l07Find.calls (k : Nat) (A0 : Option Addr) (c0 : Nat) (l0 : List (S45)) (a1 : ByteArray) (r : Int) (w : World) (hr0 : Kd.C k45 w A0 l0.length l0) (hc0 : l0.length ≤ c0) (h : spec_l07Find.f k l0 a1 = some r) :
  Calls Try.prog 89 #[.slice A0 l0.length c0, .string a1] w fun e w' => e = .returned (.int .i64 r) ∧ Drawn0 w w' := by
 have HR0 := Aside0.mk hr0
 have HC0 := Aside0.mk hc0
 clear hr0 hc0
 have H : (spec_l07Find.l0 k l0 a1 0) = some r := h
 clear h
 have H' := Aside0.mk H
 clear H
 go_enter Try.func89, Try.ntmps89
 go_wp2
 go_loopg [5] k (fun kq v5 w' => ∃ (x5_1 : Int), v5 = .int .i64 x5_1 ∧ Aside0 (spec_l07Find.l0 kq l0 a1 x5_1 = some r) ∧ Aside0 (kq ≤ k) ∧ Drawn0 w w')
 case atStart => exact ⟨(0), (by first | rfl | (simp; done) | (simp [*]; done) | (simp [isE_]; done)), H', ⟨Nat.le_refl _⟩, by repeat (first | exact Drawn0.refl _ | apply Drawn0.step)⟩
 case round =>
  clear H'
  try clear p2
  obtain ⟨x5_1, rfl, HA, HK1, ⟨m1, rfl⟩⟩ := hrel
  cases gk with
  | zero => exact absurd HA.out (by simp [spec_l07Find.l0])
  | succ k1 =>
   have H := HA.out
   clear HA
   simp only [spec_l07Find.l0] at H
   by_cases c3 : x5_1 < (l0.length : Int)
   ·
    rw [if_pos c3] at H
    have c3b0 : decide (x5_1 < (l0.length : Int)) = true := decide_eq_true c3
    clear c3
    by_cases c4 : 0 ≤ x5_1
    ·
     rw [if_pos c4] at H
     have c4b0 : decide (0 ≤ x5_1) = true := decide_eq_true c4
     clear c4
     by_cases c5 : ((rd_T45 l0 x5_1).f0).toList = a1.toList
     ·
      rw [if_pos c5] at H
      have c5b0 : (((rd_T45 l0 x5_1).f0).toList == a1.toList) = true := beq_iff_eq.mpr c5
      have c5b1 : (((rd_T45 l0 x5_1).f0).toList != a1.toList) = false := bne_eq_false_iff_eq.mpr c5
      clear c5
      obtain rfl := Option.some.inj H
      have p141 : 0 ≤ (x5_1 : Int) := of_decide_eq_true (by assumption)
      have q141 : x5_1 < (l0.length : Int) := of_decide_eq_true (by assumption)
      obtain ⟨ad141, e141, hx141_0, hx141_1, hx141_2, hx141_3, hx141_4, hx141_5⟩ := at_T45 HR0.out x5_1 p141 q141
      cases e141
      replace p141 := eq_true p141
      replace q141 := eq_true q141
      go_wp2
      go_ret
      exact ⟨by first | rfl | (simp; done) | (simp [*]; done) | (simp [isE_]; done), by repeat (first | exact Drawn0.refl _ | apply Drawn0.step)⟩
     ·
      rw [if_neg c5] at H
      have c5b0 : (((rd_T45 l0 x5_1).f0).toList == a1.toList) = false := beq_eq_false_iff_ne.mpr c5
      have c5b1 : (((rd_T45 l0 x5_1).f0).toList != a1.toList) = true := bne_iff_ne.mpr c5
      have H' := Aside0.mk H
      clear H
      have p141 : 0 ≤ (x5_1 : Int) := of_decide_eq_true (by assumption)
      have q141 : x5_1 < (l0.length : Int) := of_decide_eq_true (by assumption)
      obtain ⟨ad141, e141, hx141_0, hx141_1, hx141_2, hx141_3, hx141_4, hx141_5⟩ := at_T45 HR0.out x5_1 p141 q141
      cases e141
      replace p141 := eq_true p141
      replace q141 := eq_true q141
      go_wp2
      go_roundg k1
      case measure => have := HK1.out; omega
      case rel => exact ⟨(wrap64 (x5_1 + 1)), (by first | rfl | (simp; done) | (simp [*]; done) | (simp [isE_]; done)), H', ⟨by have := HK1.out; omega⟩, by repeat (first | exact Drawn0.refl _ | apply Drawn0.step)⟩
    ·
     rw [if_neg c4] at H
     exact absurd H (by simp)
   ·
    rw [if_neg c3] at H
    have c3b0 : decide (x5_1 < (l0.length : Int)) = false := decide_eq_false c3
    clear c3
    obtain rfl := Option.some.inj H
    go_wp2
    go_ret
    exact ⟨by first | rfl | (simp; done) | (simp [*]; done) | (simp [isE_]; done), by repeat (first | exact Drawn0.refl _ | apply Drawn0.step)⟩
/-! ### spec_l07Uses: function 104 -/
mutual
def spec_l07Uses.j0 : Nat → List (S45) → List (S45) → List Int → Bool → Option (List Int)
 | 0, _, _, _, _ => none
 | k + 1, x0, x5, x6, x22 => if x22 = true then (if 0 < (x5.length : Int) then ((spec_l07Find.f k x0 ((rd_T45 x5 0).f2)).bind fun t151 => (if x6.length < 17592186044416 then (spec_l07Uses.j1 k x0 x5 (x6 ++ [t151])) else (none))) else (none)) else (spec_l07Uses.j1 k x0 x5 x6)
def spec_l07Uses.j1 : Nat → List (S45) → List (S45) → List Int → Option (List Int)
 | 0, _, _, _ => none
 | k + 1, x0, x5, x6 => if 0 < (x5.length : Int) then ((spec_l02Two.f ((rd_T45 x5 0).f1)).bind fun t156 => (if t156 = true then ((spec_l07Find.f k x0 ((rd_T45 x5 0).f3)).bind fun t157 => (if x6.length < 17592186044416 then (some (x6 ++ [t157])) else (none))) else (some x6))) else (none)
end
def spec_l07Uses.f (k : Nat) (l0 : List (S45)) (a1 : Int) : Option (List Int) := if 0 ≤ a1 then (if a1 < (l0.length : Int) then ((some (([] : List Int) : List Int)).bind fun y144 => (if 0 < ([rd_T45 l0 a1].length : Int) then ((spec_l02One.f ((rd_T45 [rd_T45 l0 a1] 0).f1)).bind fun t148 => (if t148 = true then (spec_l07Uses.j0 k l0 [rd_T45 l0 a1] y144 true) else ((spec_l02Two.f ((rd_T45 [rd_T45 l0 a1] 0).f1)).bind fun t149 => (spec_l07Uses.j0 k l0 [rd_T45 l0 a1] y144 t149)))) else (none))) else (none)) else (none)
theorem spec_l07Uses.mono_l : ∀ k, (∀ y0 y1 y2 y3, LeO (spec_l07Uses.j0 k y0 y1 y2 y3) (spec_l07Uses.j0 (k + 1) y0 y1 y2 y3)) ∧ (∀ y0 y1 y2, LeO (spec_l07Uses.j1 k y0 y1 y2) (spec_l07Uses.j1 (k + 1) y0 y1 y2))
 | 0 => ⟨fun _ _ _ _ r h => by simp [spec_l07Uses.j0] at h, fun _ _ _ r h => by simp [spec_l07Uses.j1] at h⟩
 | k + 1 => by
  obtain ⟨ih0, ih1⟩ := spec_l07Uses.mono_l k
  refine ⟨?_, ?_⟩
  ·
   intro y0 y1 y2 y3
   unfold spec_l07Uses.j0
   repeat' first
   | (with_reducible exact ih0 _ _ _ _)
   | (with_reducible exact ih1 _ _ _)
   | (with_reducible exact spec_l07Find.mono _ _ _)
   | (with_reducible exact LeO.refl _)
   | (with_reducible exact LeO.none _)
   | (with_reducible refine LeO.ite ?_ ?_)
   | (with_reducible refine LeO.bind ?_ (fun _ => ?_))
   | exact ih0 _ _ _ _
   | exact ih1 _ _ _
   | exact LeO.none _
   | refine LeO.ite ?_ ?_
   | refine LeO.bind ?_ (fun _ => ?_)
  ·
   intro y0 y1 y2
   unfold spec_l07Uses.j1
   repeat' first
   | (with_reducible exact ih0 _ _ _ _)
   | (with_reducible exact ih1 _ _ _)
   | (with_reducible exact spec_l07Find.mono _ _ _)
   | (with_reducible exact LeO.refl _)
   | (with_reducible exact LeO.none _)
   | (with_reducible refine LeO.ite ?_ ?_)
   | (with_reducible refine LeO.bind ?_ (fun _ => ?_))
   | exact ih0 _ _ _ _
   | exact ih1 _ _ _
   | exact LeO.none _
   | refine LeO.ite ?_ ?_
   | refine LeO.bind ?_ (fun _ => ?_)
theorem spec_l07Uses.mono : ∀ a0 a1 k, LeO (spec_l07Uses.f k a0 a1) (spec_l07Uses.f (k + 1) a0 a1) := by
 intro a0 a1 k
 obtain ⟨ih0, ih1⟩ := spec_l07Uses.mono_l k
 unfold spec_l07Uses.f
 repeat' first
   | (with_reducible exact ih0 _ _ _ _)
   | (with_reducible exact ih1 _ _ _)
   | (with_reducible exact spec_l07Find.mono _ _ _)
   | (with_reducible exact LeO.refl _)
   | (with_reducible exact LeO.none _)
   | (with_reducible refine LeO.ite ?_ ?_)
   | (with_reducible refine LeO.bind ?_ (fun _ => ?_))
   | exact ih0 _ _ _ _
   | exact ih1 _ _ _
   | exact LeO.none _
   | refine LeO.ite ?_ ?_
   | refine LeO.bind ?_ (fun _ => ?_)
set_option maxHeartbeats 8000000 in
set_option maxRecDepth 100000 in
theorem spec_l07Uses.calls (k : Nat) (A0 : Option Addr) (c0 : Nat) (l0 : List (S45)) (a1 : Int) (r : List Int) (w : World) (hr0 : Kd.C k45 w A0 l0.length l0) (hc0 : l0.length ≤ c0) (h : spec_l07Uses.f k l0 a1 = some r) :
  Calls Try.prog 104 #[.slice A0 l0.length c0, .int .i64 a1] w fun e w' => ∃ v0_ : Value, e = .returned (v0_) ∧ Kd.R (Kd.int .i64) 2 w' w.heap.size (fun _ => True) v0_ r ∧ Below w.heap.size w w' := by
 have HR0 := Aside0.mk hr0
 have HC0 := Aside0.mk hc0
 clear hr0 hc0
 have HB := Aside0.mk (Below.refl w.heap.size w)
 have H : (if 0 ≤ a1 then (if a1 < (l0.length : Int) then ((some (([] : List Int) : List Int)).bind fun y144 => (if 0 < ([rd_T45 l0 a1].length : Int) then ((spec_l02One.f ((rd_T45 [rd_T45 l0 a1] 0).f1)).bind fun t148 => (if t148 = true then (spec_l07Uses.j0 k l0 [rd_T45 l0 a1] y144 true) else ((spec_l02Two.f ((rd_T45 [rd_T45 l0 a1] 0).f1)).bind fun t149 => (spec_l07Uses.j0 k l0 [rd_T45 l0 a1] y144 t149)))) else (none))) else (none)) else (none)) = some r := h
 clear h
 by_cases c3 : 0 ≤ a1
 ·
  rw [if_pos c3] at H
  have c3b0 : decide (0 ≤ a1) = true := decide_eq_true c3
  clear c3
  by_cases c4 : a1 < (l0.length : Int)
  ·
   rw [if_pos c4] at H
   have c4b0 : decide (a1 < (l0.length : Int)) = true := decide_eq_true c4
   clear c4
   obtain ⟨y144, hy144⟩ : ∃ y_ : List Int, y_ = (([] : List Int)) := ⟨_, rfl⟩
   replace H : (if 0 < ([rd_T45 l0 a1].length : Int) then ((spec_l02One.f ((rd_T45 [rd_T45 l0 a1] 0).f1)).bind fun t148 => (if t148 = true then (spec_l07Uses.j0 k l0 [rd_T45 l0 a1] y144 true) else ((spec_l02Two.f ((rd_T45 [rd_T45 l0 a1] 0).f1)).bind fun t149 => (spec_l07Uses.j0 k l0 [rd_T45 l0 a1] y144 t149)))) else (none)) = some r := by first | (rw [hy144]; with_reducible exact H) | (have H2_ := (Option.bind_some _ _).symm.trans H; rw [hy144]; with_reducible exact H2_) | (have H2_ := (Option.bind_some _ _).symm.trans H; with_reducible exact H2_) | with_reducible exact H | (rw [hy144]; exact H) | exact H
   have Ny144 := Aside0.mk hy144
   clear hy144
   have HC5 := Aside0.mk H
   clear H
   have p142 : 0 ≤ (a1 : Int) := of_decide_eq_true (by assumption)
   have q142 : a1 < (l0.length : Int) := of_decide_eq_true (by assumption)
   obtain ⟨ad142, e142, hx142_0, hx142_1, hx142_2, hx142_3, hx142_4, hx142_5⟩ := at_T45 HR0.out a1 p142 q142
   cases e142
   replace p142 := eq_true p142
   replace q142 := eq_true q142
   have HR143 := Aside0.mk (show Kd.C k45 w (some (Addr.add ad142 (a1.toNat * 6))) [rd_T45 l0 a1].length [rd_T45 l0 a1] from Kd.C_el k45 z45 HR0.out (a1 : Int) (of_eq_true p142) (of_eq_true q142))
   go_enter Try.func104, Try.ntmps104
   go_upto_region 3 with (first | ((with_reducible refine gate_dst (N := 10) rfl ?_); refine Kd.R_lit (Kd.int .i64) _ 2 ?hg (N := 10) ?hd (xs := ([] : List Int)) (inner := []) (ok := fun _ => True) (okp := fun _ => True) ?hr ?hp (fun _ hk => hk) trivial (Below.refl _ _) (Nat.le_refl _) (by simp) ?_; (case hd => rfl); (case hg => rfl); (case hr => first | (go_simp; done) | (go_simp; rfl)); (case hp => exact (Reps.none _ _)); intro v145 w6 ho7 hb hg_ hnew_; clear hg_ hnew_; (first | rw [← Ny144.out] at ho7 | (simp only [Int.reduceToNat] at ho7; rw [← Ny144.out] at ho7)); have n0_ := Aside0.mk (Kd.R_lower ho7 (below_size (by repeat (first | (with_reducible first | exact HB.out | apply below_alloc | apply pw_below_drewN | apply below_drew1) | exact HB.out)))); have n1_ := Aside0.mk (below_step (by repeat (first | (with_reducible first | exact HB.out | apply below_alloc | apply pw_below_drewN | apply below_drew1) | exact HB.out)) hb); clear HB; have HO146 := n0_; have HB := n1_; clear n0_ n1_; clear hb ho7))
   (try simp only [Act.put, sA_, sB_, sC_])
   go_cut [22] (fun v22 wc => ∃ (kq : Nat) (x22_4 : Bool), v22 = .bool x22_4 ∧ Aside0 (spec_l07Uses.j0 kq l0 [rd_T45 l0 a1] y144 x22_4 = some r) ∧ Aside0 (kq ≤ k) ∧ Aside0 (Kd.R (Kd.int .i64) 2 wc w.heap.size (fun _ => True) v145 y144) ∧ Aside0 (Below w.heap.size w wc))
   case first =>
    have H := HC5.out
    clear HC5
    by_cases c8 : 0 < ([rd_T45 l0 a1].length : Int)
    ·
     rw [if_pos c8] at H
     have c8b0 : decide (0 < ([rd_T45 l0 a1].length : Int)) = true := decide_eq_true c8
     have c8b1 : decide (0 < [rd_T45 l0 a1].length) = true := decide_eq_true (by omega)
     clear c8
     (first | rw [c8b0] | (simp only [i64_w, i32_w]; rw [c8b0]) | skip)
     replace H := Option.bind_eq_some_iff.mp H
     obtain ⟨t148, A90, H⟩ := H
     replace H : (if t148 = true then (spec_l07Uses.j0 k l0 [rd_T45 l0 a1] y144 true) else ((spec_l02Two.f ((rd_T45 [rd_T45 l0 a1] 0).f1)).bind fun t149 => (spec_l07Uses.j0 k l0 [rd_T45 l0 a1] y144 t149))) = some r := H
     have A9 := Aside0.mk A90
     clear A90
     by_cases c10 : t148 = true
     ·
      subst c10
      have H1 : (spec_l07Uses.j0 k l0 [rd_T45 l0 a1] y144 true) = some r := by first | (rw [if_pos rfl] at H; exact H) | rfl
      clear H
      have H := H1
      clear H1
      have H' := Aside0.mk H
      clear H
      have q147 : 0 < ([rd_T45 l0 a1].length : Int) := of_decide_eq_true (by assumption)
      obtain ⟨ad147, e147, hx147_0, hx147_1, hx147_2, hx147_3, hx147_4, hx147_5⟩ := rp_T45 HR143.out q147
      obtain rfl : (Addr.add ad142 (a1.toNat * 6)) = ad147 := (by injection e147)
      replace hx147_0 := (HB.out.cell (World.block_lt_of_cell? w _ hx147_0)).trans hx147_0
      replace hx147_1 := (HB.out.cell (World.block_lt_of_cell? w _ hx147_1)).trans hx147_1
      replace hx147_2 := (HB.out.cell (World.block_lt_of_cell? w _ hx147_2)).trans hx147_2
      replace hx147_3 := (HB.out.cell (World.block_lt_of_cell? w _ hx147_3)).trans hx147_3
      replace hx147_4 := (HB.out.cell (World.block_lt_of_cell? w _ hx147_4)).trans hx147_4
      replace hx147_5 := (HB.out.cell (World.block_lt_of_cell? w _ hx147_5)).trans hx147_5
      go_wp2_with (first | ((with_reducible refine gate_callee (f := 69) rfl ?_); refine goesL_ (some 15) rfl rfl Try.func69 (by kernel_rfl) rfl #[.int .i8 ((rd_T45 [rd_T45 l0 a1] 0).f1)] rfl (by (try simp only [List.map_toArray, List.map_cons, List.map_nil]); first | done | rfl | (simp only [List.length_drop, List.length_take]; rfl)) ?_; (with_reducible refine (spec_l02One.calls ((rd_T45 [rd_T45 l0 a1] 0).f1) true _ A9.out).mono ?_); rintro e w' ⟨rfl, ⟨nd, rfl⟩⟩; refine ⟨_, rfl, ?_⟩))
      go_meet
      case rel => exact ⟨_, (true), (by first | rfl | (simp; done) | (simp [*]; done) | (simp [isE_]; done)), H', ⟨by first | omega | exact Nat.le_refl _⟩, ⟨by (with_reducible repeat (first | apply Kd.R_alloc | apply Kd.R_drewN | apply Kd.R_drew)); exact HO146.out⟩, ⟨by repeat (first | (with_reducible first | exact HB.out | apply below_alloc | apply pw_below_drewN | apply below_drew1) | exact HB.out)⟩⟩
     ·
      replace c10 := Bool.eq_false_iff.mpr c10
      subst c10
      have H1 : ((spec_l02Two.f ((rd_T45 [rd_T45 l0 a1] 0).f1)).bind fun t149 => (spec_l07Uses.j0 k l0 [rd_T45 l0 a1] y144 t149)) = some r := by first | (rw [if_neg (show ¬ (false = true) by decide)] at H; exact H) | rfl
      clear H
      have H := H1
      clear H1
      replace H := Option.bind_eq_some_iff.mp H
      obtain ⟨t149, A110, H⟩ := H
      replace H : (spec_l07Uses.j0 k l0 [rd_T45 l0 a1] y144 t149) = some r := H
      have A11 := Aside0.mk A110
      clear A110
      have H' := Aside0.mk H
      clear H
      have q147 : 0 < ([rd_T45 l0 a1].length : Int) := of_decide_eq_true (by assumption)
      obtain ⟨ad147, e147, hx147_0, hx147_1, hx147_2, hx147_3, hx147_4, hx147_5⟩ := rp_T45 HR143.out q147
      obtain rfl : (Addr.add ad142 (a1.toNat * 6)) = ad147 := (by injection e147)
      replace hx147_0 := (HB.out.cell (World.block_lt_of_cell? w _ hx147_0)).trans hx147_0
      replace hx147_1 := (HB.out.cell (World.block_lt_of_cell? w _ hx147_1)).trans hx147_1
      replace hx147_2 := (HB.out.cell (World.block_lt_of_cell? w _ hx147_2)).trans hx147_2
      replace hx147_3 := (HB.out.cell (World.block_lt_of_cell? w _ hx147_3)).trans hx147_3
      replace hx147_4 := (HB.out.cell (World.block_lt_of_cell? w _ hx147_4)).trans hx147_4
      replace hx147_5 := (HB.out.cell (World.block_lt_of_cell? w _ hx147_5)).trans hx147_5
      go_wp2_with (first | ((with_reducible refine gate_callee (f := 69) rfl ?_); refine goesL_ (some 15) rfl rfl Try.func69 (by kernel_rfl) rfl #[.int .i8 ((rd_T45 [rd_T45 l0 a1] 0).f1)] rfl (by (try simp only [List.map_toArray, List.map_cons, List.map_nil]); first | done | rfl | (simp only [List.length_drop, List.length_take]; rfl)) ?_; (with_reducible refine (spec_l02One.calls ((rd_T45 [rd_T45 l0 a1] 0).f1) false _ A9.out).mono ?_); rintro e w' ⟨rfl, ⟨nd, rfl⟩⟩; refine ⟨_, rfl, ?_⟩) | (go_at_call 70; (with_reducible refine (spec_l02Two.calls ((rd_T45 [rd_T45 l0 a1] 0).f1) t149 _ A11.out).mono ?_); rintro e w' ⟨rfl, ⟨nd, rfl⟩⟩))
      go_meet
      case rel => exact ⟨_, (t149), (by first | rfl | (simp; done) | (simp [*]; done) | (simp [isE_]; done)), H', ⟨by first | omega | exact Nat.le_refl _⟩, ⟨by (with_reducible repeat (first | apply Kd.R_alloc | apply Kd.R_drewN | apply Kd.R_drew)); exact HO146.out⟩, ⟨by repeat (first | (with_reducible first | exact HB.out | apply below_alloc | apply pw_below_drewN | apply below_drew1) | exact HB.out)⟩⟩
    ·
     rw [if_neg c8] at H
     exact absurd H (by simp)
   case rest =>
    clear HC5
    try clear c1
    try clear p1
    try clear q1
    try clear hx1
    try clear p2
    try clear c3
    try clear c3b0
    try clear c4
    try clear c4b0
    try clear c6
    try clear c8
    try clear c8b0
    try clear c8b1
    try clear c10
    try clear hx142_0
    try clear hx142_1
    try clear hx142_2
    try clear hx142_3
    try clear hx142_4
    try clear hx142_5
    try clear hx147_0
    try clear hx147_1
    try clear hx147_2
    try clear hx147_3
    try clear hx147_4
    try clear hx147_5
    try clear p142
    try clear q142
    try clear q147
    obtain ⟨kq, x22_4, rfl, HA, HJ4, HO_6, HB⟩ := hcut
    cases kq with
    | zero => exact absurd HA.out (by simp [spec_l07Uses.j0])
    | succ kj4 =>
     have H := HA.out
     clear HA
     simp only [spec_l07Uses.j0] at H
     have HC12 := Aside0.mk H
     clear H
     go_upto_if 22 with (fail)
     go_cut [6] (fun v6 wc => ∃ (kq : Nat) (x6_11 : List Int), Aside0 (spec_l07Uses.j1 kq l0 [rd_T45 l0 a1] x6_11 = some r) ∧ Aside0 (kq ≤ kj4) ∧ Aside0 (Kd.R (Kd.int .i64) 2 wc w.heap.size (fun _ => True) v6 x6_11) ∧ Aside0 (Below w.heap.size w wc))
     case first =>
      have H := HC12.out
      clear HC12
      by_cases c13 : x22_4 = true
      ·
       subst c13
       have H1 : (if 0 < ([rd_T45 l0 a1].length : Int) then ((spec_l07Find.f kj4 l0 ((rd_T45 [rd_T45 l0 a1] 0).f2)).bind fun t151 => (if y144.length < 17592186044416 then (spec_l07Uses.j1 kj4 l0 [rd_T45 l0 a1] (y144 ++ [t151])) else (none))) else (none)) = some r := by first | (rw [if_pos rfl] at H; exact H) | rfl
       clear H
       have H := H1
       clear H1
       by_cases c14 : 0 < ([rd_T45 l0 a1].length : Int)
       ·
        rw [if_pos c14] at H
        have c14b0 : decide (0 < ([rd_T45 l0 a1].length : Int)) = true := decide_eq_true c14
        have c14b1 : decide (0 < [rd_T45 l0 a1].length) = true := decide_eq_true (by omega)
        clear c14
        (first | rw [c14b0] | (simp only [i64_w, i32_w]; rw [c14b0]) | skip)
        replace H := Option.bind_eq_some_iff.mp H
        obtain ⟨t151, A150, H⟩ := H
        replace H : (if y144.length < 17592186044416 then (spec_l07Uses.j1 kj4 l0 [rd_T45 l0 a1] (y144 ++ [t151])) else (none)) = some r := H
        have A15 := Aside0.mk A150
        clear A150
        by_cases c16 : y144.length < 17592186044416
        ·
         rw [if_pos c16] at H
         have LMc16 := Aside0.mk c16
         clear c16
         obtain ⟨y152, hy152⟩ : ∃ y_ : List Int, y_ = (y144 ++ [t151]) := ⟨_, rfl⟩
         replace H : (spec_l07Uses.j1 kj4 l0 [rd_T45 l0 a1] y152) = some r := by first | (rw [hy152]; with_reducible exact H) | (have H2_ := (Option.bind_some _ _).symm.trans H; rw [hy152]; with_reducible exact H2_) | (have H2_ := (Option.bind_some _ _).symm.trans H; with_reducible exact H2_) | with_reducible exact H | (rw [hy152]; exact H) | exact H
         have Ny152 := Aside0.mk hy152
         clear hy152
         have H' := Aside0.mk H
         clear H
         have q150 : 0 < ([rd_T45 l0 a1].length : Int) := of_decide_eq_true (by assumption)
         obtain ⟨ad150, e150, hx150_0, hx150_1, hx150_2, hx150_3, hx150_4, hx150_5⟩ := rp_T45 HR143.out q150
         obtain rfl : (Addr.add ad142 (a1.toNat * 6)) = ad150 := (by injection e150)
         replace hx150_0 := (HB.out.cell (World.block_lt_of_cell? w _ hx150_0)).trans hx150_0
         replace hx150_1 := (HB.out.cell (World.block_lt_of_cell? w _ hx150_1)).trans hx150_1
         replace hx150_2 := (HB.out.cell (World.block_lt_of_cell? w _ hx150_2)).trans hx150_2
         replace hx150_3 := (HB.out.cell (World.block_lt_of_cell? w _ hx150_3)).trans hx150_3
         replace hx150_4 := (HB.out.cell (World.block_lt_of_cell? w _ hx150_4)).trans hx150_4
         replace hx150_5 := (HB.out.cell (World.block_lt_of_cell? w _ hx150_5)).trans hx150_5
         go_wp2_with (first | ((with_reducible refine gate_callee (f := 89) rfl ?_); refine goesL_ (some 29) rfl rfl Try.func89 (by kernel_rfl) rfl #[.slice (some ad142) l0.length c0, .string ((rd_T45 [rd_T45 l0 a1] 0).f2)] rfl (by (try simp only [List.map_toArray, List.map_cons, List.map_nil]); first | done | rfl | (simp only [List.length_drop, List.length_take]; rfl)) ?_; (with_reducible refine (spec_l07Find.calls kj4 _ _ l0 ((rd_T45 [rd_T45 l0 a1] 0).f2) t151 _ ?side1 ?side2 A15.out).mono ?_); (case side1 => repeat (first | exact (Kd.C_below HR0.out HB.out) | (with_reducible refine Kd.C_alloc ?_ _) | (with_reducible refine Kd.C_drewN ?_ _) | (with_reducible refine Kd.C_drew ?_))); (case side2 => exact HC0.out); rintro e w' ⟨rfl, ⟨nd, rfl⟩⟩; refine ⟨_, rfl, ?_⟩) | ((with_reducible refine gate_builtin (b := .append) (xs := #[.tmp 23, .tmp 30]) rfl ?_); at_builtin; refine Kd.R_append (Kd.int .i64) (w0 := w) w.heap.size rfl (.tmp 23) (.tmp 30) 57 2 (.int .i64 0) 8 rfl Try.underlying57 info2 rfl (by decide) (by omega) v145 y144 t151 [.int .i64 t151] (fun _ => True) (fun _ => False) rfl rfl ?aP (fun _ hk => hk.elim) ?aF ?aO ?aB ?aS ?aL ?_; (case aP => exact rfl); (case aB => exact (by repeat (first | (with_reducible first | exact HB.out | apply below_alloc | apply pw_below_drewN | apply below_drew1) | exact HB.out))); (case aF => exact (fun _ _ => trivial)); (case aO => exact (by (with_reducible repeat (first | apply Kd.R_alloc | apply Kd.R_drewN | apply Kd.R_drew)); exact HO_6.out)); (case aS => exact (below_size (by repeat (first | (with_reducible first | exact HB.out | apply below_alloc | apply pw_below_drewN | apply below_drew1) | exact HB.out)))); (case aL => have := LMc16.out; omega); intro v153 w17 ho hb hg hat; rw [← Ny152.out] at ho; have n0_ := Aside0.mk (hb); have n1_ := Aside0.mk (ho); clear HB; clear HO_6; have HB := n0_; have HO154 := n1_; clear n0_ n1_; clear ho hb hg hat))
         go_meet
         case rel => exact ⟨_, (y152), H', ⟨by have := HJ4.out; first | omega | exact Nat.le_refl _⟩, ⟨by (with_reducible repeat (first | apply Kd.R_alloc | apply Kd.R_drewN | apply Kd.R_drew)); exact HO154.out⟩, ⟨by repeat (first | (with_reducible first | exact HB.out | apply below_alloc | apply pw_below_drewN | apply below_drew1) | exact HB.out)⟩⟩
        ·
         rw [if_neg c16] at H
         exact absurd H (by simp)
       ·
        rw [if_neg c14] at H
        exact absurd H (by simp)
      ·
       replace c13 := Bool.eq_false_iff.mpr c13
       subst c13
       have H1 : (spec_l07Uses.j1 kj4 l0 [rd_T45 l0 a1] y144) = some r := by first | (rw [if_neg (show ¬ (false = true) by decide)] at H; exact H) | rfl
       clear H
       have H := H1
       clear H1
       have H' := Aside0.mk H
       clear H
       go_wp2
       go_meet
       case rel => exact ⟨_, (y144), H', ⟨by have := HJ4.out; first | omega | exact Nat.le_refl _⟩, ⟨by (with_reducible repeat (first | apply Kd.R_alloc | apply Kd.R_drewN | apply Kd.R_drew)); exact HO_6.out⟩, ⟨by repeat (first | (with_reducible first | exact HB.out | apply below_alloc | apply pw_below_drewN | apply below_drew1) | exact HB.out)⟩⟩
     case rest =>
      clear HC12
      try clear c1
      try clear p1
      try clear q1
      try clear hx1
      try clear p2
      try clear c3
      try clear c3b0
      try clear c4
      try clear c4b0
      try clear c6
      try clear c8
      try clear c8b0
      try clear c8b1
      try clear c10
      try clear c13
      try clear c14
      try clear c14b0
      try clear c14b1
      try clear p14
      try clear q14
      try clear hx14
      try clear q15
      try clear hx15
      try clear c16
      try clear hx142_0
      try clear hx142_1
      try clear hx142_2
      try clear hx142_3
      try clear hx142_4
      try clear hx142_5
      try clear hx147_0
      try clear hx147_1
      try clear hx147_2
      try clear hx147_3
      try clear hx147_4
      try clear hx147_5
      try clear hx150_0
      try clear hx150_1
      try clear hx150_2
      try clear hx150_3
      try clear hx150_4
      try clear hx150_5
      try clear p1
      try clear p142
      try clear p2
      try clear q1
      try clear q142
      try clear q147
      try clear q150
      obtain ⟨kq, x6_11, HA, HJ11, HO_6, HB⟩ := hcut
      cases kq with
      | zero => exact absurd HA.out (by simp [spec_l07Uses.j1])
      | succ kj11 =>
       have H := HA.out
       clear HA
       simp only [spec_l07Uses.j1] at H
       by_cases c18 : 0 < ([rd_T45 l0 a1].length : Int)
       ·
        rw [if_pos c18] at H
        have c18b0 : decide (0 < ([rd_T45 l0 a1].length : Int)) = true := decide_eq_true c18
        have c18b1 : decide (0 < [rd_T45 l0 a1].length) = true := decide_eq_true (by omega)
        clear c18
        replace H := Option.bind_eq_some_iff.mp H
        obtain ⟨t156, A190, H⟩ := H
        replace H : (if t156 = true then ((spec_l07Find.f kj11 l0 ((rd_T45 [rd_T45 l0 a1] 0).f3)).bind fun t157 => (if x6_11.length < 17592186044416 then (some (x6_11 ++ [t157])) else (none))) else (some x6_11)) = some r := H
        have A19 := Aside0.mk A190
        clear A190
        by_cases c20 : t156 = true
        ·
         subst c20
         have H1 : ((spec_l07Find.f kj11 l0 ((rd_T45 [rd_T45 l0 a1] 0).f3)).bind fun t157 => (if x6_11.length < 17592186044416 then (some (x6_11 ++ [t157])) else (none))) = some r := by first | (rw [if_pos rfl] at H; exact H) | rfl
         clear H
         have H := H1
         clear H1
         replace H := Option.bind_eq_some_iff.mp H
         obtain ⟨t157, A210, H⟩ := H
         replace H : (if x6_11.length < 17592186044416 then (some (x6_11 ++ [t157])) else (none)) = some r := H
         have A21 := Aside0.mk A210
         clear A210
         by_cases c22 : x6_11.length < 17592186044416
         ·
          rw [if_pos c22] at H
          have LMc22 := Aside0.mk c22
          clear c22
          obtain ⟨y158, hy158⟩ : ∃ y_ : List Int, y_ = (x6_11 ++ [t157]) := ⟨_, rfl⟩
          replace H : (some y158) = some r := by first | (rw [hy158]; with_reducible exact H) | (have H2_ := (Option.bind_some _ _).symm.trans H; rw [hy158]; with_reducible exact H2_) | (have H2_ := (Option.bind_some _ _).symm.trans H; with_reducible exact H2_) | with_reducible exact H | (rw [hy158]; exact H) | exact H
          have Ny158 := Aside0.mk hy158
          clear hy158
          obtain rfl := Option.some.inj H
          have q155 : 0 < ([rd_T45 l0 a1].length : Int) := of_decide_eq_true (by assumption)
          obtain ⟨ad155, e155, hx155_0, hx155_1, hx155_2, hx155_3, hx155_4, hx155_5⟩ := rp_T45 HR143.out q155
          obtain rfl : (Addr.add ad142 (a1.toNat * 6)) = ad155 := (by injection e155)
          replace hx155_0 := (HB.out.cell (World.block_lt_of_cell? w _ hx155_0)).trans hx155_0
          replace hx155_1 := (HB.out.cell (World.block_lt_of_cell? w _ hx155_1)).trans hx155_1
          replace hx155_2 := (HB.out.cell (World.block_lt_of_cell? w _ hx155_2)).trans hx155_2
          replace hx155_3 := (HB.out.cell (World.block_lt_of_cell? w _ hx155_3)).trans hx155_3
          replace hx155_4 := (HB.out.cell (World.block_lt_of_cell? w _ hx155_4)).trans hx155_4
          replace hx155_5 := (HB.out.cell (World.block_lt_of_cell? w _ hx155_5)).trans hx155_5
          go_wp2_with (first | ((with_reducible refine gate_callee (f := 70) rfl ?_); refine goesL_ (some 36) rfl rfl Try.func70 (by kernel_rfl) rfl #[.int .i8 ((rd_T45 [rd_T45 l0 a1] 0).f1)] rfl (by (try simp only [List.map_toArray, List.map_cons, List.map_nil]); first | done | rfl | (simp only [List.length_drop, List.length_take]; rfl)) ?_; (with_reducible refine (spec_l02Two.calls ((rd_T45 [rd_T45 l0 a1] 0).f1) true _ A19.out).mono ?_); rintro e w' ⟨rfl, ⟨nd, rfl⟩⟩; refine ⟨_, rfl, ?_⟩) | ((with_reducible refine gate_callee (f := 89) rfl ?_); refine goesL_ (some 43) rfl rfl Try.func89 (by kernel_rfl) rfl #[.slice (some ad142) l0.length c0, .string ((rd_T45 [rd_T45 l0 a1] 0).f3)] rfl (by (try simp only [List.map_toArray, List.map_cons, List.map_nil]); first | done | rfl | (simp only [List.length_drop, List.length_take]; rfl)) ?_; (with_reducible refine (spec_l07Find.calls kj11 _ _ l0 ((rd_T45 [rd_T45 l0 a1] 0).f3) t157 _ ?side1 ?side2 A21.out).mono ?_); (case side1 => repeat (first | exact (Kd.C_below HR0.out (by repeat (first | (with_reducible first | exact HB.out | apply below_alloc | apply pw_below_drewN | apply below_drew1) | exact HB.out))) | (with_reducible refine Kd.C_alloc ?_ _) | (with_reducible refine Kd.C_drewN ?_ _) | (with_reducible refine Kd.C_drew ?_))); (case side2 => exact HC0.out); rintro e w' ⟨rfl, ⟨nd, rfl⟩⟩; refine ⟨_, rfl, ?_⟩) | ((with_reducible refine gate_builtin (b := .append) (xs := #[.tmp 37, .tmp 44]) rfl ?_); at_builtin; refine Kd.R_append (Kd.int .i64) (w0 := w) w.heap.size rfl (.tmp 37) (.tmp 44) 57 2 (.int .i64 0) 8 rfl Try.underlying57 info2 rfl (by decide) (by omega) u6 x6_11 t157 [.int .i64 t157] (fun _ => True) (fun _ => False) rfl rfl ?aP (fun _ hk => hk.elim) ?aF ?aO ?aB ?aS ?aL ?_; (case aP => exact rfl); (case aB => exact (by repeat (first | (with_reducible first | exact HB.out | apply below_alloc | apply pw_below_drewN | apply below_drew1) | exact HB.out))); (case aF => exact (fun _ _ => trivial)); (case aO => exact (by (with_reducible repeat (first | apply Kd.R_alloc | apply Kd.R_drewN | apply Kd.R_drew)); exact HO_6.out)); (case aS => exact (below_size (by repeat (first | (with_reducible first | exact HB.out | apply below_alloc | apply pw_below_drewN | apply below_drew1) | exact HB.out)))); (case aL => have := LMc22.out; omega); intro v159 w23 ho hb hg hat; rw [← Ny158.out] at ho; have n0_ := Aside0.mk (hb); have n1_ := Aside0.mk (ho); clear HB; clear HO_6; have HB := n0_; have HO160 := n1_; clear n0_ n1_; clear ho hb hg hat))
          go_ret
          exact ⟨_, by first | rfl | (simp [errW_none, errW_some] <;> rfl) | (simp [*, errW_none, errW_some] <;> rfl), by (with_reducible repeat (first | apply Kd.R_alloc | apply Kd.R_drewN | apply Kd.R_drew)); exact HO160.out, by repeat (first | (with_reducible first | exact HB.out | apply below_alloc | apply pw_below_drewN | apply below_drew1) | exact HB.out)⟩
         ·
          rw [if_neg c22] at H
          exact absurd H (by simp)
        ·
         replace c20 := Bool.eq_false_iff.mpr c20
         subst c20
         have H1 : (some x6_11) = some r := by first | (rw [if_neg (show ¬ (false = true) by decide)] at H; exact H) | rfl
         clear H
         have H := H1
         clear H1
         obtain rfl := Option.some.inj H
         have q155 : 0 < ([rd_T45 l0 a1].length : Int) := of_decide_eq_true (by assumption)
         obtain ⟨ad155, e155, hx155_0, hx155_1, hx155_2, hx155_3, hx155_4, hx155_5⟩ := rp_T45 HR143.out q155
         obtain rfl : (Addr.add ad142 (a1.toNat * 6)) = ad155 := (by injection e155)
         replace hx155_0 := (HB.out.cell (World.block_lt_of_cell? w _ hx155_0)).trans hx155_0
         replace hx155_1 := (HB.out.cell (World.block_lt_of_cell? w _ hx155_1)).trans hx155_1
         replace hx155_2 := (HB.out.cell (World.block_lt_of_cell? w _ hx155_2)).trans hx155_2
         replace hx155_3 := (HB.out.cell (World.block_lt_of_cell? w _ hx155_3)).trans hx155_3
         replace hx155_4 := (HB.out.cell (World.block_lt_of_cell? w _ hx155_4)).trans hx155_4
         replace hx155_5 := (HB.out.cell (World.block_lt_of_cell? w _ hx155_5)).trans hx155_5
         go_wp2_with (first | ((with_reducible refine gate_callee (f := 70) rfl ?_); refine goesL_ (some 36) rfl rfl Try.func70 (by kernel_rfl) rfl #[.int .i8 ((rd_T45 [rd_T45 l0 a1] 0).f1)] rfl (by (try simp only [List.map_toArray, List.map_cons, List.map_nil]); first | done | rfl | (simp only [List.length_drop, List.length_take]; rfl)) ?_; (with_reducible refine (spec_l02Two.calls ((rd_T45 [rd_T45 l0 a1] 0).f1) false _ A19.out).mono ?_); rintro e w' ⟨rfl, ⟨nd, rfl⟩⟩; refine ⟨_, rfl, ?_⟩))
         go_ret
         exact ⟨_, by first | rfl | (simp [errW_none, errW_some] <;> rfl) | (simp [*, errW_none, errW_some] <;> rfl), by (with_reducible repeat (first | apply Kd.R_alloc | apply Kd.R_drewN | apply Kd.R_drew)); exact HO_6.out, by repeat (first | (with_reducible first | exact HB.out | apply below_alloc | apply pw_below_drewN | apply below_drew1) | exact HB.out)⟩
       ·
        rw [if_neg c18] at H
        exact absurd H (by simp)
  ·
   rw [if_neg c4] at H
   exact absurd H (by simp)
 ·
  rw [if_neg c3] at H
  exact absurd H (by simp)
/-! ### spec_l07Needs: function 81 -/
def spec_l07Needs.l0 : Nat → List (S45) → Int → List Bool → List Int → Option (List Bool × Bool)
 | 0, _, _, _, _ => none
 | k + 1, x0, x1, x6, x7 => if (x7.length : Int) > 0 then (if 0 < (x7.length : Int) then (if 1 ≤ (x7.length : Int) then ((some (x7.drop (1 : Int).toNat : List Int)).bind fun y168 => (if (rd x7 0) < 0 then (spec_l07Needs.l0 k x0 x1 x6 y168) else (if 0 ≤ (rd x7 0) then (if (rd x7 0) < (x6.length : Int) then (if rdOf false x6 (rd x7 0) = true then (spec_l07Needs.l0 k x0 x1 x6 y168) else ((spec_l07Uses.f k x0 (rd x7 0)).bind fun t173 => (if y168.length + t173.length < 17592186044416 then (spec_l07Needs.l0 k x0 x1 (x6.set ((rd x7 0) : Int).toNat true) (y168 ++ t173)) else (none)))) else (none)) else (none)))) else (none)) else (none)) else (if 0 ≤ x1 then (if x1 < (x6.length : Int) then (some (x6, !(rdOf false x6 x1))) else (none)) else (none))
def spec_l07Needs.f (k : Nat) (l0 : List (S45)) (a1 : Int) : Option (List Bool × Bool) := if 0 ≤ (l0.length : Int) then (if ((l0.length : Int) : Int).toNat ≤ 281474976710656 then ((spec_l07Uses.f k l0 a1).bind fun t164 => (spec_l07Needs.l0 k l0 a1 (List.replicate ((l0.length : Int) : Int).toNat false) t164)) else (none)) else (none)
theorem spec_l07Needs.mono_l : ∀ k, (∀ y0 y1 y2 y3, LeO (spec_l07Needs.l0 k y0 y1 y2 y3) (spec_l07Needs.l0 (k + 1) y0 y1 y2 y3))
 | 0 => fun _ _ _ _ r h => by simp [spec_l07Needs.l0] at h
 | k + 1 => by
  have ih0 := spec_l07Needs.mono_l k
  ·
   intro y0 y1 y2 y3
   unfold spec_l07Needs.l0
   repeat' first
   | (with_reducible exact ih0 _ _ _ _)
   | (with_reducible exact spec_l07Uses.mono _ _ _)
   | (with_reducible exact LeO.refl _)
   | (with_reducible exact LeO.none _)
   | (with_reducible refine LeO.ite ?_ ?_)
   | (with_reducible refine LeO.bind ?_ (fun _ => ?_))
   | exact ih0 _ _ _ _
   | exact LeO.none _
   | refine LeO.ite ?_ ?_
   | refine LeO.bind ?_ (fun _ => ?_)
theorem spec_l07Needs.mono : ∀ a0 a1 k, LeO (spec_l07Needs.f k a0 a1) (spec_l07Needs.f (k + 1) a0 a1) := by
 intro a0 a1 k
 have ih0 := spec_l07Needs.mono_l k
 unfold spec_l07Needs.f
 repeat' first
   | (with_reducible exact ih0 _ _ _ _)
   | (with_reducible exact spec_l07Uses.mono _ _ _)
   | (with_reducible exact LeO.refl _)
   | (with_reducible exact LeO.none _)
   | (with_reducible refine LeO.ite ?_ ?_)
   | (with_reducible refine LeO.bind ?_ (fun _ => ?_))
   | exact ih0 _ _ _ _
   | exact LeO.none _
   | refine LeO.ite ?_ ?_
   | refine LeO.bind ?_ (fun _ => ?_)
set_option maxHeartbeats 8000000 in
set_option maxRecDepth 100000 in
theorem spec_l07Needs.calls (k : Nat) (A0 : Option Addr) (c0 : Nat) (l0 : List (S45)) (a1 : Int) (r1 : List Bool) (r2 : Bool) (w : World) (hr0 : Kd.C k45 w A0 l0.length l0) (hc0 : l0.length ≤ c0) (h : spec_l07Needs.f k l0 a1 = some (r1, r2)) :
  Calls Try.prog 81 #[.slice A0 l0.length c0, .int .i64 a1] w fun e w' => ∃ v0_ : Value, e = .returned (.tuple #[v0_, .bool r2]) ∧ Kd.R Kd.bool 4 w' w.heap.size (fun _ => True) v0_ r1 ∧ Below w.heap.size w w' := by
 have HR0 := Aside0.mk hr0
 have HC0 := Aside0.mk hc0
 clear hr0 hc0
 have HB := Aside0.mk (Below.refl w.heap.size w)
 have H : (if 0 ≤ (l0.length : Int) then (if ((l0.length : Int) : Int).toNat ≤ 281474976710656 then ((spec_l07Uses.f k l0 a1).bind fun t164 => (spec_l07Needs.l0 k l0 a1 (List.replicate ((l0.length : Int) : Int).toNat false) t164)) else (none)) else (none)) = some (r1, r2) := h
 clear h
 by_cases c3 : 0 ≤ (l0.length : Int)
 ·
  rw [if_pos c3] at H
  have c3b0 := eq_true c3
  have c3b1 : decide (0 ≤ (l0.length : Int)) = true := decide_eq_true c3
  clear c3
  by_cases c4 : ((l0.length : Int) : Int).toNat ≤ 281474976710656
  ·
   rw [if_pos c4] at H
   have c4b0 := eq_true c4
   have c4b1 : decide (((l0.length : Int) : Int).toNat ≤ 281474976710656) = true := decide_eq_true c4
   clear c4
   obtain ⟨y161, hy161⟩ : ∃ y_ : List Bool, y_ = (List.replicate ((l0.length : Int) : Int).toNat false) := ⟨_, rfl⟩
   replace H : ((spec_l07Uses.f k l0 a1).bind fun t164 => (spec_l07Needs.l0 k l0 a1 y161 t164)) = some (r1, r2) := by first | (rw [hy161]; with_reducible exact H) | (have H2_ := (Option.bind_some _ _).symm.trans H; rw [hy161]; with_reducible exact H2_) | (have H2_ := (Option.bind_some _ _).symm.trans H; with_reducible exact H2_) | with_reducible exact H | (rw [hy161]; exact H) | exact H
   have Ny161 := Aside0.mk hy161
   clear hy161
   replace H := Option.bind_eq_some_iff.mp H
   obtain ⟨t164, A50, H⟩ := H
   replace H : (spec_l07Needs.l0 k l0 a1 y161 t164) = some (r1, r2) := H
   have A5 := Aside0.mk A50
   clear A50
   have H' := Aside0.mk H
   clear H
   go_enter Try.func81, Try.ntmps81
   go_wp2_with (first | ((with_reducible refine gate_dst (N := 11) rfl ?_); refine Kd.R_make Kd.bool _ 4 rfl (N := 11) rfl 77 _ _ rfl (l0.length : Int) rfl rfl Try.underlying77 (.bool false) 1 info4 rfl (by decide) (by omega) false (ok := fun _ => True) (okp := fun _ => True) rfl (fun _ hk => hk) trivial (of_decide_eq_true (by assumption)) (Nat.le_trans (Nat.mul_le_mul_right _ (of_decide_eq_true (by assumption) : (l0.length : Int).toNat ≤ 281474976710656)) (by omega)) (Below.refl _ _) (Nat.le_refl _) ?_; intro v162 w6 ho7 hb hg_ hnew_; clear hg_ hnew_; (first | rw [← Ny161.out] at ho7 | (simp only [Int.reduceToNat] at ho7; rw [← Ny161.out] at ho7)); have n0_ := Aside0.mk (Kd.R_lower ho7 (below_size (by repeat (first | (with_reducible first | exact HB.out | apply below_alloc | apply pw_below_drewN | apply below_drew1) | exact HB.out)))); have n1_ := Aside0.mk (below_step (by repeat (first | (with_reducible first | exact HB.out | apply below_alloc | apply pw_below_drewN | apply below_drew1) | exact HB.out)) hb); clear HB; have HO163 := n0_; have HB := n1_; clear n0_ n1_; clear hb ho7) | (go_at_call 104; (with_reducible refine (spec_l07Uses.calls k _ _ l0 a1 t164 _ ?side1 ?side2 A5.out).mono ?_); (case side1 => repeat (first | exact (Kd.C_below HR0.out HB.out) | (with_reducible refine Kd.C_alloc ?_ _) | (with_reducible refine Kd.C_drewN ?_ _) | (with_reducible refine Kd.C_drew ?_))); (case side2 => exact HC0.out); rintro e w8 ⟨v165, rfl, ho0, hb⟩; have n0_ := Aside0.mk (Kd.R_below (by (with_reducible repeat (first | apply Kd.R_alloc | apply Kd.R_drewN | apply Kd.R_drew)); exact HO163.out) hb); have n1_ := Aside0.mk (Kd.R_lower ho0 (below_size (by repeat (first | (with_reducible first | exact HB.out | apply below_alloc | apply pw_below_drewN | apply below_drew1) | exact HB.out)))); have n2_ := Aside0.mk (below_step (by repeat (first | (with_reducible first | exact HB.out | apply below_alloc | apply pw_below_drewN | apply below_drew1) | exact HB.out)) hb); clear HO163; clear HB; have HO163 := n0_; have HO166 := n1_; have HB := n2_; clear n0_ n1_ n2_; (try clear hb); (try clear hb2); (try clear hk); (try clear hi); (try clear ho0)))
   repeat (go_quiet (first | ((with_reducible refine gate_dst (N := 11) rfl ?_); refine Kd.R_make Kd.bool _ 4 rfl (N := 11) rfl 77 _ _ rfl (l0.length : Int) rfl rfl Try.underlying77 (.bool false) 1 info4 rfl (by decide) (by omega) false (ok := fun _ => True) (okp := fun _ => True) rfl (fun _ hk => hk) trivial (of_decide_eq_true (by assumption)) (Nat.le_trans (Nat.mul_le_mul_right _ (of_decide_eq_true (by assumption) : (l0.length : Int).toNat ≤ 281474976710656)) (by omega)) (Below.refl _ _) (Nat.le_refl _) ?_; intro v162 w6 ho7 hb hg_ hnew_; clear hg_ hnew_; (first | rw [← Ny161.out] at ho7 | (simp only [Int.reduceToNat] at ho7; rw [← Ny161.out] at ho7)); have n0_ := Aside0.mk (Kd.R_lower ho7 (below_size (by repeat (first | (with_reducible first | exact HB.out | apply below_alloc | apply pw_below_drewN | apply below_drew1) | exact HB.out)))); have n1_ := Aside0.mk (below_step (by repeat (first | (with_reducible first | exact HB.out | apply below_alloc | apply pw_below_drewN | apply below_drew1) | exact HB.out)) hb); clear HB; have HO163 := n0_; have HB := n1_; clear n0_ n1_; clear hb ho7) | (go_at_call 104; (with_reducible refine (spec_l07Uses.calls k _ _ l0 a1 t164 _ ?side1 ?side2 A5.out).mono ?_); (case side1 => repeat (first | exact (Kd.C_below HR0.out HB.out) | (with_reducible refine Kd.C_alloc ?_ _) | (with_reducible refine Kd.C_drewN ?_ _) | (with_reducible refine Kd.C_drew ?_))); (case side2 => exact HC0.out); rintro e w8 ⟨v165, rfl, ho0, hb⟩; have n0_ := Aside0.mk (Kd.R_below (by (with_reducible repeat (first | apply Kd.R_alloc | apply Kd.R_drewN | apply Kd.R_drew)); exact HO163.out) hb); have n1_ := Aside0.mk (Kd.R_lower ho0 (below_size (by repeat (first | (with_reducible first | exact HB.out | apply below_alloc | apply pw_below_drewN | apply below_drew1) | exact HB.out)))); have n2_ := Aside0.mk (below_step (by repeat (first | (with_reducible first | exact HB.out | apply below_alloc | apply pw_below_drewN | apply below_drew1) | exact HB.out)) hb); clear HO163; clear HB; have HO163 := n0_; have HO166 := n1_; have HB := n2_; clear n0_ n1_ n2_; (try clear hb); (try clear hb2); (try clear hk); (try clear hi); (try clear ho0))); try go_wp2_with (first | ((with_reducible refine gate_dst (N := 11) rfl ?_); refine Kd.R_make Kd.bool _ 4 rfl (N := 11) rfl 77 _ _ rfl (l0.length : Int) rfl rfl Try.underlying77 (.bool false) 1 info4 rfl (by decide) (by omega) false (ok := fun _ => True) (okp := fun _ => True) rfl (fun _ hk => hk) trivial (of_decide_eq_true (by assumption)) (Nat.le_trans (Nat.mul_le_mul_right _ (of_decide_eq_true (by assumption) : (l0.length : Int).toNat ≤ 281474976710656)) (by omega)) (Below.refl _ _) (Nat.le_refl _) ?_; intro v162 w6 ho7 hb hg_ hnew_; clear hg_ hnew_; (first | rw [← Ny161.out] at ho7 | (simp only [Int.reduceToNat] at ho7; rw [← Ny161.out] at ho7)); have n0_ := Aside0.mk (Kd.R_lower ho7 (below_size (by repeat (first | (with_reducible first | exact HB.out | apply below_alloc | apply pw_below_drewN | apply below_drew1) | exact HB.out)))); have n1_ := Aside0.mk (below_step (by repeat (first | (with_reducible first | exact HB.out | apply below_alloc | apply pw_below_drewN | apply below_drew1) | exact HB.out)) hb); clear HB; have HO163 := n0_; have HB := n1_; clear n0_ n1_; clear hb ho7) | (go_at_call 104; (with_reducible refine (spec_l07Uses.calls k _ _ l0 a1 t164 _ ?side1 ?side2 A5.out).mono ?_); (case side1 => repeat (first | exact (Kd.C_below HR0.out HB.out) | (with_reducible refine Kd.C_alloc ?_ _) | (with_reducible refine Kd.C_drewN ?_ _) | (with_reducible refine Kd.C_drew ?_))); (case side2 => exact HC0.out); rintro e w8 ⟨v165, rfl, ho0, hb⟩; have n0_ := Aside0.mk (Kd.R_below (by (with_reducible repeat (first | apply Kd.R_alloc | apply Kd.R_drewN | apply Kd.R_drew)); exact HO163.out) hb); have n1_ := Aside0.mk (Kd.R_lower ho0 (below_size (by repeat (first | (with_reducible first | exact HB.out | apply below_alloc | apply pw_below_drewN | apply below_drew1) | exact HB.out)))); have n2_ := Aside0.mk (below_step (by repeat (first | (with_reducible first | exact HB.out | apply below_alloc | apply pw_below_drewN | apply below_drew1) | exact HB.out)) hb); clear HO163; clear HB; have HO163 := n0_; have HO166 := n1_; have HB := n2_; clear n0_ n1_ n2_; (try clear hb); (try clear hb2); (try clear hk); (try clear hi); (try clear ho0))))
   go_loopg [7] k (fun kq v7 w' => ∃ (x6_1 : List Bool) (x7_1 : List Int), Aside0 (spec_l07Needs.l0 kq l0 a1 x6_1 x7_1 = some (r1, r2)) ∧ Aside0 (kq ≤ k) ∧ Aside0 (Kd.R Kd.bool 4 w' w.heap.size (fun _ => True) v162 x6_1) ∧ Aside0 (Kd.Q (Kd.int .i64) 2 w' w.heap.size (fun _ => True) v7 x7_1) ∧ Aside0 (Below w.heap.size w w'))
   case atStart => exact ⟨(y161), (t164), H', ⟨Nat.le_refl _⟩, ⟨by (with_reducible repeat (first | apply Kd.R_alloc | apply Kd.R_drewN | apply Kd.R_drew)); exact HO163.out⟩, ⟨Kd.Q_of_R (by (with_reducible repeat (first | apply Kd.R_alloc | apply Kd.R_drewN | apply Kd.R_drew)); exact HO166.out)⟩, ⟨by repeat (first | (with_reducible first | exact HB.out | apply below_alloc | apply pw_below_drewN | apply below_drew1) | exact HB.out)⟩⟩
   case round =>
    clear H'
    try clear p2
    try clear c3
    try clear c3b0
    try clear c3b1
    try clear c4
    try clear c4b0
    try clear c4b1
    try clear c8
    obtain ⟨x6_1, x7_1, HA, HK1, HO_6, HO_7, HB⟩ := hrel
    cases gk with
    | zero => exact absurd HA.out (by simp [spec_l07Needs.l0])
    | succ k1 =>
     have H := HA.out
     clear HA
     simp only [spec_l07Needs.l0] at H
     by_cases c9 : (x7_1.length : Int) > 0
     ·
      rw [if_pos c9] at H
      have c9b0 : decide (0 < (x7_1.length : Int)) = true := decide_eq_true c9
      have c9b1 : decide (0 < x7_1.length) = true := decide_eq_true (by omega)
      clear c9
      by_cases c10 : 0 < (x7_1.length : Int)
      ·
       rw [if_pos c10] at H
       have c10b0 : decide (0 < (x7_1.length : Int)) = true := decide_eq_true c10
       have c10b1 : decide (0 < x7_1.length) = true := decide_eq_true (by omega)
       clear c10
       by_cases c11 : 1 ≤ (x7_1.length : Int)
       ·
        rw [if_pos c11] at H
        have c11b0 := eq_true c11
        have c11b1 : decide (1 ≤ (x7_1.length : Int)) = true := decide_eq_true c11
        clear c11
        obtain ⟨y168, hy168⟩ : ∃ y_ : List Int, y_ = (x7_1.drop (1 : Int).toNat) := ⟨_, rfl⟩
        replace H : (if (rd x7_1 0) < 0 then (spec_l07Needs.l0 k1 l0 a1 x6_1 y168) else (if 0 ≤ (rd x7_1 0) then (if (rd x7_1 0) < (x6_1.length : Int) then (if rdOf false x6_1 (rd x7_1 0) = true then (spec_l07Needs.l0 k1 l0 a1 x6_1 y168) else ((spec_l07Uses.f k1 l0 (rd x7_1 0)).bind fun t173 => (if y168.length + t173.length < 17592186044416 then (spec_l07Needs.l0 k1 l0 a1 (x6_1.set ((rd x7_1 0) : Int).toNat true) (y168 ++ t173)) else (none)))) else (none)) else (none))) = some (r1, r2) := by first | (rw [hy168]; with_reducible exact H) | (have H2_ := (Option.bind_some _ _).symm.trans H; rw [hy168]; with_reducible exact H2_) | (have H2_ := (Option.bind_some _ _).symm.trans H; with_reducible exact H2_) | with_reducible exact H | (rw [hy168]; exact H) | exact H
        have Ny168 := Aside0.mk hy168
        clear hy168
        by_cases c12 : (rd x7_1 0) < 0
        ·
         rw [if_pos c12] at H
         have c12b0 : decide ((rd x7_1 0) < 0) = true := decide_eq_true c12
         clear c12
         have H' := Aside0.mk H
         clear H
         obtain ⟨Ao13, co13, eo13, _⟩ := Kd.Q_slice HO_7.out
         subst eo13
         have p167 : 0 ≤ (0 : Int) := (by omega)
         have q167 : 0 < (x7_1.length : Int) := of_decide_eq_true (by assumption)
         obtain ⟨ad167, e167, hx167_0⟩ := Kd.at_int (Kd.Q_reads' HO_7.out).2.2 0 p167 q167
         cases e167
         have qi167 : (0 < x7_1.length) = True := eq_true (by omega)
         (try rw [show ((0 : Int)).toNat = 0 from rfl] at hx167_0)
         (try rw [Addr.add_zero'] at hx167_0)
         replace p167 := eq_true p167
         replace q167 := eq_true q167
         have q14 : (1 : Int) ≤ ((x7_1.length : Int) : Int) := of_decide_eq_true (by assumption)
         obtain ⟨i014, hi014, _, hsz14, _⟩ := info_parts info2
         have hcut14 := cut_from (P := Try.prog) 57 2 .i64 Try.underlying57 hi014 1 hsz14 (some ad167) x7_1.length co13 1 (by omega) q14
         have hr14 := Kd.Q_drop (k := (1 : Int).toNat) HO_7.out (by omega)
         obtain ⟨A14, hA14⟩ : ∃ A1, A1 = (if co13 = (1 : Int).toNat then (some ad167) else ((some ad167) : Option Addr).map (·.add ((1 : Int).toNat * 1))) := ⟨_, rfl⟩
         obtain ⟨c14, hc14⟩ : ∃ c1, c1 = co13 - (1 : Int).toNat := ⟨_, rfl⟩
         have hy14 : y168.length = x7_1.length - (1 : Int).toNat := (by rw [Ny168.out, List.length_drop])
         rw [← Ny168.out] at hr14
         rw [← hy14, ← hA14, ← hc14] at hcut14
         replace hr14 : Kd.Q (Kd.int .i64) 2 wr w.heap.size (fun _ => True) (.slice A14 y168.length c14) y168 := (by rw [hA14, hc14, hy14]; exact hr14)
         have HE14 : Aside0 ((Value.slice A14 y168.length c14).ownBlock = (.slice (some ad167) x7_1.length co13 : Value).ownBlock) := ⟨by rw [hA14]; split <;> (cases ((some ad167) : Option Addr) <;> rfl)⟩
         clear hy14 hi014 hsz14 HO_7 hA14 hc14
         have HO170 := Aside0.mk hr14
         clear hr14
         replace q14 := eq_true q14
         go_wp2
         repeat (go_quiet (fail); try go_wp2)
         go_roundg k1
         case measure => have := HK1.out; omega
         case rel => exact ⟨(x6_1), (y168), H', ⟨by have := HK1.out; omega⟩, ⟨by (with_reducible repeat (first | apply Kd.R_alloc | apply Kd.R_drewN | apply Kd.R_drew)); exact HO_6.out⟩, ⟨by (with_reducible repeat (first | apply Kd.Q_alloc | apply Kd.Q_drewN | apply Kd.Q_drew)); exact HO170.out⟩, ⟨by repeat (first | (with_reducible first | exact HB.out | apply below_alloc | apply pw_below_drewN | apply below_drew1) | exact HB.out)⟩⟩
        ·
         rw [if_neg c12] at H
         have c12b0 : decide ((rd x7_1 0) < 0) = false := decide_eq_false c12
         clear c12
         by_cases c15 : 0 ≤ (rd x7_1 0)
         ·
          rw [if_pos c15] at H
          have c15b0 : decide (0 ≤ (rd x7_1 0)) = true := decide_eq_true c15
          clear c15
          by_cases c16 : (rd x7_1 0) < (x6_1.length : Int)
          ·
           rw [if_pos c16] at H
           have c16b0 : decide ((rd x7_1 0) < (x6_1.length : Int)) = true := decide_eq_true c16
           clear c16
           obtain ⟨bq17, hbq17⟩ : ∃ b_ : Bool, b_ = (rdOf false x6_1 (rd x7_1 0)) := ⟨_, rfl⟩
           replace H : (if bq17 = true then (spec_l07Needs.l0 k1 l0 a1 x6_1 y168) else ((spec_l07Uses.f k1 l0 (rd x7_1 0)).bind fun t173 => (if y168.length + t173.length < 17592186044416 then (spec_l07Needs.l0 k1 l0 a1 (x6_1.set ((rd x7_1 0) : Int).toNat true) (y168 ++ t173)) else (none)))) = some (r1, r2) := by rw [← hbq17] at H; exact H
           have Nbq17 := Aside0.mk hbq17
           clear hbq17
           by_cases c18 : bq17 = true
           ·
            subst c18
            have H1 : (spec_l07Needs.l0 k1 l0 a1 x6_1 y168) = some (r1, r2) := by first | (rw [if_pos rfl] at H; exact H) | rfl
            clear H
            have H := H1
            clear H1
            have H' := Aside0.mk H
            clear H
            obtain ⟨Ao19, co19, eo19, _⟩ := Kd.Q_slice HO_7.out
            subst eo19
            have p167 : 0 ≤ (0 : Int) := (by omega)
            have q167 : 0 < (x7_1.length : Int) := of_decide_eq_true (by assumption)
            obtain ⟨ad167, e167, hx167_0⟩ := Kd.at_int (Kd.Q_reads' HO_7.out).2.2 0 p167 q167
            cases e167
            have qi167 : (0 < x7_1.length) = True := eq_true (by omega)
            (try rw [show ((0 : Int)).toNat = 0 from rfl] at hx167_0)
            (try rw [Addr.add_zero'] at hx167_0)
            replace p167 := eq_true p167
            replace q167 := eq_true q167
            have q20 : (1 : Int) ≤ ((x7_1.length : Int) : Int) := of_decide_eq_true (by assumption)
            obtain ⟨i020, hi020, _, hsz20, _⟩ := info_parts info2
            have hcut20 := cut_from (P := Try.prog) 57 2 .i64 Try.underlying57 hi020 1 hsz20 (some ad167) x7_1.length co19 1 (by omega) q20
            have hr20 := Kd.Q_drop (k := (1 : Int).toNat) HO_7.out (by omega)
            obtain ⟨A20, hA20⟩ : ∃ A1, A1 = (if co19 = (1 : Int).toNat then (some ad167) else ((some ad167) : Option Addr).map (·.add ((1 : Int).toNat * 1))) := ⟨_, rfl⟩
            obtain ⟨c20, hc20⟩ : ∃ c1, c1 = co19 - (1 : Int).toNat := ⟨_, rfl⟩
            have hy20 : y168.length = x7_1.length - (1 : Int).toNat := (by rw [Ny168.out, List.length_drop])
            rw [← Ny168.out] at hr20
            rw [← hy20, ← hA20, ← hc20] at hcut20
            replace hr20 : Kd.Q (Kd.int .i64) 2 wr w.heap.size (fun _ => True) (.slice A20 y168.length c20) y168 := (by rw [hA20, hc20, hy20]; exact hr20)
            have HE20 : Aside0 ((Value.slice A20 y168.length c20).ownBlock = (.slice (some ad167) x7_1.length co19 : Value).ownBlock) := ⟨by rw [hA20]; split <;> (cases ((some ad167) : Option Addr) <;> rfl)⟩
            clear hy20 hi020 hsz20 HO_7 hA20 hc20
            have HO170 := Aside0.mk hr20
            clear hr20
            replace q20 := eq_true q20
            obtain ⟨Ao21, co21, eo21⟩ := Kd.R_slice HO_6.out
            subst eo21
            have p171 : 0 ≤ ((rd x7_1 0) : Int) := of_decide_eq_true (by assumption)
            have q171 : (rd x7_1 0) < (x6_1.length : Int) := of_decide_eq_true (by assumption)
            obtain ⟨ad171, e171, hx171_0⟩ := Kd.at_bool (Kd.R_reads' HO_6.out).2.2 (rd x7_1 0) p171 q171
            (try rw [← Nbq17.out] at hx171_0)
            cases e171
            replace p171 := eq_true p171
            replace q171 := eq_true q171
            go_wp2
            repeat (go_quiet (fail); try go_wp2)
            go_roundg k1
            case measure => have := HK1.out; omega
            case rel => exact ⟨(x6_1), (y168), H', ⟨by have := HK1.out; omega⟩, ⟨by (with_reducible repeat (first | apply Kd.R_alloc | apply Kd.R_drewN | apply Kd.R_drew)); exact HO_6.out⟩, ⟨by (with_reducible repeat (first | apply Kd.Q_alloc | apply Kd.Q_drewN | apply Kd.Q_drew)); exact HO170.out⟩, ⟨by repeat (first | (with_reducible first | exact HB.out | apply below_alloc | apply pw_below_drewN | apply below_drew1) | exact HB.out)⟩⟩
           ·
            replace c18 := Bool.eq_false_iff.mpr c18
            subst c18
            have H1 : ((spec_l07Uses.f k1 l0 (rd x7_1 0)).bind fun t173 => (if y168.length + t173.length < 17592186044416 then (spec_l07Needs.l0 k1 l0 a1 (x6_1.set ((rd x7_1 0) : Int).toNat true) (y168 ++ t173)) else (none))) = some (r1, r2) := by first | (rw [if_neg (show ¬ (false = true) by decide)] at H; exact H) | rfl
            clear H
            have H := H1
            clear H1
            obtain ⟨y172, hy172⟩ : ∃ y_ : List Bool, y_ = (x6_1.set ((rd x7_1 0) : Int).toNat true) := ⟨_, rfl⟩
            replace H : ((spec_l07Uses.f k1 l0 (rd x7_1 0)).bind fun t173 => (if y168.length + t173.length < 17592186044416 then (spec_l07Needs.l0 k1 l0 a1 y172 (y168 ++ t173)) else (none))) = some (r1, r2) := by first | (rw [hy172]; with_reducible exact H) | (have H2_ := (Option.bind_some _ _).symm.trans H; rw [hy172]; with_reducible exact H2_) | (have H2_ := (Option.bind_some _ _).symm.trans H; with_reducible exact H2_) | with_reducible exact H | (rw [hy172]; exact H) | exact H
            have Ny172 := Aside0.mk hy172
            clear hy172
            replace H := Option.bind_eq_some_iff.mp H
            obtain ⟨t173, A230, H⟩ := H
            replace H : (if y168.length + t173.length < 17592186044416 then (spec_l07Needs.l0 k1 l0 a1 y172 (y168 ++ t173)) else (none)) = some (r1, r2) := H
            have A23 := Aside0.mk A230
            clear A230
            by_cases c24 : y168.length + t173.length < 17592186044416
            ·
             rw [if_pos c24] at H
             have LMc24 := Aside0.mk c24
             clear c24
             obtain ⟨y176, hy176⟩ : ∃ y_ : List Int, y_ = (y168 ++ t173) := ⟨_, rfl⟩
             replace H : (spec_l07Needs.l0 k1 l0 a1 y172 y176) = some (r1, r2) := by first | (rw [hy176]; with_reducible exact H) | (have H2_ := (Option.bind_some _ _).symm.trans H; rw [hy176]; with_reducible exact H2_) | (have H2_ := (Option.bind_some _ _).symm.trans H; with_reducible exact H2_) | with_reducible exact H | (rw [hy176]; exact H) | exact H
             have Ny176 := Aside0.mk hy176
             clear hy176
             have H' := Aside0.mk H
             clear H
             obtain ⟨Ao25, co25, eo25, _⟩ := Kd.Q_slice HO_7.out
             subst eo25
             have p167 : 0 ≤ (0 : Int) := (by omega)
             have q167 : 0 < (x7_1.length : Int) := of_decide_eq_true (by assumption)
             obtain ⟨ad167, e167, hx167_0⟩ := Kd.at_int (Kd.Q_reads' HO_7.out).2.2 0 p167 q167
             cases e167
             have qi167 : (0 < x7_1.length) = True := eq_true (by omega)
             (try rw [show ((0 : Int)).toNat = 0 from rfl] at hx167_0)
             (try rw [Addr.add_zero'] at hx167_0)
             replace p167 := eq_true p167
             replace q167 := eq_true q167
             have q26 : (1 : Int) ≤ ((x7_1.length : Int) : Int) := of_decide_eq_true (by assumption)
             obtain ⟨i026, hi026, _, hsz26, _⟩ := info_parts info2
             have hcut26 := cut_from (P := Try.prog) 57 2 .i64 Try.underlying57 hi026 1 hsz26 (some ad167) x7_1.length co25 1 (by omega) q26
             have hr26 := Kd.Q_drop (k := (1 : Int).toNat) HO_7.out (by omega)
             obtain ⟨A26, hA26⟩ : ∃ A1, A1 = (if co25 = (1 : Int).toNat then (some ad167) else ((some ad167) : Option Addr).map (·.add ((1 : Int).toNat * 1))) := ⟨_, rfl⟩
             obtain ⟨c26, hc26⟩ : ∃ c1, c1 = co25 - (1 : Int).toNat := ⟨_, rfl⟩
             have hy26 : y168.length = x7_1.length - (1 : Int).toNat := (by rw [Ny168.out, List.length_drop])
             rw [← Ny168.out] at hr26
             rw [← hy26, ← hA26, ← hc26] at hcut26
             replace hr26 : Kd.Q (Kd.int .i64) 2 wr w.heap.size (fun _ => True) (.slice A26 y168.length c26) y168 := (by rw [hA26, hc26, hy26]; exact hr26)
             have HE26 : Aside0 ((Value.slice A26 y168.length c26).ownBlock = (.slice (some ad167) x7_1.length co25 : Value).ownBlock) := ⟨by rw [hA26]; split <;> (cases ((some ad167) : Option Addr) <;> rfl)⟩
             clear hy26 hi026 hsz26 HO_7 hA26 hc26
             have HO170 := Aside0.mk hr26
             clear hr26
             replace q26 := eq_true q26
             obtain ⟨Ao27, co27, eo27⟩ := Kd.R_slice HO_6.out
             subst eo27
             have p171 : 0 ≤ ((rd x7_1 0) : Int) := of_decide_eq_true (by assumption)
             have q171 : (rd x7_1 0) < (x6_1.length : Int) := of_decide_eq_true (by assumption)
             obtain ⟨ad171, e171, hx171_0⟩ := Kd.at_bool (Kd.R_reads' HO_6.out).2.2 (rd x7_1 0) p171 q171
             (try rw [← Nbq17.out] at hx171_0)
             cases e171
             replace p171 := eq_true p171
             replace q171 := eq_true q171
             have p22 : 0 ≤ ((rd x7_1 0) : Int) := of_decide_eq_true (by assumption)
             have q22 : ((rd x7_1 0) : Int) < ((x6_1.length : Int) : Int) := of_decide_eq_true (by assumption)
             obtain ⟨go22, co22, eo22, gb22, gl22, cl22, HG22⟩ := Kd.R_form HO_6.out (by omega)
             (first | cases eo22 | (injection eo22 with ea_ en_ ec_; (first | subst ea_ | (injection ea_ with ea_; subst ea_)); subst ec_; clear en_))
             have GB22 := Aside0.mk gb22
             have GG22 := Aside0.mk HG22
             clear gb22 gl22 HG22
             (first | simp only [add_plain] at hx171_0 | skip)
             obtain ⟨hx22_0, hf22_0⟩ := Kd.R_celln false HO_6.out ((rd x7_1 0) : Int) p22 q22
             replace p22 := eq_true p22
             replace q22 := eq_true q22
             have HP28 := Kd.R_putg HO_6.out ((rd x7_1 0) : Int) true
             go_wp2_with (first | ((with_reducible refine gate_store (t := 4) (p := 33) rfl ?_); (try (rw [drewN_self wr]; generalize hq_ : World.drewN wr _ = wr; have n0_ := Aside0.mk (Kd.R_at hq_ HO_6.out); have n1_ := Aside0.mk (Kd.Q_at hq_ HO170.out); have n2_ := Aside0.mk (below_at hq_ HB.out); clear hq_ HO_6 HO170 HB; have HO_6 := n0_; have HO170 := n1_; have HB := n2_; clear n0_ n1_ n2_; (try (have HP28 := Kd.R_putg HO_6.out ((rd x7_1 0) : Int) true)))); refine store_event (t := 4) (p := 33) (v := ?vo_w29) (w1 := (wr.setCell ⟨go22, ((rd x7_1 0) : Int).toNat, none⟩ (.bool true))) ?hg ?ho ?hn ?hr ?_; (case ho => rfl); (case hg => rfl); (case hn => rfl); (case hr => first | (go_simp; done) | (go_simp; rfl)); intro w29 hw; have hg : wr.grownBy w29 (some go22) := (by rw [hw]; exact HP28.2); have hp_ : Kd.R Kd.bool 4 w29 w.heap.size (fun _ => True) (.slice (some ⟨go22, 0, none⟩) x6_1.length co27) y172 := (by rw [hw, Ny172.out]; exact HP28.1); clear HP28; have n0_ := Aside0.mk (hp_); have n1_ := Aside0.mk (Kd.Q_over' (v := (.slice (some ⟨go22, 0, none⟩) x6_1.length co27)) (by (with_reducible repeat (first | apply Kd.Q_alloc | apply Kd.Q_drewN | apply Kd.Q_drew)); exact HO170.out) (Kd.R_typed HO_6.out) (by decide) hg); have n2_ := Aside0.mk ((by rw [hw]; exact below_set (HB.out) GB22.out : Below w.heap.size w w29)); clear HO_6; clear HO170; clear HB; have HO_6 := n0_; have HO170 := n1_; have HB := n2_; clear n0_ n1_ n2_; clear hg hw hp_) | (go_at_call 104; (with_reducible refine (spec_l07Uses.calls k1 _ _ l0 (rd x7_1 0) t173 _ ?side1 ?side2 A23.out).mono ?_); (case side1 => repeat (first | exact (Kd.C_below HR0.out HB.out) | (with_reducible refine Kd.C_alloc ?_ _) | (with_reducible refine Kd.C_drewN ?_ _) | (with_reducible refine Kd.C_drew ?_))); (case side2 => exact HC0.out); rintro e w30 ⟨v174, rfl, ho0, hb⟩; have n0_ := Aside0.mk (Kd.R_below (by (with_reducible repeat (first | apply Kd.R_alloc | apply Kd.R_drewN | apply Kd.R_drew)); exact HO_6.out) hb); have n1_ := Aside0.mk (Kd.Q_elder' (by (with_reducible repeat (first | apply Kd.Q_alloc | apply Kd.Q_drewN | apply Kd.Q_drew)); exact HO170.out) (Kd.R_base ho0) hb); have n2_ := Aside0.mk (Kd.R_lower (Kd.R_new' ho0 (Kd.Q_lt (by (with_reducible repeat (first | apply Kd.Q_alloc | apply Kd.Q_drewN | apply Kd.Q_drew)); exact HO170.out))) (below_size (by repeat (first | (with_reducible first | exact HB.out | apply below_alloc | apply pw_below_drewN | apply below_drew1) | exact HB.out)))); have n3_ := Aside0.mk (below_step (by repeat (first | (with_reducible first | exact HB.out | apply below_alloc | apply pw_below_drewN | apply below_drew1) | exact HB.out)) hb); clear HO_6; clear HO170; clear HB; have HO_6 := n0_; have HO170 := n1_; have HO175 := n2_; have HB := n3_; clear n0_ n1_ n2_ n3_; (try clear hb); (try clear hb2); (try clear hk); (try clear hi); (try clear ho0); obtain ⟨Ao32, co32, eo32⟩ := Kd.R_slice HO175.out; subst eo32) | ((with_reducible refine gate_builtin (b := .append) (xs := #[.tmp 34, .tmp 37]) rfl ?_); at_builtin; refine Kd.Q_append_rows (Kd.int .i64) (w0 := w) w.heap.size rfl (.tmp 34) (.tmp 37) 57 2 (.int .i64 0) 8 rfl Try.underlying57 info2 rfl (by decide) (by omega) (.slice A26 y168.length c26) y168 t173 _ _ _ (fun k_ => some k_ ≠ (.slice Ao32 t173.length co32 : Value).ownBlock) (fun _ => False) rfl rfl ?aO ?aR (fun _ _ h => h) (fun _ h => h.elim) ?aF ?aB ?aS ?aL ?_; (case aR => repeat (first | exact (Kd.R_reads' HO175.out).2.2 | (with_reducible refine Kd.C_alloc ?_ _) | (with_reducible refine Kd.C_drewN ?_ _) | (with_reducible refine Kd.C_drew ?_))); (case aB => exact (by repeat (first | (with_reducible first | exact HB.out | apply below_alloc | apply pw_below_drewN | apply below_drew1) | exact HB.out))); (case aF => exact (fun k_ hk => Kd.fresh' (Kd.R_lt (by (with_reducible repeat (first | apply Kd.R_alloc | apply Kd.R_drewN | apply Kd.R_drew)); exact HO175.out)) k_ hk)); (case aO => exact (by (with_reducible repeat (first | apply Kd.Q_alloc | apply Kd.Q_drewN | apply Kd.Q_drew)); exact Kd.Q_mono HO170.out (fun _ hk => hk.2))); (case aS => exact (below_size (by repeat (first | (with_reducible first | exact HB.out | apply below_alloc | apply pw_below_drewN | apply below_drew1) | exact HB.out)))); (case aL => have := LMc24.out; omega); intro v177 w31 ho hb hg hat; rw [← Ny176.out] at ho; have n0_ := Aside0.mk (Kd.R_over' (by (with_reducible repeat (first | apply Kd.R_alloc | apply Kd.R_drewN | apply Kd.R_drew)); exact HO_6.out) (Kd.Q_typed (by (with_reducible repeat (first | apply Kd.Q_alloc | apply Kd.Q_drewN | apply Kd.Q_drew)); exact HO170.out)) (by decide) hg); have n1_ := Aside0.mk (Kd.R_after (ok := (fun _ => True)) (by (with_reducible repeat (first | apply Kd.R_alloc | apply Kd.R_drewN | apply Kd.R_drew)); exact HO175.out) hg hat); have n2_ := Aside0.mk (hb); have n3_ := Aside0.mk (ho); clear HO_6; clear HO175; clear HB; clear HO170; have HO_6 := n0_; have HO175 := n1_; have HB := n2_; have HO178 := n3_; clear n0_ n1_ n2_ n3_; clear ho hb hg hat))
             repeat (go_quiet (first | ((with_reducible refine gate_store (t := 4) (p := 33) rfl ?_); (try (rw [drewN_self wr]; generalize hq_ : World.drewN wr _ = wr; have n0_ := Aside0.mk (Kd.R_at hq_ HO_6.out); have n1_ := Aside0.mk (Kd.Q_at hq_ HO170.out); have n2_ := Aside0.mk (below_at hq_ HB.out); clear hq_ HO_6 HO170 HB; have HO_6 := n0_; have HO170 := n1_; have HB := n2_; clear n0_ n1_ n2_; (try (have HP28 := Kd.R_putg HO_6.out ((rd x7_1 0) : Int) true)))); refine store_event (t := 4) (p := 33) (v := ?vo_w29) (w1 := (wr.setCell ⟨go22, ((rd x7_1 0) : Int).toNat, none⟩ (.bool true))) ?hg ?ho ?hn ?hr ?_; (case ho => rfl); (case hg => rfl); (case hn => rfl); (case hr => first | (go_simp; done) | (go_simp; rfl)); intro w29 hw; have hg : wr.grownBy w29 (some go22) := (by rw [hw]; exact HP28.2); have hp_ : Kd.R Kd.bool 4 w29 w.heap.size (fun _ => True) (.slice (some ⟨go22, 0, none⟩) x6_1.length co27) y172 := (by rw [hw, Ny172.out]; exact HP28.1); clear HP28; have n0_ := Aside0.mk (hp_); have n1_ := Aside0.mk (Kd.Q_over' (v := (.slice (some ⟨go22, 0, none⟩) x6_1.length co27)) (by (with_reducible repeat (first | apply Kd.Q_alloc | apply Kd.Q_drewN | apply Kd.Q_drew)); exact HO170.out) (Kd.R_typed HO_6.out) (by decide) hg); have n2_ := Aside0.mk ((by rw [hw]; exact below_set (HB.out) GB22.out : Below w.heap.size w w29)); clear HO_6; clear HO170; clear HB; have HO_6 := n0_; have HO170 := n1_; have HB := n2_; clear n0_ n1_ n2_; clear hg hw hp_) | (go_at_call 104; (with_reducible refine (spec_l07Uses.calls k1 _ _ l0 (rd x7_1 0) t173 _ ?side1 ?side2 A23.out).mono ?_); (case side1 => repeat (first | exact (Kd.C_below HR0.out HB.out) | (with_reducible refine Kd.C_alloc ?_ _) | (with_reducible refine Kd.C_drewN ?_ _) | (with_reducible refine Kd.C_drew ?_))); (case side2 => exact HC0.out); rintro e w30 ⟨v174, rfl, ho0, hb⟩; have n0_ := Aside0.mk (Kd.R_below (by (with_reducible repeat (first | apply Kd.R_alloc | apply Kd.R_drewN | apply Kd.R_drew)); exact HO_6.out) hb); have n1_ := Aside0.mk (Kd.Q_elder' (by (with_reducible repeat (first | apply Kd.Q_alloc | apply Kd.Q_drewN | apply Kd.Q_drew)); exact HO170.out) (Kd.R_base ho0) hb); have n2_ := Aside0.mk (Kd.R_lower (Kd.R_new' ho0 (Kd.Q_lt (by (with_reducible repeat (first | apply Kd.Q_alloc | apply Kd.Q_drewN | apply Kd.Q_drew)); exact HO170.out))) (below_size (by repeat (first | (with_reducible first | exact HB.out | apply below_alloc | apply pw_below_drewN | apply below_drew1) | exact HB.out)))); have n3_ := Aside0.mk (below_step (by repeat (first | (with_reducible first | exact HB.out | apply below_alloc | apply pw_below_drewN | apply below_drew1) | exact HB.out)) hb); clear HO_6; clear HO170; clear HB; have HO_6 := n0_; have HO170 := n1_; have HO175 := n2_; have HB := n3_; clear n0_ n1_ n2_ n3_; (try clear hb); (try clear hb2); (try clear hk); (try clear hi); (try clear ho0); obtain ⟨Ao32, co32, eo32⟩ := Kd.R_slice HO175.out; subst eo32) | ((with_reducible refine gate_builtin (b := .append) (xs := #[.tmp 34, .tmp 37]) rfl ?_); at_builtin; refine Kd.Q_append_rows (Kd.int .i64) (w0 := w) w.heap.size rfl (.tmp 34) (.tmp 37) 57 2 (.int .i64 0) 8 rfl Try.underlying57 info2 rfl (by decide) (by omega) (.slice A26 y168.length c26) y168 t173 _ _ _ (fun k_ => some k_ ≠ (.slice Ao32 t173.length co32 : Value).ownBlock) (fun _ => False) rfl rfl ?aO ?aR (fun _ _ h => h) (fun _ h => h.elim) ?aF ?aB ?aS ?aL ?_; (case aR => repeat (first | exact (Kd.R_reads' HO175.out).2.2 | (with_reducible refine Kd.C_alloc ?_ _) | (with_reducible refine Kd.C_drewN ?_ _) | (with_reducible refine Kd.C_drew ?_))); (case aB => exact (by repeat (first | (with_reducible first | exact HB.out | apply below_alloc | apply pw_below_drewN | apply below_drew1) | exact HB.out))); (case aF => exact (fun k_ hk => Kd.fresh' (Kd.R_lt (by (with_reducible repeat (first | apply Kd.R_alloc | apply Kd.R_drewN | apply Kd.R_drew)); exact HO175.out)) k_ hk)); (case aO => exact (by (with_reducible repeat (first | apply Kd.Q_alloc | apply Kd.Q_drewN | apply Kd.Q_drew)); exact Kd.Q_mono HO170.out (fun _ hk => hk.2))); (case aS => exact (below_size (by repeat (first | (with_reducible first | exact HB.out | apply below_alloc | apply pw_below_drewN | apply below_drew1) | exact HB.out)))); (case aL => have := LMc24.out; omega); intro v177 w31 ho hb hg hat; rw [← Ny176.out] at ho; have n0_ := Aside0.mk (Kd.R_over' (by (with_reducible repeat (first | apply Kd.R_alloc | apply Kd.R_drewN | apply Kd.R_drew)); exact HO_6.out) (Kd.Q_typed (by (with_reducible repeat (first | apply Kd.Q_alloc | apply Kd.Q_drewN | apply Kd.Q_drew)); exact HO170.out)) (by decide) hg); have n1_ := Aside0.mk (Kd.R_after (ok := (fun _ => True)) (by (with_reducible repeat (first | apply Kd.R_alloc | apply Kd.R_drewN | apply Kd.R_drew)); exact HO175.out) hg hat); have n2_ := Aside0.mk (hb); have n3_ := Aside0.mk (ho); clear HO_6; clear HO175; clear HB; clear HO170; have HO_6 := n0_; have HO175 := n1_; have HB := n2_; have HO178 := n3_; clear n0_ n1_ n2_ n3_; clear ho hb hg hat)); try go_wp2_with (first | ((with_reducible refine gate_store (t := 4) (p := 33) rfl ?_); (try (rw [drewN_self wr]; generalize hq_ : World.drewN wr _ = wr; have n0_ := Aside0.mk (Kd.R_at hq_ HO_6.out); have n1_ := Aside0.mk (Kd.Q_at hq_ HO170.out); have n2_ := Aside0.mk (below_at hq_ HB.out); clear hq_ HO_6 HO170 HB; have HO_6 := n0_; have HO170 := n1_; have HB := n2_; clear n0_ n1_ n2_; (try (have HP28 := Kd.R_putg HO_6.out ((rd x7_1 0) : Int) true)))); refine store_event (t := 4) (p := 33) (v := ?vo_w29) (w1 := (wr.setCell ⟨go22, ((rd x7_1 0) : Int).toNat, none⟩ (.bool true))) ?hg ?ho ?hn ?hr ?_; (case ho => rfl); (case hg => rfl); (case hn => rfl); (case hr => first | (go_simp; done) | (go_simp; rfl)); intro w29 hw; have hg : wr.grownBy w29 (some go22) := (by rw [hw]; exact HP28.2); have hp_ : Kd.R Kd.bool 4 w29 w.heap.size (fun _ => True) (.slice (some ⟨go22, 0, none⟩) x6_1.length co27) y172 := (by rw [hw, Ny172.out]; exact HP28.1); clear HP28; have n0_ := Aside0.mk (hp_); have n1_ := Aside0.mk (Kd.Q_over' (v := (.slice (some ⟨go22, 0, none⟩) x6_1.length co27)) (by (with_reducible repeat (first | apply Kd.Q_alloc | apply Kd.Q_drewN | apply Kd.Q_drew)); exact HO170.out) (Kd.R_typed HO_6.out) (by decide) hg); have n2_ := Aside0.mk ((by rw [hw]; exact below_set (HB.out) GB22.out : Below w.heap.size w w29)); clear HO_6; clear HO170; clear HB; have HO_6 := n0_; have HO170 := n1_; have HB := n2_; clear n0_ n1_ n2_; clear hg hw hp_) | (go_at_call 104; (with_reducible refine (spec_l07Uses.calls k1 _ _ l0 (rd x7_1 0) t173 _ ?side1 ?side2 A23.out).mono ?_); (case side1 => repeat (first | exact (Kd.C_below HR0.out HB.out) | (with_reducible refine Kd.C_alloc ?_ _) | (with_reducible refine Kd.C_drewN ?_ _) | (with_reducible refine Kd.C_drew ?_))); (case side2 => exact HC0.out); rintro e w30 ⟨v174, rfl, ho0, hb⟩; have n0_ := Aside0.mk (Kd.R_below (by (with_reducible repeat (first | apply Kd.R_alloc | apply Kd.R_drewN | apply Kd.R_drew)); exact HO_6.out) hb); have n1_ := Aside0.mk (Kd.Q_elder' (by (with_reducible repeat (first | apply Kd.Q_alloc | apply Kd.Q_drewN | apply Kd.Q_drew)); exact HO170.out) (Kd.R_base ho0) hb); have n2_ := Aside0.mk (Kd.R_lower (Kd.R_new' ho0 (Kd.Q_lt (by (with_reducible repeat (first | apply Kd.Q_alloc | apply Kd.Q_drewN | apply Kd.Q_drew)); exact HO170.out))) (below_size (by repeat (first | (with_reducible first | exact HB.out | apply below_alloc | apply pw_below_drewN | apply below_drew1) | exact HB.out)))); have n3_ := Aside0.mk (below_step (by repeat (first | (with_reducible first | exact HB.out | apply below_alloc | apply pw_below_drewN | apply below_drew1) | exact HB.out)) hb); clear HO_6; clear HO170; clear HB; have HO_6 := n0_; have HO170 := n1_; have HO175 := n2_; have HB := n3_; clear n0_ n1_ n2_ n3_; (try clear hb); (try clear hb2); (try clear hk); (try clear hi); (try clear ho0); obtain ⟨Ao32, co32, eo32⟩ := Kd.R_slice HO175.out; subst eo32) | ((with_reducible refine gate_builtin (b := .append) (xs := #[.tmp 34, .tmp 37]) rfl ?_); at_builtin; refine Kd.Q_append_rows (Kd.int .i64) (w0 := w) w.heap.size rfl (.tmp 34) (.tmp 37) 57 2 (.int .i64 0) 8 rfl Try.underlying57 info2 rfl (by decide) (by omega) (.slice A26 y168.length c26) y168 t173 _ _ _ (fun k_ => some k_ ≠ (.slice Ao32 t173.length co32 : Value).ownBlock) (fun _ => False) rfl rfl ?aO ?aR (fun _ _ h => h) (fun _ h => h.elim) ?aF ?aB ?aS ?aL ?_; (case aR => repeat (first | exact (Kd.R_reads' HO175.out).2.2 | (with_reducible refine Kd.C_alloc ?_ _) | (with_reducible refine Kd.C_drewN ?_ _) | (with_reducible refine Kd.C_drew ?_))); (case aB => exact (by repeat (first | (with_reducible first | exact HB.out | apply below_alloc | apply pw_below_drewN | apply below_drew1) | exact HB.out))); (case aF => exact (fun k_ hk => Kd.fresh' (Kd.R_lt (by (with_reducible repeat (first | apply Kd.R_alloc | apply Kd.R_drewN | apply Kd.R_drew)); exact HO175.out)) k_ hk)); (case aO => exact (by (with_reducible repeat (first | apply Kd.Q_alloc | apply Kd.Q_drewN | apply Kd.Q_drew)); exact Kd.Q_mono HO170.out (fun _ hk => hk.2))); (case aS => exact (below_size (by repeat (first | (with_reducible first | exact HB.out | apply below_alloc | apply pw_below_drewN | apply below_drew1) | exact HB.out)))); (case aL => have := LMc24.out; omega); intro v177 w31 ho hb hg hat; rw [← Ny176.out] at ho; have n0_ := Aside0.mk (Kd.R_over' (by (with_reducible repeat (first | apply Kd.R_alloc | apply Kd.R_drewN | apply Kd.R_drew)); exact HO_6.out) (Kd.Q_typed (by (with_reducible repeat (first | apply Kd.Q_alloc | apply Kd.Q_drewN | apply Kd.Q_drew)); exact HO170.out)) (by decide) hg); have n1_ := Aside0.mk (Kd.R_after (ok := (fun _ => True)) (by (with_reducible repeat (first | apply Kd.R_alloc | apply Kd.R_drewN | apply Kd.R_drew)); exact HO175.out) hg hat); have n2_ := Aside0.mk (hb); have n3_ := Aside0.mk (ho); clear HO_6; clear HO175; clear HB; clear HO170; have HO_6 := n0_; have HO175 := n1_; have HB := n2_; have HO178 := n3_; clear n0_ n1_ n2_ n3_; clear ho hb hg hat)))
             go_roundg k1
             case measure => have := HK1.out; omega
             case rel => exact ⟨(y172), (y176), H', ⟨by have := HK1.out; omega⟩, ⟨by (with_reducible repeat (first | apply Kd.R_alloc | apply Kd.R_drewN | apply Kd.R_drew)); exact HO_6.out⟩, ⟨by (with_reducible repeat (first | apply Kd.Q_alloc | apply Kd.Q_drewN | apply Kd.Q_drew)); exact Kd.Q_mono HO178.out (fun _ hk => trivial)⟩, ⟨by repeat (first | (with_reducible first | exact HB.out | apply below_alloc | apply pw_below_drewN | apply below_drew1) | exact HB.out)⟩⟩
            ·
             rw [if_neg c24] at H
             exact absurd H (by simp)
          ·
           rw [if_neg c16] at H
           exact absurd H (by simp)
         ·
          rw [if_neg c15] at H
          exact absurd H (by simp)
       ·
        rw [if_neg c11] at H
        exact absurd H (by simp)
      ·
       rw [if_neg c10] at H
       exact absurd H (by simp)
     ·
      rw [if_neg c9] at H
      have c9b0 : decide (0 < (x7_1.length : Int)) = false := decide_eq_false c9
      have c9b1 : decide (0 < x7_1.length) = false := decide_eq_false (by omega)
      clear c9
      by_cases c33 : 0 ≤ a1
      ·
       rw [if_pos c33] at H
       have c33b0 : decide (0 ≤ a1) = true := decide_eq_true c33
       clear c33
       by_cases c34 : a1 < (x6_1.length : Int)
       ·
        rw [if_pos c34] at H
        have c34b0 : decide (a1 < (x6_1.length : Int)) = true := decide_eq_true c34
        clear c34
        simp only [Option.some.injEq, Prod.mk.injEq] at H
        obtain ⟨rfl, rfl⟩ := H
        obtain ⟨Ao35, co35, eo35, _⟩ := Kd.Q_slice HO_7.out
        subst eo35
        obtain ⟨Ao36, co36, eo36⟩ := Kd.R_slice HO_6.out
        subst eo36
        have p179 : 0 ≤ (a1 : Int) := of_decide_eq_true (by assumption)
        have q179 : a1 < (x6_1.length : Int) := of_decide_eq_true (by assumption)
        obtain ⟨ad179, e179, hx179_0⟩ := Kd.at_bool (Kd.R_reads' HO_6.out).2.2 a1 p179 q179
        cases e179
        replace p179 := eq_true p179
        replace q179 := eq_true q179
        go_wp2
        repeat (go_quiet (fail); try go_wp2)
        go_ret2
        exact ⟨_, by first | rfl | (simp [errW_none, errW_some] <;> rfl) | (simp [*, errW_none, errW_some] <;> rfl), by (with_reducible repeat (first | apply Kd.R_alloc | apply Kd.R_drewN | apply Kd.R_drew)); exact HO_6.out, by repeat (first | (with_reducible first | exact HB.out | apply below_alloc | apply pw_below_drewN | apply below_drew1) | exact HB.out)⟩
       ·
        rw [if_neg c34] at H
        exact absurd H (by simp)
      ·
       rw [if_neg c33] at H
       exact absurd H (by simp)
  ·
   rw [if_neg c4] at H
   exact absurd H (by simp)
 ·
  rw [if_neg c3] at H
  exact absurd H (by simp)
end Go.Proofs.Ytenhgmddpkiliaa.PB

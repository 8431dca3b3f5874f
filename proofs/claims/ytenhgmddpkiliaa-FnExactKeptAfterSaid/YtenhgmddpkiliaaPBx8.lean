import Derived.Test.YtenhgmddpkiliaaPBx0
import Derived.Test.YtenhgmddpkiliaaPBl07Line
import Derived.Test.YtenhgmddpkiliaaPBx2
import Derived.Test.YtenhgmddpkiliaaPBx3
namespace Go.Proofs.Ytenhgmddpkiliaa.PB
open Go.RowKit Go.Proofs.YtenhgmddpkiliaaW.PrintWords Go.Proofs.YtenhgmddpkiliaaW.PrintLast Go.Proofs.YtenhgmddpkiliaaW.PrintMore Go.Proofs.YtenhgmddpkiliaaRP
attribute [local go_sem] max2_int min2_int max_two min_two max_three min_three max_four min_four Go.Proofs.YtenhgmddpkiliaaRP.max_eight Go.Proofs.YtenhgmddpkiliaaRP.tmod_len   -- for this text's walks alone
set_option linter.unusedVariables false
set_option linter.unusedSimpArgs false
theorem z8_1_ {P : Prop} (h : P := by repeat (first | (with_reducible first | exact HB.out | apply below_alloc | apply pw_below_drewN | apply below_drew1 | refine below_set ?_ GE199.out) | exact HB.out)) : P := h
theorem z8_2_ {P : Prop} (h : P := by repeat (first | (with_reducible first | exact HB.out | apply below_alloc | apply pw_below_drewN | apply below_drew1) | exact HB.out)) : P := h
theorem z8_3_ {P : Prop} (h : P := by (with_reducible repeat (first | refine blk_drewN ?_ _ | refine blk_drew ?_ | refine blk_alloc ?_ _)); exact BK199.out) : P := h
theorem z8_4_ {P : Prop} (h : P := by (try simp only [List.map_toArray, List.map_cons, List.map_nil]); first | done | rfl | (simp only [List.length_drop, List.length_take]; rfl)) : P := h
theorem z8_5_ {P : Prop} (h : P := by (with_reducible repeat (first | apply Kd.R_alloc | apply Kd.R_drewN | apply Kd.R_drew)); exact HO205.out) : P := h
theorem z8_6_ {P : Prop} (h : P := by first | rfl | (simp [errW_none, errW_some] <;> rfl) | (simp [*, errW_none, errW_some] <;> rfl)) : P := h
theorem z8_7_ {P : Prop} (h : P := by (with_reducible repeat (first | apply Kd.R_alloc | apply Kd.R_drewN | apply Kd.R_drew)); exact Kd.R_mono HO202.out (fun _ hk => hk.2)) : P := h
theorem z8_8_ {P : Prop} (h : P := by first | rfl | (simp; done) | (simp [*]; done) | (simp [isE_]; done)) : P := h
theorem z8_9_ {P : Prop} (h : P := by (with_reducible repeat (first | apply Kd.R_alloc | apply Kd.R_drewN | apply Kd.R_drew)); exact HO212.out) : P := h
theorem z8_10_ {P : Prop} (h : P := by (try simp only [List.map_toArray, List.map_cons, List.map_nil]); first | done | (rw [show y217.length = y203.length from (Kd.R_reads' HO205.out).1.symm] <;> rfl) | rfl | (simp only [List.length_drop, List.length_take]; rfl)) : P := h
/-! ### spec_l07Ok: function 64 -/
mutual
def spec_l07Ok.l0 : Nat → List (S45) → Int → Option (Bool)
 | 0, _, _ => none
 | k + 1, x0, x3 => if x3 < (x0.length : Int) then (if 0 ≤ x3 then ((spec_l07Line.f k [rd_T45 x0 x3]).bind fun t188 => (if t188 = true then ((spec_l07Find.f k x0 ((rd_T45 x0 x3).f0)).bind fun t190 => (spec_l07Ok.j1 k x0 x3 (t190 != x3))) else (spec_l07Ok.j1 k x0 x3 true))) else (none)) else (spec_l07Ok.l2 k x0 0)
def spec_l07Ok.j1 : Nat → List (S45) → Int → Bool → Option (Bool)
 | 0, _, _, _ => none
 | k + 1, x0, x3, x33 => if x33 = true then (some false) else ((spec_l07Uses.f k x0 x3).bind fun t191 => (spec_l07Ok.l1 k x0 x3 t191 0))
def spec_l07Ok.l1 : Nat → List (S45) → Int → List Int → Int → Option (Bool)
 | 0, _, _, _, _ => none
 | k + 1, x0, x3, x4, x5 => if x5 < (x4.length : Int) then (if 0 ≤ x5 then (if (rd x4 x5) < 0 then (some false) else (spec_l07Ok.l1 k x0 x3 x4 (wrap64 (x5 + 1)))) else (none)) else (spec_l07Ok.l0 k x0 (wrap64 (x3 + 1)))
def spec_l07Ok.l2 : Nat → List (S45) → Int → Option (Bool)
 | 0, _, _ => none
 | k + 1, x0, x6 => if x6 < (x0.length : Int) then ((spec_l07Needs.f k x0 x6).bind fun bt195 => (if bt195.2 = true then (spec_l07Ok.l2 k x0 (wrap64 (x6 + 1))) else (some false))) else (some true)
end
def spec_l07Ok.f (k : Nat) (l0 : List (S45)) : Option (Bool) := if (l0.length : Int) > 24 then (some false) else (spec_l07Ok.l0 k l0 0)
theorem spec_l07Ok.mono_l : ∀ k, (∀ y0 y1, LeO (spec_l07Ok.l0 k y0 y1) (spec_l07Ok.l0 (k + 1) y0 y1)) ∧ (∀ y0 y1 y2, LeO (spec_l07Ok.j1 k y0 y1 y2) (spec_l07Ok.j1 (k + 1) y0 y1 y2)) ∧ (∀ y0 y1 y2 y3, LeO (spec_l07Ok.l1 k y0 y1 y2 y3) (spec_l07Ok.l1 (k + 1) y0 y1 y2 y3)) ∧ (∀ y0 y1, LeO (spec_l07Ok.l2 k y0 y1) (spec_l07Ok.l2 (k + 1) y0 y1))
 | 0 => ⟨fun _ _ r h => by simp [spec_l07Ok.l0] at h, fun _ _ _ r h => by simp [spec_l07Ok.j1] at h, fun _ _ _ _ r h => by simp [spec_l07Ok.l1] at h, fun _ _ r h => by simp [spec_l07Ok.l2] at h⟩
 | k + 1 => by
  obtain ⟨ih0, ih1, ih2, ih3⟩ := spec_l07Ok.mono_l k
  refine ⟨?_, ?_, ?_, ?_⟩
  ·
   intro y0 y1
   unfold spec_l07Ok.l0
   repeat' first
   | (with_reducible exact ih0 _ _)
   | (with_reducible exact ih1 _ _ _)
   | (with_reducible exact ih2 _ _ _ _)
   | (with_reducible exact ih3 _ _)
   | (with_reducible exact spec_l07Find.mono _ _ _)
   | (with_reducible exact spec_l07Line.mono _ _)
   | (with_reducible exact spec_l07Needs.mono _ _ _)
   | (with_reducible exact spec_l07Uses.mono _ _ _)
   | (with_reducible exact LeO.refl _)
   | (with_reducible exact LeO.none _)
   | (with_reducible refine LeO.ite ?_ ?_)
   | (with_reducible refine LeO.bind ?_ (fun _ => ?_))
   | exact ih0 _ _
   | exact ih1 _ _ _
   | exact ih2 _ _ _ _
   | exact ih3 _ _
   | exact LeO.none _
   | refine LeO.ite ?_ ?_
   | refine LeO.bind ?_ (fun _ => ?_)
  ·
   intro y0 y1 y2
   unfold spec_l07Ok.j1
   repeat' first
   | (with_reducible exact ih0 _ _)
   | (with_reducible exact ih1 _ _ _)
   | (with_reducible exact ih2 _ _ _ _)
   | (with_reducible exact ih3 _ _)
   | (with_reducible exact spec_l07Find.mono _ _ _)
   | (with_reducible exact spec_l07Line.mono _ _)
   | (with_reducible exact spec_l07Needs.mono _ _ _)
   | (with_reducible exact spec_l07Uses.mono _ _ _)
   | (with_reducible exact LeO.refl _)
   | (with_reducible exact LeO.none _)
   | (with_reducible refine LeO.ite ?_ ?_)
   | (with_reducible refine LeO.bind ?_ (fun _ => ?_))
   | exact ih0 _ _
   | exact ih1 _ _ _
   | exact ih2 _ _ _ _
   | exact ih3 _ _
   | exact LeO.none _
   | refine LeO.ite ?_ ?_
   | refine LeO.bind ?_ (fun _ => ?_)
  ·
   intro y0 y1 y2 y3
   unfold spec_l07Ok.l1
   repeat' first
   | (with_reducible exact ih0 _ _)
   | (with_reducible exact ih1 _ _ _)
   | (with_reducible exact ih2 _ _ _ _)
   | (with_reducible exact ih3 _ _)
   | (with_reducible exact spec_l07Find.mono _ _ _)
   | (with_reducible exact spec_l07Line.mono _ _)
   | (with_reducible exact spec_l07Needs.mono _ _ _)
   | (with_reducible exact spec_l07Uses.mono _ _ _)
   | (with_reducible exact LeO.refl _)
   | (with_reducible exact LeO.none _)
   | (with_reducible refine LeO.ite ?_ ?_)
   | (with_reducible refine LeO.bind ?_ (fun _ => ?_))
   | exact ih0 _ _
   | exact ih1 _ _ _
   | exact ih2 _ _ _ _
   | exact ih3 _ _
   | exact LeO.none _
   | refine LeO.ite ?_ ?_
   | refine LeO.bind ?_ (fun _ => ?_)
  ·
   intro y0 y1
   unfold spec_l07Ok.l2
   repeat' first
   | (with_reducible exact ih0 _ _)
   | (with_reducible exact ih1 _ _ _)
   | (with_reducible exact ih2 _ _ _ _)
   | (with_reducible exact ih3 _ _)
   | (with_reducible exact spec_l07Find.mono _ _ _)
   | (with_reducible exact spec_l07Line.mono _ _)
   | (with_reducible exact spec_l07Needs.mono _ _ _)
   | (with_reducible exact spec_l07Uses.mono _ _ _)
   | (with_reducible exact LeO.refl _)
   | (with_reducible exact LeO.none _)
   | (with_reducible refine LeO.ite ?_ ?_)
   | (with_reducible refine LeO.bind ?_ (fun _ => ?_))
   | exact ih0 _ _
   | exact ih1 _ _ _
   | exact ih2 _ _ _ _
   | exact ih3 _ _
   | exact LeO.none _
   | refine LeO.ite ?_ ?_
   | refine LeO.bind ?_ (fun _ => ?_)
theorem spec_l07Ok.mono : ∀ a0 k, LeO (spec_l07Ok.f k a0) (spec_l07Ok.f (k + 1) a0) := by
 intro a0 k
 obtain ⟨ih0, ih1, ih2, ih3⟩ := spec_l07Ok.mono_l k
 unfold spec_l07Ok.f
 repeat' first
   | (with_reducible exact ih0 _ _)
   | (with_reducible exact ih1 _ _ _)
   | (with_reducible exact ih2 _ _ _ _)
   | (with_reducible exact ih3 _ _)
   | (with_reducible exact spec_l07Find.mono _ _ _)
   | (with_reducible exact spec_l07Line.mono _ _)
   | (with_reducible exact spec_l07Needs.mono _ _ _)
   | (with_reducible exact spec_l07Uses.mono _ _ _)
   | (with_reducible exact LeO.refl _)
   | (with_reducible exact LeO.none _)
   | (with_reducible refine LeO.ite ?_ ?_)
   | (with_reducible refine LeO.bind ?_ (fun _ => ?_))
   | exact ih0 _ _
   | exact ih1 _ _ _
   | exact ih2 _ _ _ _
   | exact ih3 _ _
   | exact LeO.none _
   | refine LeO.ite ?_ ?_
   | refine LeO.bind ?_ (fun _ => ?_)
set_option maxHeartbeats 8000000 in
set_option maxRecDepth 100000 in
theorem spec_l07Ok.calls (k : Nat) (A0 : Option Addr) (c0 : Nat) (l0 : List (S45)) (r : Bool) (w : World) (hr0 : Kd.C k45 w A0 l0.length l0) (hc0 : l0.length ≤ c0) (h : spec_l07Ok.f k l0 = some r) :
  Calls Try.prog 64 #[.slice A0 l0.length c0] w fun e w' => e = .returned (.bool r) ∧ Below w.heap.size w w' := by
 have HR0 := A_ hr0
 have HC0 := A_ hc0
 clear hr0 hc0
 have HB := A_ (Below.refl w.heap.size w)
 have H : (if (l0.length : Int) > 24 then (some false) else (spec_l07Ok.l0 k l0 0)) = some r := h
 clear h
 by_cases c2 : (l0.length : Int) > 24
 ·
  rw [if_pos c2] at H
  have c2b0 := decide_eq_true c2
  have c2b1 : decide (24 < l0.length) = true := decide_eq_true (by omega)
  clear c2
  obtain rfl := Option.some.inj H
  go_enter Try.func64, Try.ntmps64
  go_wp2
  go_ret
  exact ⟨z8_6_, z8_2_⟩
 ·
  rw [if_neg c2] at H
  have c2b0 := decide_eq_false c2
  have c2b1 : decide (24 < l0.length) = false := decide_eq_false (by omega)
  clear c2
  have H' := A_ H
  clear H
  go_enter Try.func64, Try.ntmps64
  go_wp2
  go_loopg [3] k (fun kq v3 w' => ∃ (x3_1 : Int), v3 = .int .i64 x3_1 ∧ Aside0 (spec_l07Ok.l0 kq l0 x3_1 = some r) ∧ Aside0 (kq ≤ k) ∧ Aside0 (Below w.heap.size w w'))
  case atStart => exact ⟨(0), z8_8_, H', ⟨Nat.le_refl _⟩, ⟨z8_2_⟩⟩
  case round =>
   clear H'
   try clear c2
   try clear c2b0
   try clear c2b1
   try clear p2
   obtain ⟨x3_1, rfl, HA, HK1, HB⟩ := hrel
   cases gk with
   | zero => exact absurd HA.out (by simp [spec_l07Ok.l0])
   | succ k1 =>
    have H := HA.out
    clear HA
    simp only [spec_l07Ok.l0] at H
    by_cases c3 : x3_1 < (l0.length : Int)
    ·
     rw [if_pos c3] at H
     have c3b0 := decide_eq_true c3
     clear c3
     have HC4 := A_ H
     clear H
     go_upto_region 6 with (fail)
     go_cut [33] (fun v33 wc => ∃ (kq : Nat) (x33_3 : Bool), v33 = .bool x33_3 ∧ Aside0 (spec_l07Ok.j1 kq l0 x3_1 x33_3 = some r) ∧ Aside0 (kq ≤ k1) ∧ Aside0 (Below w.heap.size w wc))
     case first =>
      have H := HC4.out
      clear HC4
      by_cases c5 : 0 ≤ x3_1
      ·
       rw [if_pos c5] at H
       have c5b0 := decide_eq_true c5
       clear c5
       (first | rw [c5b0] | (simp only [i64_w, i32_w]; rw [c5b0]) | skip)
       replace H := Option.bind_eq_some_iff.mp H
       obtain ⟨t188, A60, H⟩ := H
       try dsimp only at H
       have A6 := A_ A60
       clear A60
       by_cases c7 : t188 = true
       ·
        subst c7
        have H1 := H; rw [if_pos rfl] at H1
        clear H
        have H := H1
        clear H1
        replace H := Option.bind_eq_some_iff.mp H
        obtain ⟨t190, A80, H⟩ := H
        try dsimp only at H
        have A8 := A_ A80
        clear A80
        have H' := A_ H
        clear H
        have p186 : 0 ≤ (x3_1 : Int) := of_decide_eq_true (by assumption)
        have q186 : x3_1 < (l0.length : Int) := of_decide_eq_true (by assumption)
        obtain ⟨ad186, e186, hx186_0, hx186_1, hx186_2, hx186_3, hx186_4, hx186_5⟩ := at_T45 HR0.out x3_1 p186 q186
        cases e186
        replace hx186_0 := cel HB.out hx186_0
        replace hx186_1 := cel HB.out hx186_1
        replace hx186_2 := cel HB.out hx186_2
        replace hx186_3 := cel HB.out hx186_3
        replace hx186_4 := cel HB.out hx186_4
        replace hx186_5 := cel HB.out hx186_5
        replace p186 := eq_true p186
        replace q186 := eq_true q186
        go_wp2_with (first | ((with_reducible refine gate_callee (f := 103) rfl ?_); refine goesL_ (some 21) rfl rfl Try.func103 (by kernel_rfl) rfl #[.pointer (some (Addr.add ad186 (x3_1.toNat * 6)))] rfl z8_4_ ?_; (with_reducible refine (spec_l07Line.calls k1 _ ([rd_T45 l0 x3_1]).length [rd_T45 l0 x3_1] true _ ?side1 ?side2 A6.out).mono ?_); (case side1 => refine Kd.C_el k45 z45 ?_ (x3_1 : Int) (of_eq_true p186) (of_eq_true q186); repeat (first | exact (Kd.C_below HR0.out HB.out) | (with_reducible refine Kd.C_alloc ?_ _) | (with_reducible refine Kd.C_drewN ?_ _) | (with_reducible refine Kd.C_drew ?_))); (case side2 => exact Nat.le_refl _); rintro e w' ⟨rfl, ⟨nd, rfl⟩⟩; refine ⟨_, rfl, ?_⟩; have p189 : 0 ≤ (x3_1 : Int) := of_decide_eq_true (by assumption); have q189 : x3_1 < (l0.length : Int) := of_decide_eq_true (by assumption); obtain ⟨ad189, e189, hx189_0, hx189_1, hx189_2, hx189_3, hx189_4, hx189_5⟩ := at_T45 HR0.out x3_1 p189 q189; obtain rfl : ad186 = ad189 := (by injection e189); replace hx189_0 := cel HB.out hx189_0; replace hx189_1 := cel HB.out hx189_1; replace hx189_2 := cel HB.out hx189_2; replace hx189_3 := cel HB.out hx189_3; replace hx189_4 := cel HB.out hx189_4; replace hx189_5 := cel HB.out hx189_5; replace p189 := eq_true p189; replace q189 := eq_true q189) | (go_at_call 89; (with_reducible refine (spec_l07Find.calls k1 _ _ l0 ((rd_T45 l0 x3_1).f0) t190 _ ?side1 ?side2 A8.out).mono ?_); (case side1 => repeat (first | exact (Kd.C_below HR0.out z8_2_) | (with_reducible refine Kd.C_alloc ?_ _) | (with_reducible refine Kd.C_drewN ?_ _) | (with_reducible refine Kd.C_drew ?_))); (case side2 => exact HC0.out); rintro e w' ⟨rfl, ⟨nd, rfl⟩⟩))
        go_meet
        case rel => exact ⟨_, ((t190 != x3_1)), z8_8_, H', ⟨(by have := HK1.out; first | omega | exact Nat.le_refl _)⟩, ⟨z8_2_⟩⟩
       ·
        replace c7 := Bool.eq_false_iff.mpr c7
        subst c7
        have H1 := H; rw [if_neg (show ¬ (false = true) by decide)] at H1
        clear H
        have H := H1
        clear H1
        have H' := A_ H
        clear H
        have p186 : 0 ≤ (x3_1 : Int) := of_decide_eq_true (by assumption)
        have q186 : x3_1 < (l0.length : Int) := of_decide_eq_true (by assumption)
        obtain ⟨ad186, e186, hx186_0, hx186_1, hx186_2, hx186_3, hx186_4, hx186_5⟩ := at_T45 HR0.out x3_1 p186 q186
        cases e186
        replace hx186_0 := cel HB.out hx186_0
        replace hx186_1 := cel HB.out hx186_1
        replace hx186_2 := cel HB.out hx186_2
        replace hx186_3 := cel HB.out hx186_3
        replace hx186_4 := cel HB.out hx186_4
        replace hx186_5 := cel HB.out hx186_5
        replace p186 := eq_true p186
        replace q186 := eq_true q186
        go_wp2_with (first | ((with_reducible refine gate_callee (f := 103) rfl ?_); refine goesL_ (some 21) rfl rfl Try.func103 (by kernel_rfl) rfl #[.pointer (some (Addr.add ad186 (x3_1.toNat * 6)))] rfl z8_4_ ?_; (with_reducible refine (spec_l07Line.calls k1 _ ([rd_T45 l0 x3_1]).length [rd_T45 l0 x3_1] false _ ?side1 ?side2 A6.out).mono ?_); (case side1 => refine Kd.C_el k45 z45 ?_ (x3_1 : Int) (of_eq_true p186) (of_eq_true q186); repeat (first | exact (Kd.C_below HR0.out HB.out) | (with_reducible refine Kd.C_alloc ?_ _) | (with_reducible refine Kd.C_drewN ?_ _) | (with_reducible refine Kd.C_drew ?_))); (case side2 => exact Nat.le_refl _); rintro e w' ⟨rfl, ⟨nd, rfl⟩⟩; refine ⟨_, rfl, ?_⟩))
        go_meet
        case rel => exact ⟨_, (true), z8_8_, H', ⟨(by have := HK1.out; first | omega | exact Nat.le_refl _)⟩, ⟨z8_2_⟩⟩
      ·
       rw [if_neg c5] at H
       exact absurd H (by simp)
     case rest =>
      clear HC4
      try clear c1
      try clear p1
      try clear q1
      try clear hx1
      try clear c2
      try clear c2b0
      try clear c2b1
      try clear p2
      try clear c3
      try clear c3b0
      try clear c5
      try clear c5b0
      try clear c6
      try clear c7
      try clear hx186_0
      try clear hx186_1
      try clear hx186_2
      try clear hx186_3
      try clear hx186_4
      try clear hx186_5
      try clear hx189_0
      try clear hx189_1
      try clear hx189_2
      try clear hx189_3
      try clear hx189_4
      try clear hx189_5
      try clear p186
      try clear p189
      try clear p2
      try clear q186
      try clear q189
      obtain ⟨kq, x33_3, rfl, HA, HJ3, HB⟩ := hcut
      cases kq with
      | zero => exact absurd HA.out (by simp [spec_l07Ok.j1])
      | succ kj3 =>
       have H := HA.out
       clear HA
       simp only [spec_l07Ok.j1] at H
       by_cases c9 : x33_3 = true
       ·
        subst c9
        have H1 := H; rw [if_pos rfl] at H1
        clear H
        have H := H1
        clear H1
        obtain rfl := Option.some.inj H
        go_wp2
        go_ret
        exact ⟨z8_6_, z8_2_⟩
       ·
        replace c9 := Bool.eq_false_iff.mpr c9
        subst c9
        have H1 := H; rw [if_neg (show ¬ (false = true) by decide)] at H1
        clear H
        have H := H1
        clear H1
        replace H := Option.bind_eq_some_iff.mp H
        obtain ⟨t191, A100, H⟩ := H
        try dsimp only at H
        have A10 := A_ A100
        clear A100
        have H' := A_ H
        clear H
        go_wp2_with (first | ((with_reducible refine gate_callee (f := 104) rfl ?_); refine goesL_ (some 36) rfl rfl Try.func104 (by kernel_rfl) rfl #[.slice A0 l0.length c0, .int .i64 x3_1] rfl z8_4_ ?_; (with_reducible refine (spec_l07Uses.calls kj3 _ _ l0 x3_1 t191 _ ?side1 ?side2 A10.out).mono ?_); (case side1 => have hx_ := (Kd.C_below HR0.out HB.out); exact kc_); (case side2 => exact HC0.out); rintro e w11 ⟨v192, rfl, ho0, hb⟩; refine ⟨_, rfl, ?_⟩; have _ := A_ (Kd.R_lower ho0 (below_size z8_2_)); have _ := A_ (below_step z8_2_ hb); clear HB; rename_i HO193 HB; (try clear hb); (try clear ho0)))
        go_loopg [5] kj3 (fun kq v5 w' => ∃ (x5_3 : Int), v5 = .int .i64 x5_3 ∧ Aside0 (spec_l07Ok.l1 kq l0 x3_1 t191 x5_3 = some r) ∧ Aside0 (kq ≤ kj3) ∧ Aside0 (Kd.R (Kd.int .i64) 2 w' w.heap.size (fun _ => True) v192 t191) ∧ Aside0 (Below w.heap.size w w'))
        case atStart => exact ⟨(0), z8_8_, H', ⟨Nat.le_refl _⟩, ⟨(by (with_reducible repeat (first | apply Kd.R_alloc | apply Kd.R_drewN | apply Kd.R_drew)); exact HO193.out)⟩, ⟨z8_2_⟩⟩
        case round =>
         clear H'
         try clear c1
         try clear p1
         try clear q1
         try clear hx1
         try clear c2
         try clear c2b0
         try clear c2b1
         try clear p2
         try clear c3
         try clear c3b0
         try clear c5
         try clear c5b0
         try clear c6
         try clear c7
         try clear c9
         try clear c10
         try clear hx186_0
         try clear hx186_1
         try clear hx186_2
         try clear hx186_3
         try clear hx186_4
         try clear hx186_5
         try clear hx189_0
         try clear hx189_1
         try clear hx189_2
         try clear hx189_3
         try clear hx189_4
         try clear hx189_5
         try clear p1
         try clear p186
         try clear p189
         try clear p2
         try clear q1
         try clear q186
         try clear q189
         obtain ⟨x5_3, rfl, HA, HK3, HO_4, HB⟩ := hrel
         cases gk with
         | zero => exact absurd HA.out (by simp [spec_l07Ok.l1])
         | succ k3 =>
          have H := HA.out
          clear HA
          simp only [spec_l07Ok.l1] at H
          by_cases c12 : x5_3 < (t191.length : Int)
          ·
           rw [if_pos c12] at H
           have c12b0 := decide_eq_true c12
           clear c12
           by_cases c13 : 0 ≤ x5_3
           ·
            rw [if_pos c13] at H
            have c13b0 := decide_eq_true c13
            clear c13
            by_cases c14 : (rd t191 x5_3) < 0
            ·
             rw [if_pos c14] at H
             have c14b0 := decide_eq_true c14
             clear c14
             obtain rfl := Option.some.inj H
             obtain ⟨Ao15, co15, eo15⟩ := Kd.R_slice HO_4.out
             subst eo15
             have p194 : 0 ≤ (x5_3 : Int) := of_decide_eq_true (by assumption)
             have q194 : x5_3 < (t191.length : Int) := of_decide_eq_true (by assumption)
             obtain ⟨ad194, e194, hx194_0⟩ := Kd.at_int (Kd.R_reads' HO_4.out).2.2 x5_3 p194 q194
             cases e194
             replace p194 := eq_true p194
             replace q194 := eq_true q194
             go_wp2
             go_ret
             exact ⟨z8_6_, z8_2_⟩
            ·
             rw [if_neg c14] at H
             have c14b0 := decide_eq_false c14
             clear c14
             have H' := A_ H
             clear H
             obtain ⟨Ao16, co16, eo16⟩ := Kd.R_slice HO_4.out
             subst eo16
             have p194 : 0 ≤ (x5_3 : Int) := of_decide_eq_true (by assumption)
             have q194 : x5_3 < (t191.length : Int) := of_decide_eq_true (by assumption)
             obtain ⟨ad194, e194, hx194_0⟩ := Kd.at_int (Kd.R_reads' HO_4.out).2.2 x5_3 p194 q194
             cases e194
             replace p194 := eq_true p194
             replace q194 := eq_true q194
             go_wp2
             go_roundg k3
             case measure => have := HK1.out; have := HJ3.out; have := HK3.out; omega
             case rel => exact ⟨(wrap64 (x5_3 + 1)), z8_8_, H', ⟨(by have := HK1.out; have := HJ3.out; have := HK3.out; omega)⟩, ⟨(by (with_reducible repeat (first | apply Kd.R_alloc | apply Kd.R_drewN | apply Kd.R_drew)); exact HO_4.out)⟩, ⟨z8_2_⟩⟩
           ·
            rw [if_neg c13] at H
            exact absurd H (by simp)
          ·
           rw [if_neg c12] at H
           have c12b0 := decide_eq_false c12
           clear c12
           have H' := A_ H
           clear H
           obtain ⟨Ao17, co17, eo17⟩ := Kd.R_slice HO_4.out
           subst eo17
           go_wp2
           go_roundg k3
           case measure => have := HK1.out; have := HJ3.out; have := HK3.out; omega
           case rel => exact ⟨(wrap64 (x3_1 + 1)), z8_8_, H', ⟨(by have := HK1.out; have := HJ3.out; have := HK3.out; omega)⟩, ⟨z8_2_⟩⟩
    ·
     rw [if_neg c3] at H
     have c3b0 := decide_eq_false c3
     clear c3
     have H' := A_ H
     clear H
     go_wp2
     go_loopg [6] k1 (fun kq v6 w' => ∃ (x6_2 : Int), v6 = .int .i64 x6_2 ∧ Aside0 (spec_l07Ok.l2 kq l0 x6_2 = some r) ∧ Aside0 (kq ≤ k1) ∧ Aside0 (Below w.heap.size w w'))
     case atStart => exact ⟨(0), z8_8_, H', ⟨Nat.le_refl _⟩, ⟨z8_2_⟩⟩
     case round =>
      clear H'
      try clear c1
      try clear p1
      try clear q1
      try clear hx1
      try clear c2
      try clear c2b0
      try clear c2b1
      try clear p2
      try clear c3
      try clear c3b0
      try clear c5
      try clear c5b0
      try clear c6
      try clear p6
      try clear c7
      try clear c9
      try clear c10
      try clear c12
      try clear c12b0
      try clear c13
      try clear c13b0
      try clear c14
      try clear c14b0
      try clear hx186_0
      try clear hx186_1
      try clear hx186_2
      try clear hx186_3
      try clear hx186_4
      try clear hx186_5
      try clear hx189_0
      try clear hx189_1
      try clear hx189_2
      try clear hx189_3
      try clear hx189_4
      try clear hx189_5
      try clear hx194_0
      try clear p1
      try clear p186
      try clear p189
      try clear p194
      try clear p2
      try clear q1
      try clear q186
      try clear q189
      try clear q194
      obtain ⟨x6_2, rfl, HA, HK2, HB⟩ := hrel
      cases gk with
      | zero => exact absurd HA.out (by simp [spec_l07Ok.l2])
      | succ k2 =>
       have H := HA.out
       clear HA
       simp only [spec_l07Ok.l2] at H
       by_cases c18 : x6_2 < (l0.length : Int)
       ·
        rw [if_pos c18] at H
        have c18b0 := decide_eq_true c18
        clear c18
        replace H := Option.bind_eq_some_iff.mp H
        obtain ⟨⟨t195, t196⟩, A190, H⟩ := H
        try dsimp only at H
        have A19 := A_ A190
        clear A190
        by_cases c20 : t196 = true
        ·
         subst c20
         have H1 := H; rw [if_pos rfl] at H1
         clear H
         have H := H1
         clear H1
         have H' := A_ H
         clear H
         go_wp2_with (first | ((with_reducible refine gate_callee (f := 81) rfl ?_); refine goesL_ (some 57) rfl rfl Try.func81 (by kernel_rfl) rfl #[.slice A0 l0.length c0, .int .i64 x6_2] rfl z8_4_ ?_; (with_reducible refine (spec_l07Needs.calls k2 _ _ l0 x6_2 t195 true _ ?side1 ?side2 A19.out).mono ?_); (case side1 => have hx_ := (Kd.C_below HR0.out HB.out); exact kc_); (case side2 => exact HC0.out); rintro e w21 ⟨v197, rfl, ho0, hb⟩; refine ⟨_, rfl, ?_⟩; have _ := A_ (Kd.R_lower ho0 (below_size z8_2_)); have _ := A_ (below_step z8_2_ hb); clear HB; rename_i HO198 HB; (try clear hb); (try clear ho0)))
         go_roundg k2
         case measure => have := HK1.out; have := HK2.out; omega
         case rel => exact ⟨(wrap64 (x6_2 + 1)), z8_8_, H', ⟨(by have := HK1.out; have := HK2.out; omega)⟩, ⟨z8_2_⟩⟩
        ·
         replace c20 := Bool.eq_false_iff.mpr c20
         subst c20
         have H1 := H; rw [if_neg (show ¬ (false = true) by decide)] at H1
         clear H
         have H := H1
         clear H1
         obtain rfl := Option.some.inj H
         go_wp2_with (first | ((with_reducible refine gate_callee (f := 81) rfl ?_); refine goesL_ (some 57) rfl rfl Try.func81 (by kernel_rfl) rfl #[.slice A0 l0.length c0, .int .i64 x6_2] rfl z8_4_ ?_; (with_reducible refine (spec_l07Needs.calls k2 _ _ l0 x6_2 t195 false _ ?side1 ?side2 A19.out).mono ?_); (case side1 => have hx_ := (Kd.C_below HR0.out HB.out); exact kc_); (case side2 => exact HC0.out); rintro e w22 ⟨v197, rfl, ho0, hb⟩; refine ⟨_, rfl, ?_⟩; have _ := A_ (Kd.R_lower ho0 (below_size z8_2_)); have _ := A_ (below_step z8_2_ hb); clear HB; rename_i HO198 HB; (try clear hb); (try clear ho0)))
         go_ret
         exact ⟨z8_6_, z8_2_⟩
       ·
        rw [if_neg c18] at H
        have c18b0 := decide_eq_false c18
        clear c18
        obtain rfl := Option.some.inj H
        go_wp2
        go_ret
        exact ⟨z8_6_, z8_2_⟩
/-! ### spec_l07Write: function 77 -/
def spec_l07Write.f (k : Nat) (l0 : List (S45)) (a1_0 : ByteArray) (a1_1 : Int) (a1_2 : ByteArray) (a1_3 : ByteArray) (a1_4 : Int) (a1_5 : Int) : Option ((List (S45)) × Int) := (some (([] : List (S45)) : List (S45))).bind fun y200 => (if y200.length + l0.length < 1954687338268 then ((some (y200 ++ l0 : List (S45))).bind fun y203 => ((spec_l07Find.f k l0 a1_0).bind fun t206 => (if t206 < 0 then (if (l0.length : Int) ≥ 24 then (some ((([] : List (S45))), 3)) else (if y203.length < 1954687338268 then ((some (y203 ++ [(⟨a1_0, a1_1, a1_2, a1_3, a1_4, a1_5⟩ : S45)] : List (S45))).bind fun y210 => ((spec_l07Ok.f k y210).bind fun t213 => (if t213 = true then (some (y210, 0)) else (some ((([] : List (S45))), 4))))) else (none))) else (if 0 ≤ t206 then (if t206 < (y203.length : Int) then ((some (y203.set (t206 : Int).toNat (⟨a1_0, a1_1, a1_2, a1_3, a1_4, a1_5⟩ : S45) : List (S45))).bind fun y217 => ((spec_l07Ok.f k y217).bind fun t218 => (if t218 = true then (some (y217, 0)) else (some ((([] : List (S45))), 4))))) else (none)) else (none))))) else (none))
theorem spec_l07Write.mono : ∀ a0 a1 a2 a3 a4 a5 a6 k, LeO (spec_l07Write.f k a0 a1 a2 a3 a4 a5 a6) (spec_l07Write.f (k + 1) a0 a1 a2 a3 a4 a5 a6) := by
 intro a0 a1 a2 a3 a4 a5 a6 k
 unfold spec_l07Write.f
 repeat' first
   | (with_reducible exact spec_l07Find.mono _ _ _)
   | (with_reducible exact spec_l07Ok.mono _ _)
   | (with_reducible exact LeO.refl _)
   | (with_reducible exact LeO.none _)
   | (with_reducible refine LeO.ite ?_ ?_)
   | (with_reducible refine LeO.bind ?_ (fun _ => ?_))
   | exact LeO.none _
   | refine LeO.ite ?_ ?_
   | refine LeO.bind ?_ (fun _ => ?_)
set_option maxHeartbeats 8000000 in
set_option maxRecDepth 100000 in
theorem spec_l07Write.calls (k : Nat) (A0 : Option Addr) (c0 : Nat) (l0 : List (S45)) (a1_0 : ByteArray) (a1_1 : Int) (a1_2 : ByteArray) (a1_3 : ByteArray) (a1_4 : Int) (a1_5 : Int) (r1 : List (S45)) (r2 : Int) (w : World) (hr0 : Kd.C k45 w A0 l0.length l0) (hc0 : l0.length ≤ c0) (h : spec_l07Write.f k l0 a1_0 a1_1 a1_2 a1_3 a1_4 a1_5 = some (r1, r2)) :
  Calls Try.prog 77 #[.slice A0 l0.length c0, .agg #[.string a1_0, .int .i8 a1_1, .string a1_2, .string a1_3, .int .i64 a1_4, .int .i64 a1_5]] w fun e w' => ∃ v0_ : Value, e = .returned (.tuple #[v0_, .int .i64 r2]) ∧ Kd.R k45 45 w' w.heap.size (fun _ => True) v0_ r1 ∧ Below w.heap.size w w' := by
 have hu45 := Try.underlying45
 have HR0 := A_ hr0
 have HC0 := A_ hc0
 clear hr0 hc0
 have HB := A_ (Below.refl w.heap.size w)
 have H : ((some (([] : List (S45)) : List (S45))).bind fun y200 => (if y200.length + l0.length < 1954687338268 then ((some (y200 ++ l0 : List (S45))).bind fun y203 => ((spec_l07Find.f k l0 a1_0).bind fun t206 => (if t206 < 0 then (if (l0.length : Int) ≥ 24 then (some ((([] : List (S45))), 3)) else (if y203.length < 1954687338268 then ((some (y203 ++ [(⟨a1_0, a1_1, a1_2, a1_3, a1_4, a1_5⟩ : S45)] : List (S45))).bind fun y210 => ((spec_l07Ok.f k y210).bind fun t213 => (if t213 = true then (some (y210, 0)) else (some ((([] : List (S45))), 4))))) else (none))) else (if 0 ≤ t206 then (if t206 < (y203.length : Int) then ((some (y203.set (t206 : Int).toNat (⟨a1_0, a1_1, a1_2, a1_3, a1_4, a1_5⟩ : S45) : List (S45))).bind fun y217 => ((spec_l07Ok.f k y217).bind fun t218 => (if t218 = true then (some (y217, 0)) else (some ((([] : List (S45))), 4))))) else (none)) else (none))))) else (none))) = some (r1, r2) := h
 clear h
 obtain ⟨y200, hy200⟩ : ∃ y_ : List (S45), y_ = (([] : List (S45))) := ⟨_, rfl⟩
 replace H : (if y200.length + l0.length < 1954687338268 then ((some (y200 ++ l0 : List (S45))).bind fun y203 => ((spec_l07Find.f k l0 a1_0).bind fun t206 => (if t206 < 0 then (if (l0.length : Int) ≥ 24 then (some ((([] : List (S45))), 3)) else (if y203.length < 1954687338268 then ((some (y203 ++ [(⟨a1_0, a1_1, a1_2, a1_3, a1_4, a1_5⟩ : S45)] : List (S45))).bind fun y210 => ((spec_l07Ok.f k y210).bind fun t213 => (if t213 = true then (some (y210, 0)) else (some ((([] : List (S45))), 4))))) else (none))) else (if 0 ≤ t206 then (if t206 < (y203.length : Int) then ((some (y203.set (t206 : Int).toNat (⟨a1_0, a1_1, a1_2, a1_3, a1_4, a1_5⟩ : S45) : List (S45))).bind fun y217 => ((spec_l07Ok.f k y217).bind fun t218 => (if t218 = true then (some (y217, 0)) else (some ((([] : List (S45))), 4))))) else (none)) else (none))))) else (none)) = some (r1, r2) := by first | (rw [hy200]; with_reducible exact H) | (have H2_ := (Option.bind_some _ _).symm.trans H; rw [hy200]; with_reducible exact H2_) | (have H2_ := (Option.bind_some _ _).symm.trans H; with_reducible exact H2_) | with_reducible exact H | (rw [hy200]; exact H) | exact H
 have Ny200 := A_ hy200
 clear hy200
 by_cases c3 : y200.length + l0.length < 1954687338268
 ·
  rw [if_pos c3] at H
  have LMc3 := A_ c3
  clear c3
  obtain ⟨y203, hy203⟩ : ∃ y_ : List (S45), y_ = (y200 ++ l0) := ⟨_, rfl⟩
  replace H : ((spec_l07Find.f k l0 a1_0).bind fun t206 => (if t206 < 0 then (if (l0.length : Int) ≥ 24 then (some ((([] : List (S45))), 3)) else (if y203.length < 1954687338268 then ((some (y203 ++ [(⟨a1_0, a1_1, a1_2, a1_3, a1_4, a1_5⟩ : S45)] : List (S45))).bind fun y210 => ((spec_l07Ok.f k y210).bind fun t213 => (if t213 = true then (some (y210, 0)) else (some ((([] : List (S45))), 4))))) else (none))) else (if 0 ≤ t206 then (if t206 < (y203.length : Int) then ((some (y203.set (t206 : Int).toNat (⟨a1_0, a1_1, a1_2, a1_3, a1_4, a1_5⟩ : S45) : List (S45))).bind fun y217 => ((spec_l07Ok.f k y217).bind fun t218 => (if t218 = true then (some (y217, 0)) else (some ((([] : List (S45))), 4))))) else (none)) else (none)))) = some (r1, r2) := by first | (rw [hy203]; with_reducible exact H) | (have H2_ := (Option.bind_some _ _).symm.trans H; rw [hy203]; with_reducible exact H2_) | (have H2_ := (Option.bind_some _ _).symm.trans H; with_reducible exact H2_) | with_reducible exact H | (rw [hy203]; exact H) | exact H
  have Ny203 := A_ hy203
  clear hy203
  replace H := Option.bind_eq_some_iff.mp H
  obtain ⟨t206, A40, H⟩ := H
  try dsimp only at H
  have A4 := A_ A40
  clear A40
  by_cases c5 : t206 < 0
  ·
   rw [if_pos c5] at H
   have c5b0 := decide_eq_true c5
   clear c5
   by_cases c6 : (l0.length : Int) ≥ 24
   ·
    rw [if_pos c6] at H
    have c6b0 := decide_eq_true c6
    have c6b1 : decide (24 ≤ l0.length) = true := decide_eq_true (by omega)
    clear c6
    obtain ⟨y207, hy207⟩ : ∃ y_ : List (S45), y_ = (([] : List (S45))) := ⟨_, rfl⟩
    replace H : (some (y207, 3)) = some (r1, r2) := by first | (rw [hy207]; with_reducible exact H) | (have H2_ := (Option.bind_some _ _).symm.trans H; rw [hy207]; with_reducible exact H2_) | (have H2_ := (Option.bind_some _ _).symm.trans H; with_reducible exact H2_) | with_reducible exact H | (rw [hy207]; exact H) | exact H
    have Ny207 := A_ hy207
    clear hy207
    simp only [Option.some.injEq, Prod.mk.injEq] at H
    obtain ⟨rfl, rfl⟩ := H
    go_enter Try.func77, Try.ntmps77
    go_wp2_with (first | ((with_reducible refine gate_dst (N := 3) rfl ?_); refine box_event ?hg (N := 3) ?hd (cs := #[.string a1_0, .int .i8 a1_1, .string a1_2, .string a1_3, .int .i64 a1_4, .int .i64 a1_5]) (t := 45) ?hr ?_; (case hd => rfl); (case hg => rfl); (case hr => first | (go_simp; done) | (go_simp; rfl)); intro gb199 hg w7 hbox hb; have _ := A_ (below_step z8_2_ hb); have _ := A_ (hbox); have _ := A_ ((by rw [hg]; exact (below_size z8_2_) : w.heap.size ≤ gb199)); have _ := A_ ((by rw [hg]; exact (below_size z8_2_) : w.heap.size ≤ gb199)); clear HB; rename_i HB BK199 GW199 GE199; clear hb hbox hg) | ((with_reducible refine gate_dst (N := 8) rfl ?_); refine Kd.R_lit k45 _ 45 ?hg (N := 8) ?hd (xs := ([] : List (S45))) (inner := []) (ok := fun _ => True) (okp := fun _ => True) ?hr ?hp (fun _ hk => hk) trivial (Below.refl _ _) (Nat.le_refl _) (by simp) ?_; (case hd => rfl); (case hg => rfl); (case hr => first | (go_simp; done) | (go_simp; rfl)); (case hp => exact (Reps.none _ _)); intro v201 w8 ho9 hb hg_ hnew_; clear hg_ hnew_; (first | rw [← Ny200.out] at ho9 | (simp only [Int.reduceToNat] at ho9; rw [← Ny200.out] at ho9)); have _ := A_ (Kd.R_lower (Kd.R_newB ho9 (g := gb199) (o := .cells #[.string a1_0, .int .i8 a1_1, .string a1_2, .string a1_3, .int .i64 a1_4, .int .i64 a1_5] 45 (0, 0)) z8_3_) (below_size z8_1_)); have _ := A_ (blk_below (g := gb199) (o := .cells #[.string a1_0, .int .i8 a1_1, .string a1_2, .string a1_3, .int .i64 a1_4, .int .i64 a1_5] 45 (0, 0)) z8_3_ hb); have _ := A_ (below_step z8_1_ hb); clear BK199 HB; rename_i HO202 BK199 HB; clear hb ho9) | ((with_reducible refine gate_builtin (b := .append) (xs := #[.tmp 8, .tmp 9]) rfl ?_); at_builtin; refine Kd.R_append_rows k45 (w0 := w) w.heap.size rfl (.tmp 8) (.tmp 9) 25 45 (.agg #[(.string ⟨#[]⟩), (.int .i8 0), (.string ⟨#[]⟩), (.string ⟨#[]⟩), (.int .i64 0), (.int .i64 0)]) 72 rfl Try.underlying25 info45 rfl (by decide) (by omega) v201 y200 l0 _ _ _ (fun k_ => k_ ≠ gb199) (fun _ => False) rfl rfl ?aO ?aR (fun _ _ h => h) (fun _ h => h.elim) ?aF ?aB ?aS ?aL ?_; (case aR => have hx_ := (Kd.C_below HR0.out HB.out); exact kc_); (case aB => exact z8_1_); (case aF => exact (fun k_ hk => Kd.freshB (g := gb199) (o := .cells #[.string a1_0, .int .i8 a1_1, .string a1_2, .string a1_3, .int .i64 a1_4, .int .i64 a1_5] 45 (0, 0)) z8_3_ k_ hk)); (case aO => exact z8_7_); (case aS => exact (below_size z8_1_)); (case aL => have := LMc3.out; omega); intro v204 w10 ho hb hg hat; rw [← Ny203.out] at ho; have _ := A_ (blk_grown (g := gb199) (o := .cells #[.string a1_0, .int .i8 a1_1, .string a1_2, .string a1_3, .int .i64 a1_4, .int .i64 a1_5] 45 (0, 0)) z8_3_ hg (Kd.R_away HO202.out (fun _ hk => hk.2))); have _ := A_ (hb); have _ := A_ (ho); clear BK199 HB HO202; rename_i BK199 HB HO205; clear ho hb hg hat; obtain ⟨hcz11_0, hcz11_1, hcz11_2, hcz11_3, hcz11_4, hcz11_5⟩ := bc6 BK199.out; obtain ⟨hfz11_0, hfz11_1, hfz11_2, hfz11_3, hfz11_4, hfz11_5⟩ := bf6 BK199.out) | ((with_reducible refine gate_callee (f := 89) rfl ?_); refine goesL_ (some 14) rfl rfl Try.func89 (by kernel_rfl) rfl #[.slice A0 l0.length c0, .string a1_0] rfl z8_4_ ?_; (with_reducible refine (spec_l07Find.calls k _ _ l0 a1_0 t206 _ ?side1 ?side2 A4.out).mono ?_); (case side1 => have hx_ := (Kd.C_below HR0.out HB.out); exact kc_); (case side2 => exact HC0.out); rintro e w' ⟨rfl, ⟨nd, rfl⟩⟩; refine ⟨_, rfl, ?_⟩) | ((with_reducible refine gate_dst (N := 20) rfl ?_); refine Kd.R_lit k45 _ 45 ?hg (N := 20) ?hd (xs := ([] : List (S45))) (inner := []) (ok := fun _ => True) (okp := fun _ => True) ?hr ?hp (fun _ hk => hk) trivial (Below.refl _ _) (Nat.le_refl _) (by simp) ?_; (case hd => rfl); (case hg => rfl); (case hr => first | (go_simp; done) | (go_simp; rfl)); (case hp => exact (Reps.none _ _)); intro v208 w12 ho13 hb hg_ hnew_; clear hg_ hnew_; (first | rw [← Ny207.out] at ho13 | (simp only [Int.reduceToNat] at ho13; rw [← Ny207.out] at ho13)); have _ := A_ (Kd.R_elder' z8_5_ (Kd.R_base ho13) hb); have _ := A_ (Kd.R_lower (Kd.R_newB (Kd.R_new' ho13 (Kd.R_lt z8_5_)) (g := gb199) (o := .cells #[.string a1_0, .int .i8 a1_1, .string a1_2, .string a1_3, .int .i64 a1_4, .int .i64 a1_5] 45 (0, 0)) z8_3_) (below_size z8_1_)); have _ := A_ (blk_below (g := gb199) (o := .cells #[.string a1_0, .int .i8 a1_1, .string a1_2, .string a1_3, .int .i64 a1_4, .int .i64 a1_5] 45 (0, 0)) z8_3_ hb); have _ := A_ (below_step z8_1_ hb); clear HO205 BK199 HB; rename_i HO205 HO209 BK199 HB; clear hb ho13))
    go_ret2
    exact ⟨_, z8_6_, (by (with_reducible repeat (first | apply Kd.R_alloc | apply Kd.R_drewN | apply Kd.R_drew)); exact Kd.R_mono HO209.out (fun _ hk => trivial)), z8_1_⟩
   ·
    rw [if_neg c6] at H
    have c6b0 := decide_eq_false c6
    have c6b1 : decide (24 ≤ l0.length) = false := decide_eq_false (by omega)
    clear c6
    by_cases c14 : y203.length < 1954687338268
    ·
     rw [if_pos c14] at H
     have LMc14 := A_ c14
     clear c14
     obtain ⟨y210, hy210⟩ : ∃ y_ : List (S45), y_ = (y203 ++ [(⟨a1_0, a1_1, a1_2, a1_3, a1_4, a1_5⟩ : S45)]) := ⟨_, rfl⟩
     replace H : ((spec_l07Ok.f k y210).bind fun t213 => (if t213 = true then (some (y210, 0)) else (some ((([] : List (S45))), 4)))) = some (r1, r2) := by first | (rw [hy210]; with_reducible exact H) | (have H2_ := (Option.bind_some _ _).symm.trans H; rw [hy210]; with_reducible exact H2_) | (have H2_ := (Option.bind_some _ _).symm.trans H; with_reducible exact H2_) | with_reducible exact H | (rw [hy210]; exact H) | exact H
     have Ny210 := A_ hy210
     clear hy210
     replace H := Option.bind_eq_some_iff.mp H
     obtain ⟨t213, A150, H⟩ := H
     try dsimp only at H
     have A15 := A_ A150
     clear A150
     by_cases c16 : t213 = true
     ·
      subst c16
      have H1 := H; rw [if_pos rfl] at H1
      clear H
      have H := H1
      clear H1
      simp only [Option.some.injEq, Prod.mk.injEq] at H
      obtain ⟨rfl, rfl⟩ := H
      go_enter Try.func77, Try.ntmps77
      go_wp2_with (first | ((with_reducible refine gate_dst (N := 3) rfl ?_); refine box_event ?hg (N := 3) ?hd (cs := #[.string a1_0, .int .i8 a1_1, .string a1_2, .string a1_3, .int .i64 a1_4, .int .i64 a1_5]) (t := 45) ?hr ?_; (case hd => rfl); (case hg => rfl); (case hr => first | (go_simp; done) | (go_simp; rfl)); intro gb199 hg w17 hbox hb; have _ := A_ (below_step z8_2_ hb); have _ := A_ (hbox); have _ := A_ ((by rw [hg]; exact (below_size z8_2_) : w.heap.size ≤ gb199)); have _ := A_ ((by rw [hg]; exact (below_size z8_2_) : w.heap.size ≤ gb199)); clear HB; rename_i HB BK199 GW199 GE199; clear hb hbox hg) | ((with_reducible refine gate_dst (N := 8) rfl ?_); refine Kd.R_lit k45 _ 45 ?hg (N := 8) ?hd (xs := ([] : List (S45))) (inner := []) (ok := fun _ => True) (okp := fun _ => True) ?hr ?hp (fun _ hk => hk) trivial (Below.refl _ _) (Nat.le_refl _) (by simp) ?_; (case hd => rfl); (case hg => rfl); (case hr => first | (go_simp; done) | (go_simp; rfl)); (case hp => exact (Reps.none _ _)); intro v201 w18 ho19 hb hg_ hnew_; clear hg_ hnew_; (first | rw [← Ny200.out] at ho19 | (simp only [Int.reduceToNat] at ho19; rw [← Ny200.out] at ho19)); have _ := A_ (Kd.R_lower (Kd.R_newB ho19 (g := gb199) (o := .cells #[.string a1_0, .int .i8 a1_1, .string a1_2, .string a1_3, .int .i64 a1_4, .int .i64 a1_5] 45 (0, 0)) z8_3_) (below_size z8_1_)); have _ := A_ (blk_below (g := gb199) (o := .cells #[.string a1_0, .int .i8 a1_1, .string a1_2, .string a1_3, .int .i64 a1_4, .int .i64 a1_5] 45 (0, 0)) z8_3_ hb); have _ := A_ (below_step z8_1_ hb); clear BK199 HB; rename_i HO202 BK199 HB; clear hb ho19) | ((with_reducible refine gate_builtin (b := .append) (xs := #[.tmp 8, .tmp 9]) rfl ?_); at_builtin; refine Kd.R_append_rows k45 (w0 := w) w.heap.size rfl (.tmp 8) (.tmp 9) 25 45 (.agg #[(.string ⟨#[]⟩), (.int .i8 0), (.string ⟨#[]⟩), (.string ⟨#[]⟩), (.int .i64 0), (.int .i64 0)]) 72 rfl Try.underlying25 info45 rfl (by decide) (by omega) v201 y200 l0 _ _ _ (fun k_ => k_ ≠ gb199) (fun _ => False) rfl rfl ?aO ?aR (fun _ _ h => h) (fun _ h => h.elim) ?aF ?aB ?aS ?aL ?_; (case aR => have hx_ := (Kd.C_below HR0.out HB.out); exact kc_); (case aB => exact z8_1_); (case aF => exact (fun k_ hk => Kd.freshB (g := gb199) (o := .cells #[.string a1_0, .int .i8 a1_1, .string a1_2, .string a1_3, .int .i64 a1_4, .int .i64 a1_5] 45 (0, 0)) z8_3_ k_ hk)); (case aO => exact z8_7_); (case aS => exact (below_size z8_1_)); (case aL => have := LMc3.out; omega); intro v204 w20 ho hb hg hat; rw [← Ny203.out] at ho; have _ := A_ (blk_grown (g := gb199) (o := .cells #[.string a1_0, .int .i8 a1_1, .string a1_2, .string a1_3, .int .i64 a1_4, .int .i64 a1_5] 45 (0, 0)) z8_3_ hg (Kd.R_away HO202.out (fun _ hk => hk.2))); have _ := A_ (hb); have _ := A_ (ho); clear BK199 HB HO202; rename_i BK199 HB HO205; clear ho hb hg hat; obtain ⟨hcz21_0, hcz21_1, hcz21_2, hcz21_3, hcz21_4, hcz21_5⟩ := bc6 BK199.out; obtain ⟨hfz21_0, hfz21_1, hfz21_2, hfz21_3, hfz21_4, hfz21_5⟩ := bf6 BK199.out) | ((with_reducible refine gate_callee (f := 89) rfl ?_); refine goesL_ (some 14) rfl rfl Try.func89 (by kernel_rfl) rfl #[.slice A0 l0.length c0, .string a1_0] rfl z8_4_ ?_; (with_reducible refine (spec_l07Find.calls k _ _ l0 a1_0 t206 _ ?side1 ?side2 A4.out).mono ?_); (case side1 => have hx_ := (Kd.C_below HR0.out HB.out); exact kc_); (case side2 => exact HC0.out); rintro e w' ⟨rfl, ⟨nd, rfl⟩⟩; refine ⟨_, rfl, ?_⟩) | ((with_reducible refine gate_builtin (b := .append) (xs := #[.tmp 21, .tmp 23]) rfl ?_); at_builtin; refine Kd.R_append k45 (w0 := w) w.heap.size rfl (.tmp 21) (.tmp 23) 25 45 (.agg #[(.string ⟨#[]⟩), (.int .i8 0), (.string ⟨#[]⟩), (.string ⟨#[]⟩), (.int .i64 0), (.int .i64 0)]) 72 rfl Try.underlying25 info45 rfl (by decide) (by omega) v204 y203 (⟨a1_0, a1_1, a1_2, a1_3, a1_4, a1_5⟩ : S45) [.string a1_0, .int .i8 a1_1, .string a1_2, .string a1_3, .int .i64 a1_4, .int .i64 a1_5] (fun k_ => k_ ≠ gb199) (fun _ => False) rfl rfl ?aP (fun _ hk => hk.elim) ?aF ?aO ?aB ?aS ?aL ?_; (case aP => exact k45_mkM _ _ _ (⟨a1_0, a1_1, a1_2, a1_3, a1_4, a1_5⟩ : S45)); (case aB => exact z8_1_); (case aF => exact (fun k_ hk => Kd.freshB (g := gb199) (o := .cells #[.string a1_0, .int .i8 a1_1, .string a1_2, .string a1_3, .int .i64 a1_4, .int .i64 a1_5] 45 (0, 0)) z8_3_ k_ hk)); (case aO => exact z8_5_); (case aS => exact (below_size z8_1_)); (case aL => have := LMc14.out; omega); intro v211 w22 ho hb hg hat; rw [← Ny210.out] at ho; have _ := A_ (blk_grown (g := gb199) (o := .cells #[.string a1_0, .int .i8 a1_1, .string a1_2, .string a1_3, .int .i64 a1_4, .int .i64 a1_5] 45 (0, 0)) z8_3_ hg (Kd.R_away HO205.out (fun _ hk => hk))); have _ := A_ (hb); have _ := A_ (ho); clear BK199 HB HO205; rename_i BK199 HB HO212; clear ho hb hg hat; obtain ⟨Ao23, co23, eo23⟩ := Kd.R_slice HO212.out; subst eo23) | ((with_reducible refine gate_callee (f := 64) rfl ?_); refine goesL_ (some 30) rfl rfl Try.func64 (by kernel_rfl) rfl #[.slice Ao23 y210.length co23] rfl z8_4_ ?_; (with_reducible refine (spec_l07Ok.calls k _ _ y210 true _ ?side1 ?side2 A15.out).mono ?_); (case side1 => have hx_ := (Kd.R_reads' HO212.out).2.2; exact kc_); (case side2 => exact (Kd.R_reads' HO212.out).2.1); rintro e w24 ⟨rfl, hb⟩; refine ⟨_, rfl, ?_⟩; have _ := A_ (Kd.R_below z8_9_ hb); have _ := A_ (blk_below (g := gb199) (o := .cells #[.string a1_0, .int .i8 a1_1, .string a1_2, .string a1_3, .int .i64 a1_4, .int .i64 a1_5] 45 (0, 0)) z8_3_ hb); have _ := A_ (below_step z8_1_ hb); clear HO212 BK199 HB; rename_i HO212 BK199 HB; (try clear hb)))
      go_ret2
      exact ⟨_, z8_6_, (by (with_reducible repeat (first | apply Kd.R_alloc | apply Kd.R_drewN | apply Kd.R_drew)); exact Kd.R_mono HO212.out (fun _ hk => trivial)), z8_1_⟩
     ·
      replace c16 := Bool.eq_false_iff.mpr c16
      subst c16
      have H1 := H; rw [if_neg (show ¬ (false = true) by decide)] at H1
      clear H
      have H := H1
      clear H1
      obtain ⟨y214, hy214⟩ : ∃ y_ : List (S45), y_ = (([] : List (S45))) := ⟨_, rfl⟩
      replace H : (some (y214, 4)) = some (r1, r2) := by first | (rw [hy214]; with_reducible exact H) | (have H2_ := (Option.bind_some _ _).symm.trans H; rw [hy214]; with_reducible exact H2_) | (have H2_ := (Option.bind_some _ _).symm.trans H; with_reducible exact H2_) | with_reducible exact H | (rw [hy214]; exact H) | exact H
      have Ny214 := A_ hy214
      clear hy214
      simp only [Option.some.injEq, Prod.mk.injEq] at H
      obtain ⟨rfl, rfl⟩ := H
      go_enter Try.func77, Try.ntmps77
      go_wp2_with (first | ((with_reducible refine gate_dst (N := 3) rfl ?_); refine box_event ?hg (N := 3) ?hd (cs := #[.string a1_0, .int .i8 a1_1, .string a1_2, .string a1_3, .int .i64 a1_4, .int .i64 a1_5]) (t := 45) ?hr ?_; (case hd => rfl); (case hg => rfl); (case hr => first | (go_simp; done) | (go_simp; rfl)); intro gb199 hg w25 hbox hb; have _ := A_ (below_step z8_2_ hb); have _ := A_ (hbox); have _ := A_ ((by rw [hg]; exact (below_size z8_2_) : w.heap.size ≤ gb199)); have _ := A_ ((by rw [hg]; exact (below_size z8_2_) : w.heap.size ≤ gb199)); clear HB; rename_i HB BK199 GW199 GE199; clear hb hbox hg) | ((with_reducible refine gate_dst (N := 8) rfl ?_); refine Kd.R_lit k45 _ 45 ?hg (N := 8) ?hd (xs := ([] : List (S45))) (inner := []) (ok := fun _ => True) (okp := fun _ => True) ?hr ?hp (fun _ hk => hk) trivial (Below.refl _ _) (Nat.le_refl _) (by simp) ?_; (case hd => rfl); (case hg => rfl); (case hr => first | (go_simp; done) | (go_simp; rfl)); (case hp => exact (Reps.none _ _)); intro v201 w26 ho27 hb hg_ hnew_; clear hg_ hnew_; (first | rw [← Ny200.out] at ho27 | (simp only [Int.reduceToNat] at ho27; rw [← Ny200.out] at ho27)); have _ := A_ (Kd.R_lower (Kd.R_newB ho27 (g := gb199) (o := .cells #[.string a1_0, .int .i8 a1_1, .string a1_2, .string a1_3, .int .i64 a1_4, .int .i64 a1_5] 45 (0, 0)) z8_3_) (below_size z8_1_)); have _ := A_ (blk_below (g := gb199) (o := .cells #[.string a1_0, .int .i8 a1_1, .string a1_2, .string a1_3, .int .i64 a1_4, .int .i64 a1_5] 45 (0, 0)) z8_3_ hb); have _ := A_ (below_step z8_1_ hb); clear BK199 HB; rename_i HO202 BK199 HB; clear hb ho27) | ((with_reducible refine gate_builtin (b := .append) (xs := #[.tmp 8, .tmp 9]) rfl ?_); at_builtin; refine Kd.R_append_rows k45 (w0 := w) w.heap.size rfl (.tmp 8) (.tmp 9) 25 45 (.agg #[(.string ⟨#[]⟩), (.int .i8 0), (.string ⟨#[]⟩), (.string ⟨#[]⟩), (.int .i64 0), (.int .i64 0)]) 72 rfl Try.underlying25 info45 rfl (by decide) (by omega) v201 y200 l0 _ _ _ (fun k_ => k_ ≠ gb199) (fun _ => False) rfl rfl ?aO ?aR (fun _ _ h => h) (fun _ h => h.elim) ?aF ?aB ?aS ?aL ?_; (case aR => have hx_ := (Kd.C_below HR0.out HB.out); exact kc_); (case aB => exact z8_1_); (case aF => exact (fun k_ hk => Kd.freshB (g := gb199) (o := .cells #[.string a1_0, .int .i8 a1_1, .string a1_2, .string a1_3, .int .i64 a1_4, .int .i64 a1_5] 45 (0, 0)) z8_3_ k_ hk)); (case aO => exact z8_7_); (case aS => exact (below_size z8_1_)); (case aL => have := LMc3.out; omega); intro v204 w28 ho hb hg hat; rw [← Ny203.out] at ho; have _ := A_ (blk_grown (g := gb199) (o := .cells #[.string a1_0, .int .i8 a1_1, .string a1_2, .string a1_3, .int .i64 a1_4, .int .i64 a1_5] 45 (0, 0)) z8_3_ hg (Kd.R_away HO202.out (fun _ hk => hk.2))); have _ := A_ (hb); have _ := A_ (ho); clear BK199 HB HO202; rename_i BK199 HB HO205; clear ho hb hg hat; obtain ⟨hcz29_0, hcz29_1, hcz29_2, hcz29_3, hcz29_4, hcz29_5⟩ := bc6 BK199.out; obtain ⟨hfz29_0, hfz29_1, hfz29_2, hfz29_3, hfz29_4, hfz29_5⟩ := bf6 BK199.out) | ((with_reducible refine gate_callee (f := 89) rfl ?_); refine goesL_ (some 14) rfl rfl Try.func89 (by kernel_rfl) rfl #[.slice A0 l0.length c0, .string a1_0] rfl z8_4_ ?_; (with_reducible refine (spec_l07Find.calls k _ _ l0 a1_0 t206 _ ?side1 ?side2 A4.out).mono ?_); (case side1 => have hx_ := (Kd.C_below HR0.out HB.out); exact kc_); (case side2 => exact HC0.out); rintro e w' ⟨rfl, ⟨nd, rfl⟩⟩; refine ⟨_, rfl, ?_⟩) | ((with_reducible refine gate_builtin (b := .append) (xs := #[.tmp 21, .tmp 23]) rfl ?_); at_builtin; refine Kd.R_append k45 (w0 := w) w.heap.size rfl (.tmp 21) (.tmp 23) 25 45 (.agg #[(.string ⟨#[]⟩), (.int .i8 0), (.string ⟨#[]⟩), (.string ⟨#[]⟩), (.int .i64 0), (.int .i64 0)]) 72 rfl Try.underlying25 info45 rfl (by decide) (by omega) v204 y203 (⟨a1_0, a1_1, a1_2, a1_3, a1_4, a1_5⟩ : S45) [.string a1_0, .int .i8 a1_1, .string a1_2, .string a1_3, .int .i64 a1_4, .int .i64 a1_5] (fun k_ => k_ ≠ gb199) (fun _ => False) rfl rfl ?aP (fun _ hk => hk.elim) ?aF ?aO ?aB ?aS ?aL ?_; (case aP => exact k45_mkM _ _ _ (⟨a1_0, a1_1, a1_2, a1_3, a1_4, a1_5⟩ : S45)); (case aB => exact z8_1_); (case aF => exact (fun k_ hk => Kd.freshB (g := gb199) (o := .cells #[.string a1_0, .int .i8 a1_1, .string a1_2, .string a1_3, .int .i64 a1_4, .int .i64 a1_5] 45 (0, 0)) z8_3_ k_ hk)); (case aO => exact z8_5_); (case aS => exact (below_size z8_1_)); (case aL => have := LMc14.out; omega); intro v211 w30 ho hb hg hat; rw [← Ny210.out] at ho; have _ := A_ (blk_grown (g := gb199) (o := .cells #[.string a1_0, .int .i8 a1_1, .string a1_2, .string a1_3, .int .i64 a1_4, .int .i64 a1_5] 45 (0, 0)) z8_3_ hg (Kd.R_away HO205.out (fun _ hk => hk))); have _ := A_ (hb); have _ := A_ (ho); clear BK199 HB HO205; rename_i BK199 HB HO212; clear ho hb hg hat; obtain ⟨Ao31, co31, eo31⟩ := Kd.R_slice HO212.out; subst eo31) | ((with_reducible refine gate_callee (f := 64) rfl ?_); refine goesL_ (some 30) rfl rfl Try.func64 (by kernel_rfl) rfl #[.slice Ao31 y210.length co31] rfl z8_4_ ?_; (with_reducible refine (spec_l07Ok.calls k _ _ y210 false _ ?side1 ?side2 A15.out).mono ?_); (case side1 => have hx_ := (Kd.R_reads' HO212.out).2.2; exact kc_); (case side2 => exact (Kd.R_reads' HO212.out).2.1); rintro e w32 ⟨rfl, hb⟩; refine ⟨_, rfl, ?_⟩; have _ := A_ (Kd.R_below z8_9_ hb); have _ := A_ (blk_below (g := gb199) (o := .cells #[.string a1_0, .int .i8 a1_1, .string a1_2, .string a1_3, .int .i64 a1_4, .int .i64 a1_5] 45 (0, 0)) z8_3_ hb); have _ := A_ (below_step z8_1_ hb); clear HO212 BK199 HB; rename_i HO212 BK199 HB; (try clear hb)) | ((with_reducible refine gate_dst (N := 32) rfl ?_); refine Kd.R_lit k45 _ 45 ?hg (N := 32) ?hd (xs := ([] : List (S45))) (inner := []) (ok := fun _ => True) (okp := fun _ => True) ?hr ?hp (fun _ hk => hk) trivial (Below.refl _ _) (Nat.le_refl _) (by simp) ?_; (case hd => rfl); (case hg => rfl); (case hr => first | (go_simp; done) | (go_simp; rfl)); (case hp => exact (Reps.none _ _)); intro v215 w33 ho34 hb hg_ hnew_; clear hg_ hnew_; (first | rw [← Ny214.out] at ho34 | (simp only [Int.reduceToNat] at ho34; rw [← Ny214.out] at ho34)); have _ := A_ (Kd.R_elder' z8_9_ (Kd.R_base ho34) hb); have _ := A_ (Kd.R_lower (Kd.R_newB (Kd.R_new' ho34 (Kd.R_lt z8_9_)) (g := gb199) (o := .cells #[.string a1_0, .int .i8 a1_1, .string a1_2, .string a1_3, .int .i64 a1_4, .int .i64 a1_5] 45 (0, 0)) z8_3_) (below_size z8_1_)); have _ := A_ (blk_below (g := gb199) (o := .cells #[.string a1_0, .int .i8 a1_1, .string a1_2, .string a1_3, .int .i64 a1_4, .int .i64 a1_5] 45 (0, 0)) z8_3_ hb); have _ := A_ (below_step z8_1_ hb); clear HO212 BK199 HB; rename_i HO212 HO216 BK199 HB; clear hb ho34))
      go_ret2
      exact ⟨_, z8_6_, (by (with_reducible repeat (first | apply Kd.R_alloc | apply Kd.R_drewN | apply Kd.R_drew)); exact Kd.R_mono HO216.out (fun _ hk => trivial)), z8_1_⟩
    ·
     rw [if_neg c14] at H
     exact absurd H (by simp)
  ·
   rw [if_neg c5] at H
   have c5b0 := decide_eq_false c5
   clear c5
   by_cases c35 : 0 ≤ t206
   ·
    rw [if_pos c35] at H
    have c35b0 := decide_eq_true c35
    clear c35
    by_cases c36 : t206 < (y203.length : Int)
    ·
     rw [if_pos c36] at H
     have c36b0 := decide_eq_true c36
     clear c36
     obtain ⟨y217, hy217⟩ : ∃ y_ : List (S45), y_ = (y203.set (t206 : Int).toNat (⟨a1_0, a1_1, a1_2, a1_3, a1_4, a1_5⟩ : S45)) := ⟨_, rfl⟩
     replace H : ((spec_l07Ok.f k y217).bind fun t218 => (if t218 = true then (some (y217, 0)) else (some ((([] : List (S45))), 4)))) = some (r1, r2) := by first | (rw [hy217]; with_reducible exact H) | (have H2_ := (Option.bind_some _ _).symm.trans H; rw [hy217]; with_reducible exact H2_) | (have H2_ := (Option.bind_some _ _).symm.trans H; with_reducible exact H2_) | with_reducible exact H | (rw [hy217]; exact H) | exact H
     have Ny217 := A_ hy217
     clear hy217
     replace H := Option.bind_eq_some_iff.mp H
     obtain ⟨t218, A380, H⟩ := H
     try dsimp only at H
     have A38 := A_ A380
     clear A380
     by_cases c39 : t218 = true
     ·
      subst c39
      have H1 := H; rw [if_pos rfl] at H1
      clear H
      have H := H1
      clear H1
      simp only [Option.some.injEq, Prod.mk.injEq] at H
      obtain ⟨rfl, rfl⟩ := H
      go_enter Try.func77, Try.ntmps77
      go_wp2_with (first | ((with_reducible refine gate_dst (N := 3) rfl ?_); refine box_event ?hg (N := 3) ?hd (cs := #[.string a1_0, .int .i8 a1_1, .string a1_2, .string a1_3, .int .i64 a1_4, .int .i64 a1_5]) (t := 45) ?hr ?_; (case hd => rfl); (case hg => rfl); (case hr => first | (go_simp; done) | (go_simp; rfl)); intro gb199 hg w40 hbox hb; have _ := A_ (below_step z8_2_ hb); have _ := A_ (hbox); have _ := A_ ((by rw [hg]; exact (below_size z8_2_) : w.heap.size ≤ gb199)); have _ := A_ ((by rw [hg]; exact (below_size z8_2_) : w.heap.size ≤ gb199)); clear HB; rename_i HB BK199 GW199 GE199; clear hb hbox hg) | ((with_reducible refine gate_dst (N := 8) rfl ?_); refine Kd.R_lit k45 _ 45 ?hg (N := 8) ?hd (xs := ([] : List (S45))) (inner := []) (ok := fun _ => True) (okp := fun _ => True) ?hr ?hp (fun _ hk => hk) trivial (Below.refl _ _) (Nat.le_refl _) (by simp) ?_; (case hd => rfl); (case hg => rfl); (case hr => first | (go_simp; done) | (go_simp; rfl)); (case hp => exact (Reps.none _ _)); intro v201 w41 ho42 hb hg_ hnew_; clear hg_ hnew_; (first | rw [← Ny200.out] at ho42 | (simp only [Int.reduceToNat] at ho42; rw [← Ny200.out] at ho42)); have _ := A_ (Kd.R_lower (Kd.R_newB ho42 (g := gb199) (o := .cells #[.string a1_0, .int .i8 a1_1, .string a1_2, .string a1_3, .int .i64 a1_4, .int .i64 a1_5] 45 (0, 0)) z8_3_) (below_size z8_1_)); have _ := A_ (blk_below (g := gb199) (o := .cells #[.string a1_0, .int .i8 a1_1, .string a1_2, .string a1_3, .int .i64 a1_4, .int .i64 a1_5] 45 (0, 0)) z8_3_ hb); have _ := A_ (below_step z8_1_ hb); clear BK199 HB; rename_i HO202 BK199 HB; clear hb ho42) | ((with_reducible refine gate_builtin (b := .append) (xs := #[.tmp 8, .tmp 9]) rfl ?_); at_builtin; refine Kd.R_append_rows k45 (w0 := w) w.heap.size rfl (.tmp 8) (.tmp 9) 25 45 (.agg #[(.string ⟨#[]⟩), (.int .i8 0), (.string ⟨#[]⟩), (.string ⟨#[]⟩), (.int .i64 0), (.int .i64 0)]) 72 rfl Try.underlying25 info45 rfl (by decide) (by omega) v201 y200 l0 _ _ _ (fun k_ => k_ ≠ gb199) (fun _ => False) rfl rfl ?aO ?aR (fun _ _ h => h) (fun _ h => h.elim) ?aF ?aB ?aS ?aL ?_; (case aR => have hx_ := (Kd.C_below HR0.out HB.out); exact kc_); (case aB => exact z8_1_); (case aF => exact (fun k_ hk => Kd.freshB (g := gb199) (o := .cells #[.string a1_0, .int .i8 a1_1, .string a1_2, .string a1_3, .int .i64 a1_4, .int .i64 a1_5] 45 (0, 0)) z8_3_ k_ hk)); (case aO => exact z8_7_); (case aS => exact (below_size z8_1_)); (case aL => have := LMc3.out; omega); intro v204 w43 ho hb hg hat; rw [← Ny203.out] at ho; have _ := A_ (blk_grown (g := gb199) (o := .cells #[.string a1_0, .int .i8 a1_1, .string a1_2, .string a1_3, .int .i64 a1_4, .int .i64 a1_5] 45 (0, 0)) z8_3_ hg (Kd.R_away HO202.out (fun _ hk => hk.2))); have _ := A_ (hb); have _ := A_ (ho); clear BK199 HB HO202; rename_i BK199 HB HO205; clear ho hb hg hat; obtain ⟨hcz44_0, hcz44_1, hcz44_2, hcz44_3, hcz44_4, hcz44_5⟩ := bc6 BK199.out; obtain ⟨hfz44_0, hfz44_1, hfz44_2, hfz44_3, hfz44_4, hfz44_5⟩ := bf6 BK199.out) | ((with_reducible refine gate_callee (f := 89) rfl ?_); refine goesL_ (some 14) rfl rfl Try.func89 (by kernel_rfl) rfl #[.slice A0 l0.length c0, .string a1_0] rfl z8_4_ ?_; (with_reducible refine (spec_l07Find.calls k _ _ l0 a1_0 t206 _ ?side1 ?side2 A4.out).mono ?_); (case side1 => have hx_ := (Kd.C_below HR0.out HB.out); exact kc_); (case side2 => exact HC0.out); rintro e w' ⟨rfl, ⟨nd, rfl⟩⟩; refine ⟨_, rfl, ?_⟩; (try (rw [drewN_self w43]; generalize hq_ : World.drewN w43 _ = w43; have n0_ : Aside0 (Kd.R k45 45 w43 w.heap.size (fun k_ => k_ ≠ gb199) v204 y203) := ⟨(by rw [← hq_]; exact z8_5_)⟩; have n1_ : Aside0 (w43.heap[gb199]? = some (.cells #[.string a1_0, .int .i8 a1_1, .string a1_2, .string a1_3, .int .i64 a1_4, .int .i64 a1_5] 45 (0, 0))) := ⟨(by rw [← hq_]; exact z8_3_)⟩; have n2_ : Aside0 (Below w.heap.size w w43) := ⟨(by rw [← hq_]; exact z8_1_)⟩; clear HO205 BK199 HB hq_; have HO205 := n0_; have BK199 := n1_; have HB := n2_; clear n0_ n1_ n2_)); (try (obtain ⟨hcz44_0, hcz44_1, hcz44_2, hcz44_3, hcz44_4, hcz44_5⟩ := bc6 BK199.out; obtain ⟨hfz44_0, hfz44_1, hfz44_2, hfz44_3, hfz44_4, hfz44_5⟩ := bf6 BK199.out)); have p37 : 0 ≤ (t206 : Int) := of_decide_eq_true (by assumption); have q37 : (t206 : Int) < ((y203.length : Int) : Int) := of_decide_eq_true (by assumption); obtain ⟨go37, co37, eo37, gb37, gl37, cl37, HG37⟩ := Kd.R_form HO205.out (by omega); (first | cases eo37 | (injection eo37 with ea_ en_ ec_; (first | subst ea_ | (injection ea_ with ea_; subst ea_)); subst ec_; clear en_)); have GB37 := A_ gb37; have GG37 := A_ HG37; clear gb37 gl37 HG37; obtain ⟨ce37, hcl37, hM37, hcc37, hfr37⟩ := Kd.R_elem HO205.out z45 (t206 : Int) p37 q37; obtain rfl := k45_openM hM37; have hx37_0 : w43.cell? ⟨go37, (t206 : Int).toNat * 6, none⟩ = some (.string ((rd_T45 y203 t206).f0)) := hcc37 0 _ rfl; have hx37_1 : w43.cell? ⟨go37, (t206 : Int).toNat * 6 + 1, none⟩ = some (.int .i8 ((rd_T45 y203 t206).f1)) := hcc37 1 _ rfl; have hx37_2 : w43.cell? ⟨go37, (t206 : Int).toNat * 6 + 2, none⟩ = some (.string ((rd_T45 y203 t206).f2)) := hcc37 2 _ rfl; have hx37_3 : w43.cell? ⟨go37, (t206 : Int).toNat * 6 + 3, none⟩ = some (.string ((rd_T45 y203 t206).f3)) := hcc37 3 _ rfl; have hx37_4 : w43.cell? ⟨go37, (t206 : Int).toNat * 6 + 4, none⟩ = some (.int .i64 ((rd_T45 y203 t206).f4)) := hcc37 4 _ rfl; have hx37_5 : w43.cell? ⟨go37, (t206 : Int).toNat * 6 + 5, none⟩ = some (.int .i64 ((rd_T45 y203 t206).f5)) := hcc37 5 _ rfl; have hf37_0 : w43.frozen? ⟨go37, (t206 : Int).toNat * 6, none⟩ = false := hfr37 0; have hf37_1 : w43.frozen? ⟨go37, (t206 : Int).toNat * 6 + 1, none⟩ = false := hfr37 1; have hf37_2 : w43.frozen? ⟨go37, (t206 : Int).toNat * 6 + 2, none⟩ = false := hfr37 2; have hf37_3 : w43.frozen? ⟨go37, (t206 : Int).toNat * 6 + 3, none⟩ = false := hfr37 3; have hf37_4 : w43.frozen? ⟨go37, (t206 : Int).toNat * 6 + 4, none⟩ = false := hfr37 4; have hf37_5 : w43.frozen? ⟨go37, (t206 : Int).toNat * 6 + 5, none⟩ = false := hfr37 5; clear hcl37 hcc37 hfr37 hM37; replace p37 := eq_true p37; replace q37 := eq_true q37; have HX45 := A_ (show Kd.R k45 45 w43 w.heap.size (fun k_ => k_ ≠ gb199) (.slice (some ⟨go37, 0, none⟩) y203.length co37) y203 from z8_5_); obtain ⟨ce45, hcl45, hM45, hcc45, hfr45⟩ := Kd.R_elem HX45.out z45 (t206 : Int) (of_decide_eq_true (by assumption)) (by have h_ : (t206 : Int) < ((y203.length : Int) : Int) := of_decide_eq_true (by assumption); first | exact h_ | (have e_ := (Kd.R_reads' HO205.out).1; omega) | simpa using h_); obtain rfl := k45_openM hM45; have HP45 := Kd.R_seg HX45.out (t206 : Int) (of_decide_eq_true (by assumption)) (by have h_ : (t206 : Int) < ((y203.length : Int) : Int) := of_decide_eq_true (by assumption); first | exact h_ | (have e_ := (Kd.R_reads' HO205.out).1; omega) | simpa using h_) (seg := [.string a1_0, .int .i8 a1_1, .string a1_2, .string a1_3, .int .i64 a1_4, .int .i64 a1_5]) (j := 0) hcl45 hcc45 (show 6 ≤ 6 from by decide) (x' := (⟨a1_0, a1_1, a1_2, a1_3, a1_4, a1_5⟩ : S45)) (k45_mkM _ _ _ (⟨a1_0, a1_1, a1_2, a1_3, a1_4, a1_5⟩ : S45) ) (fun _ hk => hk); have hx45_0 := hcc45 0 _ rfl; (try simp only [show (k45).sz = 6 from rfl, Nat.mul_one, Nat.add_zero] at hx45_0); have hf45_0 := hfr45 0; (try simp only [show (k45).sz = 6 from rfl, Nat.mul_one, Nat.add_zero] at hf45_0); have hx45_1 := hcc45 1 _ rfl; (try simp only [show (k45).sz = 6 from rfl, Nat.mul_one, Nat.add_zero] at hx45_1); have hf45_1 := hfr45 1; (try simp only [show (k45).sz = 6 from rfl, Nat.mul_one, Nat.add_zero] at hf45_1); have hx45_2 := hcc45 2 _ rfl; (try simp only [show (k45).sz = 6 from rfl, Nat.mul_one, Nat.add_zero] at hx45_2); have hf45_2 := hfr45 2; (try simp only [show (k45).sz = 6 from rfl, Nat.mul_one, Nat.add_zero] at hf45_2); have hx45_3 := hcc45 3 _ rfl; (try simp only [show (k45).sz = 6 from rfl, Nat.mul_one, Nat.add_zero] at hx45_3); have hf45_3 := hfr45 3; (try simp only [show (k45).sz = 6 from rfl, Nat.mul_one, Nat.add_zero] at hf45_3); have hx45_4 := hcc45 4 _ rfl; (try simp only [show (k45).sz = 6 from rfl, Nat.mul_one, Nat.add_zero] at hx45_4); have hf45_4 := hfr45 4; (try simp only [show (k45).sz = 6 from rfl, Nat.mul_one, Nat.add_zero] at hf45_4); have hx45_5 := hcc45 5 _ rfl; (try simp only [show (k45).sz = 6 from rfl, Nat.mul_one, Nat.add_zero] at hx45_5); have hf45_5 := hfr45 5; (try simp only [show (k45).sz = 6 from rfl, Nat.mul_one, Nat.add_zero] at hf45_5); clear hcl45 hcc45 hfr45 hM45) | ((with_reducible refine gate_store (t := 45) (p := 28) rfl ?_); refine store_event (t := 45) (p := 28) (v := ?vo_w46) (w1 := ((((((w43.setCell ⟨go37, (t206 : Int).toNat * 6, none⟩ (.string a1_0)).setCell ⟨go37, (t206 : Int).toNat * 6 + 1, none⟩ (.int .i8 a1_1)).setCell ⟨go37, (t206 : Int).toNat * 6 + 2, none⟩ (.string a1_2)).setCell ⟨go37, (t206 : Int).toNat * 6 + 3, none⟩ (.string a1_3)).setCell ⟨go37, (t206 : Int).toNat * 6 + 4, none⟩ (.int .i64 a1_4)).setCell ⟨go37, (t206 : Int).toNat * 6 + 5, none⟩ (.int .i64 a1_5))) ?hg ?ho ?hn ?hr ?_; (case ho => rfl); (case hg => rfl); (case hn => rfl); (case hr => first | (go_simp; done) | (go_simp; rfl)); intro w46 hw; have hg : w43.grownBy w46 (some go37) := (by rw [hw]; exact HP45.2); have hp_ : Kd.R k45 45 w46 w.heap.size (fun k_ => k_ ≠ gb199) (.slice (some ⟨go37, 0, none⟩) y203.length co37) y217 := (by rw [hw, Ny217.out]; exact HP45.1); clear HP45; have _ := A_ (blk_grown (g := gb199) (o := .cells #[.string a1_0, .int .i8 a1_1, .string a1_2, .string a1_3, .int .i64 a1_4, .int .i64 a1_5] 45 (0, 0)) z8_3_ hg (Kd.R_away HO205.out (fun _ hk => hk))); have _ := A_ (hp_); have _ := A_ ((by rw [hw]; exact below_set (below_set (below_set (below_set (below_set (below_set (HB.out) GB37.out) GB37.out) GB37.out) GB37.out) GB37.out) GB37.out : Below w.heap.size w w46)); clear BK199 HO205 HB; rename_i BK199 HO205 HB; clear hg hw hp_) | ((with_reducible refine gate_callee (f := 64) rfl ?_); refine goesL_ (some 30) rfl rfl Try.func64 (by kernel_rfl) rfl #[.slice (some ⟨go37, 0, none⟩) y217.length co37] rfl z8_10_ ?_; (with_reducible refine (spec_l07Ok.calls k _ _ y217 true _ ?side1 ?side2 A38.out).mono ?_); (case side1 => have hx_ := (Kd.R_reads' HO205.out).2.2; exact kc_); (case side2 => rw [show y217.length = y203.length from (Kd.R_reads' HO205.out).1.symm]; exact (Kd.R_reads' HO205.out).2.1); rintro e w47 ⟨rfl, hb⟩; refine ⟨_, rfl, ?_⟩; have _ := A_ (Kd.R_below z8_5_ hb); have _ := A_ (blk_below (g := gb199) (o := .cells #[.string a1_0, .int .i8 a1_1, .string a1_2, .string a1_3, .int .i64 a1_4, .int .i64 a1_5] 45 (0, 0)) z8_3_ hb); have _ := A_ (below_step z8_1_ hb); clear HO205 BK199 HB; rename_i HO205 BK199 HB; (try clear hb)))
      go_ret2
      exact ⟨_, z8_6_, (by (with_reducible repeat (first | apply Kd.R_alloc | apply Kd.R_drewN | apply Kd.R_drew)); exact Kd.R_mono HO205.out (fun _ hk => trivial)), z8_1_⟩
     ·
      replace c39 := Bool.eq_false_iff.mpr c39
      subst c39
      have H1 := H; rw [if_neg (show ¬ (false = true) by decide)] at H1
      clear H
      have H := H1
      clear H1
      obtain ⟨y219, hy219⟩ : ∃ y_ : List (S45), y_ = (([] : List (S45))) := ⟨_, rfl⟩
      replace H : (some (y219, 4)) = some (r1, r2) := by first | (rw [hy219]; with_reducible exact H) | (have H2_ := (Option.bind_some _ _).symm.trans H; rw [hy219]; with_reducible exact H2_) | (have H2_ := (Option.bind_some _ _).symm.trans H; with_reducible exact H2_) | with_reducible exact H | (rw [hy219]; exact H) | exact H
      have Ny219 := A_ hy219
      clear hy219
      simp only [Option.some.injEq, Prod.mk.injEq] at H
      obtain ⟨rfl, rfl⟩ := H
      go_enter Try.func77, Try.ntmps77
      go_wp2_with (first | ((with_reducible refine gate_dst (N := 3) rfl ?_); refine box_event ?hg (N := 3) ?hd (cs := #[.string a1_0, .int .i8 a1_1, .string a1_2, .string a1_3, .int .i64 a1_4, .int .i64 a1_5]) (t := 45) ?hr ?_; (case hd => rfl); (case hg => rfl); (case hr => first | (go_simp; done) | (go_simp; rfl)); intro gb199 hg w48 hbox hb; have _ := A_ (below_step z8_2_ hb); have _ := A_ (hbox); have _ := A_ ((by rw [hg]; exact (below_size z8_2_) : w.heap.size ≤ gb199)); have _ := A_ ((by rw [hg]; exact (below_size z8_2_) : w.heap.size ≤ gb199)); clear HB; rename_i HB BK199 GW199 GE199; clear hb hbox hg) | ((with_reducible refine gate_dst (N := 8) rfl ?_); refine Kd.R_lit k45 _ 45 ?hg (N := 8) ?hd (xs := ([] : List (S45))) (inner := []) (ok := fun _ => True) (okp := fun _ => True) ?hr ?hp (fun _ hk => hk) trivial (Below.refl _ _) (Nat.le_refl _) (by simp) ?_; (case hd => rfl); (case hg => rfl); (case hr => first | (go_simp; done) | (go_simp; rfl)); (case hp => exact (Reps.none _ _)); intro v201 w49 ho50 hb hg_ hnew_; clear hg_ hnew_; (first | rw [← Ny200.out] at ho50 | (simp only [Int.reduceToNat] at ho50; rw [← Ny200.out] at ho50)); have _ := A_ (Kd.R_lower (Kd.R_newB ho50 (g := gb199) (o := .cells #[.string a1_0, .int .i8 a1_1, .string a1_2, .string a1_3, .int .i64 a1_4, .int .i64 a1_5] 45 (0, 0)) z8_3_) (below_size z8_1_)); have _ := A_ (blk_below (g := gb199) (o := .cells #[.string a1_0, .int .i8 a1_1, .string a1_2, .string a1_3, .int .i64 a1_4, .int .i64 a1_5] 45 (0, 0)) z8_3_ hb); have _ := A_ (below_step z8_1_ hb); clear BK199 HB; rename_i HO202 BK199 HB; clear hb ho50) | ((with_reducible refine gate_builtin (b := .append) (xs := #[.tmp 8, .tmp 9]) rfl ?_); at_builtin; refine Kd.R_append_rows k45 (w0 := w) w.heap.size rfl (.tmp 8) (.tmp 9) 25 45 (.agg #[(.string ⟨#[]⟩), (.int .i8 0), (.string ⟨#[]⟩), (.string ⟨#[]⟩), (.int .i64 0), (.int .i64 0)]) 72 rfl Try.underlying25 info45 rfl (by decide) (by omega) v201 y200 l0 _ _ _ (fun k_ => k_ ≠ gb199) (fun _ => False) rfl rfl ?aO ?aR (fun _ _ h => h) (fun _ h => h.elim) ?aF ?aB ?aS ?aL ?_; (case aR => have hx_ := (Kd.C_below HR0.out HB.out); exact kc_); (case aB => exact z8_1_); (case aF => exact (fun k_ hk => Kd.freshB (g := gb199) (o := .cells #[.string a1_0, .int .i8 a1_1, .string a1_2, .string a1_3, .int .i64 a1_4, .int .i64 a1_5] 45 (0, 0)) z8_3_ k_ hk)); (case aO => exact z8_7_); (case aS => exact (below_size z8_1_)); (case aL => have := LMc3.out; omega); intro v204 w51 ho hb hg hat; rw [← Ny203.out] at ho; have _ := A_ (blk_grown (g := gb199) (o := .cells #[.string a1_0, .int .i8 a1_1, .string a1_2, .string a1_3, .int .i64 a1_4, .int .i64 a1_5] 45 (0, 0)) z8_3_ hg (Kd.R_away HO202.out (fun _ hk => hk.2))); have _ := A_ (hb); have _ := A_ (ho); clear BK199 HB HO202; rename_i BK199 HB HO205; clear ho hb hg hat; obtain ⟨hcz52_0, hcz52_1, hcz52_2, hcz52_3, hcz52_4, hcz52_5⟩ := bc6 BK199.out; obtain ⟨hfz52_0, hfz52_1, hfz52_2, hfz52_3, hfz52_4, hfz52_5⟩ := bf6 BK199.out) | ((with_reducible refine gate_callee (f := 89) rfl ?_); refine goesL_ (some 14) rfl rfl Try.func89 (by kernel_rfl) rfl #[.slice A0 l0.length c0, .string a1_0] rfl z8_4_ ?_; (with_reducible refine (spec_l07Find.calls k _ _ l0 a1_0 t206 _ ?side1 ?side2 A4.out).mono ?_); (case side1 => have hx_ := (Kd.C_below HR0.out HB.out); exact kc_); (case side2 => exact HC0.out); rintro e w' ⟨rfl, ⟨nd, rfl⟩⟩; refine ⟨_, rfl, ?_⟩; (try (rw [drewN_self w51]; generalize hq_ : World.drewN w51 _ = w51; have n0_ : Aside0 (Kd.R k45 45 w51 w.heap.size (fun k_ => k_ ≠ gb199) v204 y203) := ⟨(by rw [← hq_]; exact z8_5_)⟩; have n1_ : Aside0 (w51.heap[gb199]? = some (.cells #[.string a1_0, .int .i8 a1_1, .string a1_2, .string a1_3, .int .i64 a1_4, .int .i64 a1_5] 45 (0, 0))) := ⟨(by rw [← hq_]; exact z8_3_)⟩; have n2_ : Aside0 (Below w.heap.size w w51) := ⟨(by rw [← hq_]; exact z8_1_)⟩; clear HO205 BK199 HB hq_; have HO205 := n0_; have BK199 := n1_; have HB := n2_; clear n0_ n1_ n2_)); (try (obtain ⟨hcz52_0, hcz52_1, hcz52_2, hcz52_3, hcz52_4, hcz52_5⟩ := bc6 BK199.out; obtain ⟨hfz52_0, hfz52_1, hfz52_2, hfz52_3, hfz52_4, hfz52_5⟩ := bf6 BK199.out)); have p37 : 0 ≤ (t206 : Int) := of_decide_eq_true (by assumption); have q37 : (t206 : Int) < ((y203.length : Int) : Int) := of_decide_eq_true (by assumption); obtain ⟨go37, co37, eo37, gb37, gl37, cl37, HG37⟩ := Kd.R_form HO205.out (by omega); (first | cases eo37 | (injection eo37 with ea_ en_ ec_; (first | subst ea_ | (injection ea_ with ea_; subst ea_)); subst ec_; clear en_)); have GB37 := A_ gb37; have GG37 := A_ HG37; clear gb37 gl37 HG37; obtain ⟨ce37, hcl37, hM37, hcc37, hfr37⟩ := Kd.R_elem HO205.out z45 (t206 : Int) p37 q37; obtain rfl := k45_openM hM37; have hx37_0 : w51.cell? ⟨go37, (t206 : Int).toNat * 6, none⟩ = some (.string ((rd_T45 y203 t206).f0)) := hcc37 0 _ rfl; have hx37_1 : w51.cell? ⟨go37, (t206 : Int).toNat * 6 + 1, none⟩ = some (.int .i8 ((rd_T45 y203 t206).f1)) := hcc37 1 _ rfl; have hx37_2 : w51.cell? ⟨go37, (t206 : Int).toNat * 6 + 2, none⟩ = some (.string ((rd_T45 y203 t206).f2)) := hcc37 2 _ rfl; have hx37_3 : w51.cell? ⟨go37, (t206 : Int).toNat * 6 + 3, none⟩ = some (.string ((rd_T45 y203 t206).f3)) := hcc37 3 _ rfl; have hx37_4 : w51.cell? ⟨go37, (t206 : Int).toNat * 6 + 4, none⟩ = some (.int .i64 ((rd_T45 y203 t206).f4)) := hcc37 4 _ rfl; have hx37_5 : w51.cell? ⟨go37, (t206 : Int).toNat * 6 + 5, none⟩ = some (.int .i64 ((rd_T45 y203 t206).f5)) := hcc37 5 _ rfl; have hf37_0 : w51.frozen? ⟨go37, (t206 : Int).toNat * 6, none⟩ = false := hfr37 0; have hf37_1 : w51.frozen? ⟨go37, (t206 : Int).toNat * 6 + 1, none⟩ = false := hfr37 1; have hf37_2 : w51.frozen? ⟨go37, (t206 : Int).toNat * 6 + 2, none⟩ = false := hfr37 2; have hf37_3 : w51.frozen? ⟨go37, (t206 : Int).toNat * 6 + 3, none⟩ = false := hfr37 3; have hf37_4 : w51.frozen? ⟨go37, (t206 : Int).toNat * 6 + 4, none⟩ = false := hfr37 4; have hf37_5 : w51.frozen? ⟨go37, (t206 : Int).toNat * 6 + 5, none⟩ = false := hfr37 5; clear hcl37 hcc37 hfr37 hM37; replace p37 := eq_true p37; replace q37 := eq_true q37; have HX53 := A_ (show Kd.R k45 45 w51 w.heap.size (fun k_ => k_ ≠ gb199) (.slice (some ⟨go37, 0, none⟩) y203.length co37) y203 from z8_5_); obtain ⟨ce53, hcl53, hM53, hcc53, hfr53⟩ := Kd.R_elem HX53.out z45 (t206 : Int) (of_decide_eq_true (by assumption)) (by have h_ : (t206 : Int) < ((y203.length : Int) : Int) := of_decide_eq_true (by assumption); first | exact h_ | (have e_ := (Kd.R_reads' HO205.out).1; omega) | simpa using h_); obtain rfl := k45_openM hM53; have HP53 := Kd.R_seg HX53.out (t206 : Int) (of_decide_eq_true (by assumption)) (by have h_ : (t206 : Int) < ((y203.length : Int) : Int) := of_decide_eq_true (by assumption); first | exact h_ | (have e_ := (Kd.R_reads' HO205.out).1; omega) | simpa using h_) (seg := [.string a1_0, .int .i8 a1_1, .string a1_2, .string a1_3, .int .i64 a1_4, .int .i64 a1_5]) (j := 0) hcl53 hcc53 (show 6 ≤ 6 from by decide) (x' := (⟨a1_0, a1_1, a1_2, a1_3, a1_4, a1_5⟩ : S45)) (k45_mkM _ _ _ (⟨a1_0, a1_1, a1_2, a1_3, a1_4, a1_5⟩ : S45) ) (fun _ hk => hk); have hx53_0 := hcc53 0 _ rfl; (try simp only [show (k45).sz = 6 from rfl, Nat.mul_one, Nat.add_zero] at hx53_0); have hf53_0 := hfr53 0; (try simp only [show (k45).sz = 6 from rfl, Nat.mul_one, Nat.add_zero] at hf53_0); have hx53_1 := hcc53 1 _ rfl; (try simp only [show (k45).sz = 6 from rfl, Nat.mul_one, Nat.add_zero] at hx53_1); have hf53_1 := hfr53 1; (try simp only [show (k45).sz = 6 from rfl, Nat.mul_one, Nat.add_zero] at hf53_1); have hx53_2 := hcc53 2 _ rfl; (try simp only [show (k45).sz = 6 from rfl, Nat.mul_one, Nat.add_zero] at hx53_2); have hf53_2 := hfr53 2; (try simp only [show (k45).sz = 6 from rfl, Nat.mul_one, Nat.add_zero] at hf53_2); have hx53_3 := hcc53 3 _ rfl; (try simp only [show (k45).sz = 6 from rfl, Nat.mul_one, Nat.add_zero] at hx53_3); have hf53_3 := hfr53 3; (try simp only [show (k45).sz = 6 from rfl, Nat.mul_one, Nat.add_zero] at hf53_3); have hx53_4 := hcc53 4 _ rfl; (try simp only [show (k45).sz = 6 from rfl, Nat.mul_one, Nat.add_zero] at hx53_4); have hf53_4 := hfr53 4; (try simp only [show (k45).sz = 6 from rfl, Nat.mul_one, Nat.add_zero] at hf53_4); have hx53_5 := hcc53 5 _ rfl; (try simp only [show (k45).sz = 6 from rfl, Nat.mul_one, Nat.add_zero] at hx53_5); have hf53_5 := hfr53 5; (try simp only [show (k45).sz = 6 from rfl, Nat.mul_one, Nat.add_zero] at hf53_5); clear hcl53 hcc53 hfr53 hM53) | ((with_reducible refine gate_store (t := 45) (p := 28) rfl ?_); refine store_event (t := 45) (p := 28) (v := ?vo_w54) (w1 := ((((((w51.setCell ⟨go37, (t206 : Int).toNat * 6, none⟩ (.string a1_0)).setCell ⟨go37, (t206 : Int).toNat * 6 + 1, none⟩ (.int .i8 a1_1)).setCell ⟨go37, (t206 : Int).toNat * 6 + 2, none⟩ (.string a1_2)).setCell ⟨go37, (t206 : Int).toNat * 6 + 3, none⟩ (.string a1_3)).setCell ⟨go37, (t206 : Int).toNat * 6 + 4, none⟩ (.int .i64 a1_4)).setCell ⟨go37, (t206 : Int).toNat * 6 + 5, none⟩ (.int .i64 a1_5))) ?hg ?ho ?hn ?hr ?_; (case ho => rfl); (case hg => rfl); (case hn => rfl); (case hr => first | (go_simp; done) | (go_simp; rfl)); intro w54 hw; have hg : w51.grownBy w54 (some go37) := (by rw [hw]; exact HP53.2); have hp_ : Kd.R k45 45 w54 w.heap.size (fun k_ => k_ ≠ gb199) (.slice (some ⟨go37, 0, none⟩) y203.length co37) y217 := (by rw [hw, Ny217.out]; exact HP53.1); clear HP53; have _ := A_ (blk_grown (g := gb199) (o := .cells #[.string a1_0, .int .i8 a1_1, .string a1_2, .string a1_3, .int .i64 a1_4, .int .i64 a1_5] 45 (0, 0)) z8_3_ hg (Kd.R_away HO205.out (fun _ hk => hk))); have _ := A_ (hp_); have _ := A_ ((by rw [hw]; exact below_set (below_set (below_set (below_set (below_set (below_set (HB.out) GB37.out) GB37.out) GB37.out) GB37.out) GB37.out) GB37.out : Below w.heap.size w w54)); clear BK199 HO205 HB; rename_i BK199 HO205 HB; clear hg hw hp_) | ((with_reducible refine gate_callee (f := 64) rfl ?_); refine goesL_ (some 30) rfl rfl Try.func64 (by kernel_rfl) rfl #[.slice (some ⟨go37, 0, none⟩) y217.length co37] rfl z8_10_ ?_; (with_reducible refine (spec_l07Ok.calls k _ _ y217 false _ ?side1 ?side2 A38.out).mono ?_); (case side1 => have hx_ := (Kd.R_reads' HO205.out).2.2; exact kc_); (case side2 => rw [show y217.length = y203.length from (Kd.R_reads' HO205.out).1.symm]; exact (Kd.R_reads' HO205.out).2.1); rintro e w55 ⟨rfl, hb⟩; refine ⟨_, rfl, ?_⟩; have _ := A_ (Kd.R_below z8_5_ hb); have _ := A_ (blk_below (g := gb199) (o := .cells #[.string a1_0, .int .i8 a1_1, .string a1_2, .string a1_3, .int .i64 a1_4, .int .i64 a1_5] 45 (0, 0)) z8_3_ hb); have _ := A_ (below_step z8_1_ hb); clear HO205 BK199 HB; rename_i HO205 BK199 HB; (try clear hb)) | ((with_reducible refine gate_dst (N := 32) rfl ?_); refine Kd.R_lit k45 _ 45 ?hg (N := 32) ?hd (xs := ([] : List (S45))) (inner := []) (ok := fun _ => True) (okp := fun _ => True) ?hr ?hp (fun _ hk => hk) trivial (Below.refl _ _) (Nat.le_refl _) (by simp) ?_; (case hd => rfl); (case hg => rfl); (case hr => first | (go_simp; done) | (go_simp; rfl)); (case hp => exact (Reps.none _ _)); intro v220 w56 ho57 hb hg_ hnew_; clear hg_ hnew_; (first | rw [← Ny219.out] at ho57 | (simp only [Int.reduceToNat] at ho57; rw [← Ny219.out] at ho57)); have _ := A_ (Kd.R_elder' z8_5_ (Kd.R_base ho57) hb); have _ := A_ (Kd.R_lower (Kd.R_newB (Kd.R_new' ho57 (Kd.R_lt z8_5_)) (g := gb199) (o := .cells #[.string a1_0, .int .i8 a1_1, .string a1_2, .string a1_3, .int .i64 a1_4, .int .i64 a1_5] 45 (0, 0)) z8_3_) (below_size z8_1_)); have _ := A_ (blk_below (g := gb199) (o := .cells #[.string a1_0, .int .i8 a1_1, .string a1_2, .string a1_3, .int .i64 a1_4, .int .i64 a1_5] 45 (0, 0)) z8_3_ hb); have _ := A_ (below_step z8_1_ hb); clear HO205 BK199 HB; rename_i HO205 HO221 BK199 HB; clear hb ho57))
      go_ret2
      exact ⟨_, z8_6_, (by (with_reducible repeat (first | apply Kd.R_alloc | apply Kd.R_drewN | apply Kd.R_drew)); exact Kd.R_mono HO221.out (fun _ hk => trivial)), z8_1_⟩
    ·
     rw [if_neg c36] at H
     exact absurd H (by simp)
   ·
    rw [if_neg c35] at H
    exact absurd H (by simp)
 ·
  rw [if_neg c3] at H
  exact absurd H (by simp)
end Go.Proofs.Ytenhgmddpkiliaa.PB

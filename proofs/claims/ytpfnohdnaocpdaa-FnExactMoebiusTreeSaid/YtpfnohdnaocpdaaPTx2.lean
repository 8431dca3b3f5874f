import Derived.Test.YtpfnohdnaocpdaaPTx0
import Derived.Test.YtpfnohdnaocpdaaPTx1
namespace Go.Proofs.Ytpfnohdnaocpdaa.PT
open Go.RowKit Go.Proofs.YtpfnohdnaocpdaaW.PrintWords Go.Proofs.YtpfnohdnaocpdaaW.PrintLast Go.Proofs.YtpfnohdnaocpdaaW.PrintMore Go.Proofs.YtpfnohdnaocpdaaRP
attribute [local go_sem] max2_int min2_int max_two min_two max_three min_three max_four min_four Go.Proofs.YtpfnohdnaocpdaaRP.max_eight Go.Proofs.YtpfnohdnaocpdaaRP.tmod_len   -- for this text's walks alone
set_option linter.unusedVariables false
set_option linter.unusedSimpArgs false
theorem z2_1_ {P : Prop} (h : P := by (try simp only [List.map_toArray, List.map_cons, List.map_nil]); first | done | rfl | (simp only [List.length_drop, List.length_take]; rfl)) : P := h
theorem z2_2_ {P : Prop} (h : P := by first | rfl | (simp; done) | (simp [*]; done) | (simp [isE_]; done)) : P := h
theorem z2_3_ {P : Prop} (h : P := by repeat (first | (with_reducible first | exact HB.out | apply below_alloc | apply pw_below_drewN | apply below_drew1 | refine below_set ?_ GE147.out) | exact HB.out)) : P := h
theorem z2_4_ {P : Prop} (h : P := by repeat (first | exact Drawn0.refl _ | apply Drawn0.step)) : P := h
theorem z2_5_ {P : Prop} (h : P := by (with_reducible repeat (first | refine blk_drewN ?_ _ | refine blk_drew ?_ | refine blk_alloc ?_ _)); exact BK147.out) : P := h
theorem z2_6_ {P : Prop} (h : P := by repeat (first | (with_reducible first | exact HB.out | apply below_alloc | apply pw_below_drewN | apply below_drew1) | exact HB.out)) : P := h
theorem z2_7_ {P : Prop} (h : P := by first | rfl | (simp [errW_none, errW_some] <;> rfl) | (simp [*, errW_none, errW_some] <;> rfl)) : P := h
theorem z2_8_ {P : Prop} (h : P := by repeat (first | (with_reducible first | exact HB.out | apply below_alloc | apply pw_below_drewN | apply below_drew1 | refine below_set ?_ GE147.out | refine below_set ?_ GE152.out) | exact HB.out)) : P := h
theorem z2_9_ {P : Prop} (h : P := by repeat (first | (with_reducible first | exact HB.out | apply below_alloc | apply pw_below_drewN | apply below_drew1 | refine below_set ?_ GE147.out | refine below_set ?_ GE149.out) | exact HB.out)) : P := h
/-! ### spec_l03Ok: function 98 -/
def spec_l03Ok.f (k : Nat) (l0 : List (S36)) : Option (Bool) := if 0 < (l0.length : Int) then (if (((rd_T36 l0 0).f0).length : Int) ≤ 16 then ((spec_l00In.f (((rd_T36 l0 0).f1).length : Int) 1 14).bind fun t130 => (if t130 = true then ((spec_l03Digits.f k ((rd_T36 l0 0).f0)).bind fun t131 => (if t131 = true then ((spec_l03Digits.f k ((rd_T36 l0 0).f1)).bind fun t132 => (some t132)) else (some false))) else (some false))) else (some false)) else (none)
theorem spec_l03Ok.mono : ∀ a0 k, LeO (spec_l03Ok.f k a0) (spec_l03Ok.f (k + 1) a0) := by
 intro a0 k
 unfold spec_l03Ok.f
 repeat' first
   | (with_reducible exact spec_l03Digits.mono _ _)
   | (with_reducible exact LeO.refl _)
   | (with_reducible exact LeO.none _)
   | (with_reducible refine LeO.ite ?_ ?_)
   | (with_reducible refine LeO.bind ?_ (fun _ => ?_))
   | exact LeO.none _
   | refine LeO.ite ?_ ?_
   | refine LeO.bind ?_ (fun _ => ?_)
set_option maxHeartbeats 8000000 in
set_option maxRecDepth 100000 in
theorem spec_l03Ok.calls (k : Nat) (A0 : Option Addr) (c0 : Nat) (l0 : List (S36)) (r : Bool) (w : World) (hr0 : Kd.C k36 w A0 l0.length l0) (hc0 : l0.length ≤ c0) (h : spec_l03Ok.f k l0 = some r) :
  Calls Try.prog 98 #[.pointer A0] w fun e w' => e = .returned (.bool r) ∧ Drawn0 w w' := by
 have HR0 := A_ hr0
 have HC0 := A_ hc0
 clear hr0 hc0
 have H : (if 0 < (l0.length : Int) then (if (((rd_T36 l0 0).f0).length : Int) ≤ 16 then ((spec_l00In.f (((rd_T36 l0 0).f1).length : Int) 1 14).bind fun t130 => (if t130 = true then ((spec_l03Digits.f k ((rd_T36 l0 0).f0)).bind fun t131 => (if t131 = true then ((spec_l03Digits.f k ((rd_T36 l0 0).f1)).bind fun t132 => (some t132)) else (some false))) else (some false))) else (some false)) else (none)) = some r := h
 clear h
 by_cases c2 : 0 < (l0.length : Int)
 ·
  rw [if_pos c2] at H
  have c2b0 := decide_eq_true c2
  have c2b1 : decide (0 < l0.length) = true := decide_eq_true (by omega)
  clear c2
  by_cases c3 : (((rd_T36 l0 0).f0).length : Int) ≤ 16
  ·
   rw [if_pos c3] at H
   have c3b0 := decide_eq_true c3
   have c3b1 : decide (((rd_T36 l0 0).f0).length ≤ 16) = true := decide_eq_true (by omega)
   clear c3
   replace H := Option.bind_eq_some_iff.mp H
   obtain ⟨t130, A40, H⟩ := H
   try dsimp only at H
   have A4 := A_ A40
   clear A40
   by_cases c5 : t130 = true
   ·
    subst c5
    have H1 := H; rw [if_pos rfl] at H1
    clear H
    have H := H1
    clear H1
    replace H := Option.bind_eq_some_iff.mp H
    obtain ⟨t131, A60, H⟩ := H
    try dsimp only at H
    have A6 := A_ A60
    clear A60
    by_cases c7 : t131 = true
    ·
     subst c7
     have H1 := H; rw [if_pos rfl] at H1
     clear H
     have H := H1
     clear H1
     replace H := Option.bind_eq_some_iff.mp H
     obtain ⟨t132, A80, H⟩ := H
     try dsimp only at H
     have A8 := A_ A80
     clear A80
     obtain rfl := Option.some.inj H
     have q129 : 0 < (l0.length : Int) := of_decide_eq_true (by assumption)
     obtain ⟨ad129, A129_0, c129_0, A129_1, c129_1, e129, hx129_0, hx129_1, hl129_0, hi129_0, hl129_1, hi129_1⟩ := rp_T36 HR0.out q129
     cases e129
     have HR129_0 := A_ hi129_0
     have HC129_0 := A_ hl129_0
     clear hi129_0 hl129_0
     have HR129_1 := A_ hi129_1
     have HC129_1 := A_ hl129_1
     clear hi129_1 hl129_1
     go_enter Try.func98, Try.ntmps98
     go_wp2_with (first | (go_at_call 109; (with_reducible refine (spec_l00In.calls (((rd_T36 l0 0).f1).length : Int) 1 14 true _ A4.out).mono ?_); rintro e w' ⟨rfl, ⟨nd, rfl⟩⟩) | (go_at_call 135; (with_reducible refine (spec_l03Digits.calls k _ _ ((rd_T36 l0 0).f0) true _ ?side1 ?side2 A6.out).mono ?_); (case side1 => repeat (first | exact HR129_0.out | (with_reducible refine Kd.C_alloc ?_ _) | (with_reducible refine Kd.C_drewN ?_ _) | (with_reducible refine Kd.C_drew ?_))); (case side2 => exact HC129_0.out); rintro e w' ⟨rfl, ⟨nd, rfl⟩⟩) | (go_at_call 135; (with_reducible refine (spec_l03Digits.calls k _ _ ((rd_T36 l0 0).f1) t132 _ ?side1 ?side2 A8.out).mono ?_); (case side1 => repeat (first | exact HR129_1.out | (with_reducible refine Kd.C_alloc ?_ _) | (with_reducible refine Kd.C_drewN ?_ _) | (with_reducible refine Kd.C_drew ?_))); (case side2 => exact HC129_1.out); rintro e w' ⟨rfl, ⟨nd, rfl⟩⟩))
     go_ret
     exact ⟨z2_2_, z2_4_⟩
    ·
     replace c7 := Bool.eq_false_iff.mpr c7
     subst c7
     have H1 := H; rw [if_neg (show ¬ (false = true) by decide)] at H1
     clear H
     have H := H1
     clear H1
     obtain rfl := Option.some.inj H
     have q129 : 0 < (l0.length : Int) := of_decide_eq_true (by assumption)
     obtain ⟨ad129, A129_0, c129_0, A129_1, c129_1, e129, hx129_0, hx129_1, hl129_0, hi129_0, hl129_1, hi129_1⟩ := rp_T36 HR0.out q129
     cases e129
     have HR129_0 := A_ hi129_0
     have HC129_0 := A_ hl129_0
     clear hi129_0 hl129_0
     have HR129_1 := A_ hi129_1
     have HC129_1 := A_ hl129_1
     clear hi129_1 hl129_1
     go_enter Try.func98, Try.ntmps98
     go_wp2_with (first | (go_at_call 109; (with_reducible refine (spec_l00In.calls (((rd_T36 l0 0).f1).length : Int) 1 14 true _ A4.out).mono ?_); rintro e w' ⟨rfl, ⟨nd, rfl⟩⟩) | (go_at_call 135; (with_reducible refine (spec_l03Digits.calls k _ _ ((rd_T36 l0 0).f0) false _ ?side1 ?side2 A6.out).mono ?_); (case side1 => repeat (first | exact HR129_0.out | (with_reducible refine Kd.C_alloc ?_ _) | (with_reducible refine Kd.C_drewN ?_ _) | (with_reducible refine Kd.C_drew ?_))); (case side2 => exact HC129_0.out); rintro e w' ⟨rfl, ⟨nd, rfl⟩⟩))
     go_ret
     exact ⟨z2_2_, z2_4_⟩
   ·
    replace c5 := Bool.eq_false_iff.mpr c5
    subst c5
    have H1 := H; rw [if_neg (show ¬ (false = true) by decide)] at H1
    clear H
    have H := H1
    clear H1
    obtain rfl := Option.some.inj H
    have q129 : 0 < (l0.length : Int) := of_decide_eq_true (by assumption)
    obtain ⟨ad129, A129_0, c129_0, A129_1, c129_1, e129, hx129_0, hx129_1, hl129_0, hi129_0, hl129_1, hi129_1⟩ := rp_T36 HR0.out q129
    cases e129
    have HR129_0 := A_ hi129_0
    have HC129_0 := A_ hl129_0
    clear hi129_0 hl129_0
    have HR129_1 := A_ hi129_1
    have HC129_1 := A_ hl129_1
    clear hi129_1 hl129_1
    go_enter Try.func98, Try.ntmps98
    go_wp2_with (first | (go_at_call 109; (with_reducible refine (spec_l00In.calls (((rd_T36 l0 0).f1).length : Int) 1 14 false _ A4.out).mono ?_); rintro e w' ⟨rfl, ⟨nd, rfl⟩⟩))
    go_ret
    exact ⟨z2_2_, z2_4_⟩
  ·
   rw [if_neg c3] at H
   have c3b0 := decide_eq_false c3
   have c3b1 : decide (((rd_T36 l0 0).f0).length ≤ 16) = false := decide_eq_false (by omega)
   clear c3
   obtain rfl := Option.some.inj H
   have q129 : 0 < (l0.length : Int) := of_decide_eq_true (by assumption)
   obtain ⟨ad129, A129_0, c129_0, A129_1, c129_1, e129, hx129_0, hx129_1, hl129_0, hi129_0, hl129_1, hi129_1⟩ := rp_T36 HR0.out q129
   cases e129
   have HR129_0 := A_ hi129_0
   have HC129_0 := A_ hl129_0
   clear hi129_0 hl129_0
   have HR129_1 := A_ hi129_1
   have HC129_1 := A_ hl129_1
   clear hi129_1 hl129_1
   go_enter Try.func98, Try.ntmps98
   go_wp2
   go_ret
   exact ⟨z2_2_, z2_4_⟩
 ·
  rw [if_neg c2] at H
  exact absurd H (by simp)
/-! ### spec_l03Fits: function 132 -/
def spec_l03Fits.f (l0 : List (S60)) (a1 : Int) : Option (Bool) := if 0 < (l0.length : Int) then ((spec_l00In.f ((rd_T60 l0 0).f0) (wrap64 (-a1)) a1).bind fun t134 => (if t134 = true then ((spec_l00In.f ((rd_T60 l0 0).f1) (wrap64 (-a1)) a1).bind fun t135 => (if t135 = true then ((spec_l00In.f ((rd_T60 l0 0).f2) (wrap64 (-a1)) a1).bind fun t136 => (if t136 = true then ((spec_l00In.f ((rd_T60 l0 0).f3) (wrap64 (-a1)) a1).bind fun t137 => (some t137)) else (some false))) else (some false))) else (some false))) else (none)
set_option maxHeartbeats 8000000 in
set_option maxRecDepth 100000 in
theorem spec_l03Fits.calls (A0 : Option Addr) (c0 : Nat) (l0 : List (S60)) (a1 : Int) (r : Bool) (w : World) (hr0 : Kd.C k60 w A0 l0.length l0) (hc0 : l0.length ≤ c0) (h : spec_l03Fits.f l0 a1 = some r) :
  Calls Try.prog 132 #[.pointer A0, .int .i64 a1] w fun e w' => e = .returned (.bool r) ∧ Drawn0 w w' := by
 have HR0 := A_ hr0
 have HC0 := A_ hc0
 clear hr0 hc0
 have H : (if 0 < (l0.length : Int) then ((spec_l00In.f ((rd_T60 l0 0).f0) (wrap64 (-a1)) a1).bind fun t134 => (if t134 = true then ((spec_l00In.f ((rd_T60 l0 0).f1) (wrap64 (-a1)) a1).bind fun t135 => (if t135 = true then ((spec_l00In.f ((rd_T60 l0 0).f2) (wrap64 (-a1)) a1).bind fun t136 => (if t136 = true then ((spec_l00In.f ((rd_T60 l0 0).f3) (wrap64 (-a1)) a1).bind fun t137 => (some t137)) else (some false))) else (some false))) else (some false))) else (none)) = some r := h
 clear h
 by_cases c3 : 0 < (l0.length : Int)
 ·
  rw [if_pos c3] at H
  have c3b0 := decide_eq_true c3
  have c3b1 : decide (0 < l0.length) = true := decide_eq_true (by omega)
  clear c3
  replace H := Option.bind_eq_some_iff.mp H
  obtain ⟨t134, A40, H⟩ := H
  try dsimp only at H
  have A4 := A_ A40
  clear A40
  by_cases c5 : t134 = true
  ·
   subst c5
   have H1 := H; rw [if_pos rfl] at H1
   clear H
   have H := H1
   clear H1
   replace H := Option.bind_eq_some_iff.mp H
   obtain ⟨t135, A60, H⟩ := H
   try dsimp only at H
   have A6 := A_ A60
   clear A60
   by_cases c7 : t135 = true
   ·
    subst c7
    have H1 := H; rw [if_pos rfl] at H1
    clear H
    have H := H1
    clear H1
    replace H := Option.bind_eq_some_iff.mp H
    obtain ⟨t136, A80, H⟩ := H
    try dsimp only at H
    have A8 := A_ A80
    clear A80
    by_cases c9 : t136 = true
    ·
     subst c9
     have H1 := H; rw [if_pos rfl] at H1
     clear H
     have H := H1
     clear H1
     replace H := Option.bind_eq_some_iff.mp H
     obtain ⟨t137, A100, H⟩ := H
     try dsimp only at H
     have A10 := A_ A100
     clear A100
     obtain rfl := Option.some.inj H
     have q133 : 0 < (l0.length : Int) := of_decide_eq_true (by assumption)
     obtain ⟨ad133, e133, hx133_0, hx133_1, hx133_2, hx133_3⟩ := rp_T60 HR0.out q133
     cases e133
     go_enter Try.func132, Try.ntmps132
     go_wp2_with (first | ((with_reducible refine gate_callee (f := 109) rfl ?_); refine goesL_ (some 12) rfl rfl Try.func109 (by kernel_rfl) rfl #[.int .i64 ((rd_T60 l0 0).f0), .int .i64 (wrap64 (-a1)), .int .i64 a1] rfl z2_1_ ?_; (with_reducible refine (spec_l00In.calls ((rd_T60 l0 0).f0) (wrap64 (-a1)) a1 true _ A4.out).mono ?_); rintro e w' ⟨rfl, ⟨nd, rfl⟩⟩; refine ⟨_, rfl, ?_⟩) | (go_at_call 109; (with_reducible refine (spec_l00In.calls ((rd_T60 l0 0).f1) (wrap64 (-a1)) a1 true _ A6.out).mono ?_); rintro e w' ⟨rfl, ⟨nd, rfl⟩⟩) | (go_at_call 109; (with_reducible refine (spec_l00In.calls ((rd_T60 l0 0).f2) (wrap64 (-a1)) a1 true _ A8.out).mono ?_); rintro e w' ⟨rfl, ⟨nd, rfl⟩⟩) | (go_at_call 109; (with_reducible refine (spec_l00In.calls ((rd_T60 l0 0).f3) (wrap64 (-a1)) a1 t137 _ A10.out).mono ?_); rintro e w' ⟨rfl, ⟨nd, rfl⟩⟩))
     go_ret
     exact ⟨z2_2_, z2_4_⟩
    ·
     replace c9 := Bool.eq_false_iff.mpr c9
     subst c9
     have H1 := H; rw [if_neg (show ¬ (false = true) by decide)] at H1
     clear H
     have H := H1
     clear H1
     obtain rfl := Option.some.inj H
     have q133 : 0 < (l0.length : Int) := of_decide_eq_true (by assumption)
     obtain ⟨ad133, e133, hx133_0, hx133_1, hx133_2, hx133_3⟩ := rp_T60 HR0.out q133
     cases e133
     go_enter Try.func132, Try.ntmps132
     go_wp2_with (first | ((with_reducible refine gate_callee (f := 109) rfl ?_); refine goesL_ (some 12) rfl rfl Try.func109 (by kernel_rfl) rfl #[.int .i64 ((rd_T60 l0 0).f0), .int .i64 (wrap64 (-a1)), .int .i64 a1] rfl z2_1_ ?_; (with_reducible refine (spec_l00In.calls ((rd_T60 l0 0).f0) (wrap64 (-a1)) a1 true _ A4.out).mono ?_); rintro e w' ⟨rfl, ⟨nd, rfl⟩⟩; refine ⟨_, rfl, ?_⟩) | (go_at_call 109; (with_reducible refine (spec_l00In.calls ((rd_T60 l0 0).f1) (wrap64 (-a1)) a1 true _ A6.out).mono ?_); rintro e w' ⟨rfl, ⟨nd, rfl⟩⟩) | (go_at_call 109; (with_reducible refine (spec_l00In.calls ((rd_T60 l0 0).f2) (wrap64 (-a1)) a1 false _ A8.out).mono ?_); rintro e w' ⟨rfl, ⟨nd, rfl⟩⟩))
     go_ret
     exact ⟨z2_2_, z2_4_⟩
   ·
    replace c7 := Bool.eq_false_iff.mpr c7
    subst c7
    have H1 := H; rw [if_neg (show ¬ (false = true) by decide)] at H1
    clear H
    have H := H1
    clear H1
    obtain rfl := Option.some.inj H
    have q133 : 0 < (l0.length : Int) := of_decide_eq_true (by assumption)
    obtain ⟨ad133, e133, hx133_0, hx133_1, hx133_2, hx133_3⟩ := rp_T60 HR0.out q133
    cases e133
    go_enter Try.func132, Try.ntmps132
    go_wp2_with (first | ((with_reducible refine gate_callee (f := 109) rfl ?_); refine goesL_ (some 12) rfl rfl Try.func109 (by kernel_rfl) rfl #[.int .i64 ((rd_T60 l0 0).f0), .int .i64 (wrap64 (-a1)), .int .i64 a1] rfl z2_1_ ?_; (with_reducible refine (spec_l00In.calls ((rd_T60 l0 0).f0) (wrap64 (-a1)) a1 true _ A4.out).mono ?_); rintro e w' ⟨rfl, ⟨nd, rfl⟩⟩; refine ⟨_, rfl, ?_⟩) | (go_at_call 109; (with_reducible refine (spec_l00In.calls ((rd_T60 l0 0).f1) (wrap64 (-a1)) a1 false _ A6.out).mono ?_); rintro e w' ⟨rfl, ⟨nd, rfl⟩⟩))
    go_ret
    exact ⟨z2_2_, z2_4_⟩
  ·
   replace c5 := Bool.eq_false_iff.mpr c5
   subst c5
   have H1 := H; rw [if_neg (show ¬ (false = true) by decide)] at H1
   clear H
   have H := H1
   clear H1
   obtain rfl := Option.some.inj H
   have q133 : 0 < (l0.length : Int) := of_decide_eq_true (by assumption)
   obtain ⟨ad133, e133, hx133_0, hx133_1, hx133_2, hx133_3⟩ := rp_T60 HR0.out q133
   cases e133
   go_enter Try.func132, Try.ntmps132
   go_wp2_with (first | ((with_reducible refine gate_callee (f := 109) rfl ?_); refine goesL_ (some 12) rfl rfl Try.func109 (by kernel_rfl) rfl #[.int .i64 ((rd_T60 l0 0).f0), .int .i64 (wrap64 (-a1)), .int .i64 a1] rfl z2_1_ ?_; (with_reducible refine (spec_l00In.calls ((rd_T60 l0 0).f0) (wrap64 (-a1)) a1 false _ A4.out).mono ?_); rintro e w' ⟨rfl, ⟨nd, rfl⟩⟩; refine ⟨_, rfl, ?_⟩))
   go_ret
   exact ⟨z2_2_, z2_4_⟩
 ·
  rw [if_neg c3] at H
  exact absurd H (by simp)
/-! ### spec_l03Size: function 153 -/
def spec_l03Size.f (a0 : Int) : Option (Int) := if a0 < 0 then (some (wrap64 (-a0))) else (some a0)
set_option maxHeartbeats 8000000 in
set_option maxRecDepth 100000 in
theorem spec_l03Size.calls (a0 : Int) (r : Int) (w : World) (h : spec_l03Size.f a0 = some r) :
  Calls Try.prog 153 #[.int .i64 a0] w fun e w' => e = .returned (.int .i64 r) ∧ Drawn0 w w' := by
 have H : (if a0 < 0 then (some (wrap64 (-a0))) else (some a0)) = some r := h
 clear h
 by_cases c2 : a0 < 0
 ·
  rw [if_pos c2] at H
  have c2b0 := decide_eq_true c2
  clear c2
  obtain rfl := Option.some.inj H
  go_enter Try.func153, Try.ntmps153
  go_wp2
  go_ret
  exact ⟨z2_2_, z2_4_⟩
 ·
  rw [if_neg c2] at H
  have c2b0 := decide_eq_false c2
  clear c2
  obtain rfl := Option.some.inj H
  go_enter Try.func153, Try.ntmps153
  go_wp2
  go_ret
  exact ⟨z2_2_, z2_4_⟩
/-! ### spec_l03Machine: function 128 -/
def spec_l03Machine.f (l0 : List (S60)) : Option (Bool) := (spec_l03Fits.f l0 1000000).bind fun t138 => (if t138 = true then (if 0 < (l0.length : Int) then ((spec_l03Size.f ((rd_T60 l0 0).f2)).bind fun t140 => (some (decide (((rd_T60 l0 0).f3) > t140)))) else (none)) else (some false))
set_option maxHeartbeats 8000000 in
set_option maxRecDepth 100000 in
theorem spec_l03Machine.calls (A0 : Option Addr) (c0 : Nat) (l0 : List (S60)) (r : Bool) (w : World) (hr0 : Kd.C k60 w A0 l0.length l0) (hc0 : l0.length ≤ c0) (h : spec_l03Machine.f l0 = some r) :
  Calls Try.prog 128 #[.pointer A0] w fun e w' => e = .returned (.bool r) ∧ Drawn0 w w' := by
 have HR0 := A_ hr0
 have HC0 := A_ hc0
 clear hr0 hc0
 have H : ((spec_l03Fits.f l0 1000000).bind fun t138 => (if t138 = true then (if 0 < (l0.length : Int) then ((spec_l03Size.f ((rd_T60 l0 0).f2)).bind fun t140 => (some (decide (((rd_T60 l0 0).f3) > t140)))) else (none)) else (some false))) = some r := h
 clear h
 replace H := Option.bind_eq_some_iff.mp H
 obtain ⟨t138, A20, H⟩ := H
 try dsimp only at H
 have A2 := A_ A20
 clear A20
 by_cases c3 : t138 = true
 ·
  subst c3
  have H1 := H; rw [if_pos rfl] at H1
  clear H
  have H := H1
  clear H1
  by_cases c4 : 0 < (l0.length : Int)
  ·
   rw [if_pos c4] at H
   have c4b0 := decide_eq_true c4
   have c4b1 : decide (0 < l0.length) = true := decide_eq_true (by omega)
   clear c4
   replace H := Option.bind_eq_some_iff.mp H
   obtain ⟨t140, A50, H⟩ := H
   try dsimp only at H
   have A5 := A_ A50
   clear A50
   obtain rfl := Option.some.inj H
   go_enter Try.func128, Try.ntmps128
   go_wp2_with (first | (go_at_call 132; (with_reducible refine (spec_l03Fits.calls _ (l0).length l0 1000000 true _ ?side1 ?side2 A2.out).mono ?_); (case side1 => repeat (first | exact HR0.out | (with_reducible refine Kd.C_alloc ?_ _) | (with_reducible refine Kd.C_drewN ?_ _) | (with_reducible refine Kd.C_drew ?_))); (case side2 => exact Nat.le_refl _); rintro e w' ⟨rfl, ⟨nd, rfl⟩⟩; (try first | exact ⟨rfl, _, World.drewN_drewN _ _ _⟩ | exact ⟨rfl, _, Eq.trans (World.drewN_drewN _ _ _) (congrArg (World.drewN _) (Nat.add_assoc _ _ _))⟩); have q139 : 0 < (l0.length : Int) := of_decide_eq_true (by assumption); obtain ⟨ad139, e139, hx139_0, hx139_1, hx139_2, hx139_3⟩ := rp_T60 HR0.out q139; cases e139) | (go_at_call 153; (with_reducible refine (spec_l03Size.calls ((rd_T60 l0 0).f2) t140 _ A5.out).mono ?_); rintro e w' ⟨rfl, ⟨nd, rfl⟩⟩; (try first | exact ⟨rfl, _, World.drewN_drewN _ _ _⟩ | exact ⟨rfl, _, Eq.trans (World.drewN_drewN _ _ _) (congrArg (World.drewN _) (Nat.add_assoc _ _ _))⟩)))
   repeat (go_quiet (first | (go_at_call 132; (with_reducible refine (spec_l03Fits.calls _ (l0).length l0 1000000 true _ ?side1 ?side2 A2.out).mono ?_); (case side1 => repeat (first | exact HR0.out | (with_reducible refine Kd.C_alloc ?_ _) | (with_reducible refine Kd.C_drewN ?_ _) | (with_reducible refine Kd.C_drew ?_))); (case side2 => exact Nat.le_refl _); rintro e w' ⟨rfl, ⟨nd, rfl⟩⟩; (try first | exact ⟨rfl, _, World.drewN_drewN _ _ _⟩ | exact ⟨rfl, _, Eq.trans (World.drewN_drewN _ _ _) (congrArg (World.drewN _) (Nat.add_assoc _ _ _))⟩); have q139 : 0 < (l0.length : Int) := of_decide_eq_true (by assumption); obtain ⟨ad139, e139, hx139_0, hx139_1, hx139_2, hx139_3⟩ := rp_T60 HR0.out q139; cases e139) | (go_at_call 153; (with_reducible refine (spec_l03Size.calls ((rd_T60 l0 0).f2) t140 _ A5.out).mono ?_); rintro e w' ⟨rfl, ⟨nd, rfl⟩⟩; (try first | exact ⟨rfl, _, World.drewN_drewN _ _ _⟩ | exact ⟨rfl, _, Eq.trans (World.drewN_drewN _ _ _) (congrArg (World.drewN _) (Nat.add_assoc _ _ _))⟩))); try go_wp2_with (first | (go_at_call 132; (with_reducible refine (spec_l03Fits.calls _ (l0).length l0 1000000 true _ ?side1 ?side2 A2.out).mono ?_); (case side1 => repeat (first | exact HR0.out | (with_reducible refine Kd.C_alloc ?_ _) | (with_reducible refine Kd.C_drewN ?_ _) | (with_reducible refine Kd.C_drew ?_))); (case side2 => exact Nat.le_refl _); rintro e w' ⟨rfl, ⟨nd, rfl⟩⟩; (try first | exact ⟨rfl, _, World.drewN_drewN _ _ _⟩ | exact ⟨rfl, _, Eq.trans (World.drewN_drewN _ _ _) (congrArg (World.drewN _) (Nat.add_assoc _ _ _))⟩); have q139 : 0 < (l0.length : Int) := of_decide_eq_true (by assumption); obtain ⟨ad139, e139, hx139_0, hx139_1, hx139_2, hx139_3⟩ := rp_T60 HR0.out q139; cases e139) | (go_at_call 153; (with_reducible refine (spec_l03Size.calls ((rd_T60 l0 0).f2) t140 _ A5.out).mono ?_); rintro e w' ⟨rfl, ⟨nd, rfl⟩⟩; (try first | exact ⟨rfl, _, World.drewN_drewN _ _ _⟩ | exact ⟨rfl, _, Eq.trans (World.drewN_drewN _ _ _) (congrArg (World.drewN _) (Nat.add_assoc _ _ _))⟩))))
   go_ret
   exact ⟨z2_2_, z2_4_⟩
  ·
   rw [if_neg c4] at H
   exact absurd H (by simp)
 ·
  replace c3 := Bool.eq_false_iff.mpr c3
  subst c3
  have H1 := H; rw [if_neg (show ¬ (false = true) by decide)] at H1
  clear H
  have H := H1
  clear H1
  obtain rfl := Option.some.inj H
  go_enter Try.func128, Try.ntmps128
  go_wp2_with (first | (go_at_call 132; (with_reducible refine (spec_l03Fits.calls _ (l0).length l0 1000000 false _ ?side1 ?side2 A2.out).mono ?_); (case side1 => repeat (first | exact HR0.out | (with_reducible refine Kd.C_alloc ?_ _) | (with_reducible refine Kd.C_drewN ?_ _) | (with_reducible refine Kd.C_drew ?_))); (case side2 => exact Nat.le_refl _); rintro e w' ⟨rfl, ⟨nd, rfl⟩⟩; (try first | exact ⟨rfl, _, World.drewN_drewN _ _ _⟩ | exact ⟨rfl, _, Eq.trans (World.drewN_drewN _ _ _) (congrArg (World.drewN _) (Nat.add_assoc _ _ _))⟩)))
  repeat (go_quiet (first | (go_at_call 132; (with_reducible refine (spec_l03Fits.calls _ (l0).length l0 1000000 false _ ?side1 ?side2 A2.out).mono ?_); (case side1 => repeat (first | exact HR0.out | (with_reducible refine Kd.C_alloc ?_ _) | (with_reducible refine Kd.C_drewN ?_ _) | (with_reducible refine Kd.C_drew ?_))); (case side2 => exact Nat.le_refl _); rintro e w' ⟨rfl, ⟨nd, rfl⟩⟩; (try first | exact ⟨rfl, _, World.drewN_drewN _ _ _⟩ | exact ⟨rfl, _, Eq.trans (World.drewN_drewN _ _ _) (congrArg (World.drewN _) (Nat.add_assoc _ _ _))⟩))); try go_wp2_with (first | (go_at_call 132; (with_reducible refine (spec_l03Fits.calls _ (l0).length l0 1000000 false _ ?side1 ?side2 A2.out).mono ?_); (case side1 => repeat (first | exact HR0.out | (with_reducible refine Kd.C_alloc ?_ _) | (with_reducible refine Kd.C_drewN ?_ _) | (with_reducible refine Kd.C_drew ?_))); (case side2 => exact Nat.le_refl _); rintro e w' ⟨rfl, ⟨nd, rfl⟩⟩; (try first | exact ⟨rfl, _, World.drewN_drewN _ _ _⟩ | exact ⟨rfl, _, Eq.trans (World.drewN_drewN _ _ _) (congrArg (World.drewN _) (Nat.add_assoc _ _ _))⟩))))
  go_ret
  exact ⟨z2_2_, z2_4_⟩
/-! ### spec_l03Common: function 143 -/
def spec_l03Common.l0 : Nat → Int → Int → Option (Int)
 | 0, _, _ => none
 | k + 1, x0, x1 => if x1 = 0 then (some x0) else (spec_l03Common.l0 k x1 (Int.tmod x0 x1))
def spec_l03Common.f (k : Nat) (a0 : Int) (a1 : Int) : Option (Int) := (spec_l03Size.f a0).bind fun t141 => ((spec_l03Size.f a1).bind fun t142 => (spec_l03Common.l0 k t141 t142))
theorem spec_l03Common.mono_l : ∀ k, (∀ y0 y1, LeO (spec_l03Common.l0 k y0 y1) (spec_l03Common.l0 (k + 1) y0 y1))
 | 0 => fun _ _ r h => by simp [spec_l03Common.l0] at h
 | k + 1 => by
  have ih0 := spec_l03Common.mono_l k
  ·
   intro y0 y1
   unfold spec_l03Common.l0
   repeat' first
   | (with_reducible exact ih0 _ _)
   | (with_reducible exact LeO.refl _)
   | (with_reducible exact LeO.none _)
   | (with_reducible refine LeO.ite ?_ ?_)
   | (with_reducible refine LeO.bind ?_ (fun _ => ?_))
   | exact ih0 _ _
   | exact LeO.none _
   | refine LeO.ite ?_ ?_
   | refine LeO.bind ?_ (fun _ => ?_)
theorem spec_l03Common.mono : ∀ a0 a1 k, LeO (spec_l03Common.f k a0 a1) (spec_l03Common.f (k + 1) a0 a1) := by
 intro a0 a1 k
 have ih0 := spec_l03Common.mono_l k
 unfold spec_l03Common.f
 repeat' first
   | (with_reducible exact ih0 _ _)
   | (with_reducible exact LeO.refl _)
   | (with_reducible exact LeO.none _)
   | (with_reducible refine LeO.ite ?_ ?_)
   | (with_reducible refine LeO.bind ?_ (fun _ => ?_))
   | exact ih0 _ _
   | exact LeO.none _
   | refine LeO.ite ?_ ?_
   | refine LeO.bind ?_ (fun _ => ?_)
set_option maxHeartbeats 8000000 in
set_option maxRecDepth 100000 in
theorem spec_l03Common.calls (k : Nat) (a0 : Int) (a1 : Int) (r : Int) (w : World) (h : spec_l03Common.f k a0 a1 = some r) :
  Calls Try.prog 143 #[.int .i64 a0, .int .i64 a1] w fun e w' => e = .returned (.int .i64 r) ∧ Drawn0 w w' := by
 have H : ((spec_l03Size.f a0).bind fun t141 => ((spec_l03Size.f a1).bind fun t142 => (spec_l03Common.l0 k t141 t142))) = some r := h
 clear h
 replace H := Option.bind_eq_some_iff.mp H
 obtain ⟨t141, A30, H⟩ := H
 try dsimp only at H
 have A3 := A_ A30
 clear A30
 replace H := Option.bind_eq_some_iff.mp H
 obtain ⟨t142, A40, H⟩ := H
 try dsimp only at H
 have A4 := A_ A40
 clear A40
 have H' := A_ H
 clear H
 go_enter Try.func143, Try.ntmps143
 go_wp2_with (first | ((with_reducible refine gate_callee (f := 153) rfl ?_); refine goesL_ (some 7) rfl rfl Try.func153 (by kernel_rfl) rfl #[.int .i64 a0] rfl z2_1_ ?_; (with_reducible refine (spec_l03Size.calls a0 t141 _ A3.out).mono ?_); rintro e w' ⟨rfl, ⟨nd, rfl⟩⟩; refine ⟨_, rfl, ?_⟩) | ((with_reducible refine gate_callee (f := 153) rfl ?_); refine goesL_ (some 9) rfl rfl Try.func153 (by kernel_rfl) rfl #[.int .i64 a1] rfl z2_1_ ?_; (with_reducible refine (spec_l03Size.calls a1 t142 _ A4.out).mono ?_); rintro e w' ⟨rfl, ⟨nd, rfl⟩⟩; refine ⟨_, rfl, ?_⟩))
 go_loopg [0, 1] k (fun kq v0 v1 w' => ∃ (x0_1 : Int) (x1_1 : Int), v0 = .int .i64 x0_1 ∧ v1 = .int .i64 x1_1 ∧ Aside0 (spec_l03Common.l0 kq x0_1 x1_1 = some r) ∧ Aside0 (kq ≤ k) ∧ Drawn0 w w')
 case atStart => exact ⟨(t141), (t142), z2_2_, z2_2_, H', ⟨Nat.le_refl _⟩, z2_4_⟩
 case round =>
  clear H'
  try clear c1
  try clear p2
  obtain ⟨x0_1, x1_1, rfl, rfl, HA, HK1, ⟨m1, rfl⟩⟩ := hrel
  cases gk with
  | zero => exact absurd HA.out (by simp [spec_l03Common.l0])
  | succ k1 =>
   have H := HA.out
   clear HA
   simp only [spec_l03Common.l0] at H
   by_cases c5 : x1_1 = 0
   ·
    rw [if_pos c5] at H
    have c5b0 := beq_iff_eq.mpr c5
    have c5b1 := bne_eq_false_iff_eq.mpr c5
    clear c5
    obtain rfl := Option.some.inj H
    go_wp2
    go_ret
    exact ⟨z2_2_, z2_4_⟩
   ·
    rw [if_neg c5] at H
    have c5b0 : (x1_1 == 0) = false := beq_eq_false_iff_ne.mpr c5
    have c5b1 : (x1_1 != 0) = true := bne_iff_ne.mpr c5
    have H' := A_ H
    clear H
    go_wp2
    go_roundg k1
    case measure => have := HK1.out; omega
    case rel => exact ⟨(x1_1), (Int.tmod x0_1 x1_1), z2_2_, z2_2_, H', ⟨(by have := HK1.out; omega)⟩, z2_4_⟩
/-! ### spec_l03Ratio: function 144 -/
def spec_l03Ratio.f (k : Nat) (l0 : List (S71)) : Option (Bool) := if 0 < (l0.length : Int) then ((spec_l00In.f ((rd_T71 l0 0).f1) 1 2147483648).bind fun t144 => (if t144 = true then ((spec_l00In.f ((rd_T71 l0 0).f0) (-2147483648) 2147483648).bind fun t145 => (if t145 = true then ((spec_l03Common.f k ((rd_T71 l0 0).f0) ((rd_T71 l0 0).f1)).bind fun t146 => (some (t146 == 1))) else (some false))) else (some false))) else (none)
theorem spec_l03Ratio.mono : ∀ a0 k, LeO (spec_l03Ratio.f k a0) (spec_l03Ratio.f (k + 1) a0) := by
 intro a0 k
 unfold spec_l03Ratio.f
 repeat' first
   | (with_reducible exact spec_l03Common.mono _ _ _)
   | (with_reducible exact LeO.refl _)
   | (with_reducible exact LeO.none _)
   | (with_reducible refine LeO.ite ?_ ?_)
   | (with_reducible refine LeO.bind ?_ (fun _ => ?_))
   | exact LeO.none _
   | refine LeO.ite ?_ ?_
   | refine LeO.bind ?_ (fun _ => ?_)
set_option maxHeartbeats 8000000 in
set_option maxRecDepth 100000 in
theorem spec_l03Ratio.calls (k : Nat) (A0 : Option Addr) (c0 : Nat) (l0 : List (S71)) (r : Bool) (w : World) (hr0 : Kd.C k71 w A0 l0.length l0) (hc0 : l0.length ≤ c0) (h : spec_l03Ratio.f k l0 = some r) :
  Calls Try.prog 144 #[.pointer A0] w fun e w' => e = .returned (.bool r) ∧ Drawn0 w w' := by
 have HR0 := A_ hr0
 have HC0 := A_ hc0
 clear hr0 hc0
 have H : (if 0 < (l0.length : Int) then ((spec_l00In.f ((rd_T71 l0 0).f1) 1 2147483648).bind fun t144 => (if t144 = true then ((spec_l00In.f ((rd_T71 l0 0).f0) (-2147483648) 2147483648).bind fun t145 => (if t145 = true then ((spec_l03Common.f k ((rd_T71 l0 0).f0) ((rd_T71 l0 0).f1)).bind fun t146 => (some (t146 == 1))) else (some false))) else (some false))) else (none)) = some r := h
 clear h
 by_cases c2 : 0 < (l0.length : Int)
 ·
  rw [if_pos c2] at H
  have c2b0 := decide_eq_true c2
  have c2b1 : decide (0 < l0.length) = true := decide_eq_true (by omega)
  clear c2
  replace H := Option.bind_eq_some_iff.mp H
  obtain ⟨t144, A30, H⟩ := H
  try dsimp only at H
  have A3 := A_ A30
  clear A30
  by_cases c4 : t144 = true
  ·
   subst c4
   have H1 := H; rw [if_pos rfl] at H1
   clear H
   have H := H1
   clear H1
   replace H := Option.bind_eq_some_iff.mp H
   obtain ⟨t145, A50, H⟩ := H
   try dsimp only at H
   have A5 := A_ A50
   clear A50
   by_cases c6 : t145 = true
   ·
    subst c6
    have H1 := H; rw [if_pos rfl] at H1
    clear H
    have H := H1
    clear H1
    replace H := Option.bind_eq_some_iff.mp H
    obtain ⟨t146, A70, H⟩ := H
    try dsimp only at H
    have A7 := A_ A70
    clear A70
    obtain rfl := Option.some.inj H
    have q143 : 0 < (l0.length : Int) := of_decide_eq_true (by assumption)
    obtain ⟨ad143, e143, hx143_0, hx143_1⟩ := rp_T71 HR0.out q143
    cases e143
    go_enter Try.func144, Try.ntmps144
    go_wp2_with (first | (go_at_call 109; (with_reducible refine (spec_l00In.calls ((rd_T71 l0 0).f1) 1 2147483648 true _ A3.out).mono ?_); rintro e w' ⟨rfl, ⟨nd, rfl⟩⟩; (try first | exact ⟨rfl, _, World.drewN_drewN _ _ _⟩ | exact ⟨rfl, _, Eq.trans (World.drewN_drewN _ _ _) (congrArg (World.drewN _) (Nat.add_assoc _ _ _))⟩)) | (go_at_call 109; (with_reducible refine (spec_l00In.calls ((rd_T71 l0 0).f0) (-2147483648) 2147483648 true _ A5.out).mono ?_); rintro e w' ⟨rfl, ⟨nd, rfl⟩⟩; (try first | exact ⟨rfl, _, World.drewN_drewN _ _ _⟩ | exact ⟨rfl, _, Eq.trans (World.drewN_drewN _ _ _) (congrArg (World.drewN _) (Nat.add_assoc _ _ _))⟩)) | (go_at_call 143; (with_reducible refine (spec_l03Common.calls k ((rd_T71 l0 0).f0) ((rd_T71 l0 0).f1) t146 _ A7.out).mono ?_); rintro e w' ⟨rfl, ⟨nd, rfl⟩⟩; (try first | exact ⟨rfl, _, World.drewN_drewN _ _ _⟩ | exact ⟨rfl, _, Eq.trans (World.drewN_drewN _ _ _) (congrArg (World.drewN _) (Nat.add_assoc _ _ _))⟩)))
    repeat (go_quiet (first | (go_at_call 109; (with_reducible refine (spec_l00In.calls ((rd_T71 l0 0).f1) 1 2147483648 true _ A3.out).mono ?_); rintro e w' ⟨rfl, ⟨nd, rfl⟩⟩; (try first | exact ⟨rfl, _, World.drewN_drewN _ _ _⟩ | exact ⟨rfl, _, Eq.trans (World.drewN_drewN _ _ _) (congrArg (World.drewN _) (Nat.add_assoc _ _ _))⟩)) | (go_at_call 109; (with_reducible refine (spec_l00In.calls ((rd_T71 l0 0).f0) (-2147483648) 2147483648 true _ A5.out).mono ?_); rintro e w' ⟨rfl, ⟨nd, rfl⟩⟩; (try first | exact ⟨rfl, _, World.drewN_drewN _ _ _⟩ | exact ⟨rfl, _, Eq.trans (World.drewN_drewN _ _ _) (congrArg (World.drewN _) (Nat.add_assoc _ _ _))⟩)) | (go_at_call 143; (with_reducible refine (spec_l03Common.calls k ((rd_T71 l0 0).f0) ((rd_T71 l0 0).f1) t146 _ A7.out).mono ?_); rintro e w' ⟨rfl, ⟨nd, rfl⟩⟩; (try first | exact ⟨rfl, _, World.drewN_drewN _ _ _⟩ | exact ⟨rfl, _, Eq.trans (World.drewN_drewN _ _ _) (congrArg (World.drewN _) (Nat.add_assoc _ _ _))⟩))); try go_wp2_with (first | (go_at_call 109; (with_reducible refine (spec_l00In.calls ((rd_T71 l0 0).f1) 1 2147483648 true _ A3.out).mono ?_); rintro e w' ⟨rfl, ⟨nd, rfl⟩⟩; (try first | exact ⟨rfl, _, World.drewN_drewN _ _ _⟩ | exact ⟨rfl, _, Eq.trans (World.drewN_drewN _ _ _) (congrArg (World.drewN _) (Nat.add_assoc _ _ _))⟩)) | (go_at_call 109; (with_reducible refine (spec_l00In.calls ((rd_T71 l0 0).f0) (-2147483648) 2147483648 true _ A5.out).mono ?_); rintro e w' ⟨rfl, ⟨nd, rfl⟩⟩; (try first | exact ⟨rfl, _, World.drewN_drewN _ _ _⟩ | exact ⟨rfl, _, Eq.trans (World.drewN_drewN _ _ _) (congrArg (World.drewN _) (Nat.add_assoc _ _ _))⟩)) | (go_at_call 143; (with_reducible refine (spec_l03Common.calls k ((rd_T71 l0 0).f0) ((rd_T71 l0 0).f1) t146 _ A7.out).mono ?_); rintro e w' ⟨rfl, ⟨nd, rfl⟩⟩; (try first | exact ⟨rfl, _, World.drewN_drewN _ _ _⟩ | exact ⟨rfl, _, Eq.trans (World.drewN_drewN _ _ _) (congrArg (World.drewN _) (Nat.add_assoc _ _ _))⟩))))
    go_ret
    exact ⟨z2_2_, z2_4_⟩
   ·
    replace c6 := Bool.eq_false_iff.mpr c6
    subst c6
    have H1 := H; rw [if_neg (show ¬ (false = true) by decide)] at H1
    clear H
    have H := H1
    clear H1
    obtain rfl := Option.some.inj H
    have q143 : 0 < (l0.length : Int) := of_decide_eq_true (by assumption)
    obtain ⟨ad143, e143, hx143_0, hx143_1⟩ := rp_T71 HR0.out q143
    cases e143
    go_enter Try.func144, Try.ntmps144
    go_wp2_with (first | (go_at_call 109; (with_reducible refine (spec_l00In.calls ((rd_T71 l0 0).f1) 1 2147483648 true _ A3.out).mono ?_); rintro e w' ⟨rfl, ⟨nd, rfl⟩⟩; (try first | exact ⟨rfl, _, World.drewN_drewN _ _ _⟩ | exact ⟨rfl, _, Eq.trans (World.drewN_drewN _ _ _) (congrArg (World.drewN _) (Nat.add_assoc _ _ _))⟩)) | (go_at_call 109; (with_reducible refine (spec_l00In.calls ((rd_T71 l0 0).f0) (-2147483648) 2147483648 false _ A5.out).mono ?_); rintro e w' ⟨rfl, ⟨nd, rfl⟩⟩; (try first | exact ⟨rfl, _, World.drewN_drewN _ _ _⟩ | exact ⟨rfl, _, Eq.trans (World.drewN_drewN _ _ _) (congrArg (World.drewN _) (Nat.add_assoc _ _ _))⟩)))
    repeat (go_quiet (first | (go_at_call 109; (with_reducible refine (spec_l00In.calls ((rd_T71 l0 0).f1) 1 2147483648 true _ A3.out).mono ?_); rintro e w' ⟨rfl, ⟨nd, rfl⟩⟩; (try first | exact ⟨rfl, _, World.drewN_drewN _ _ _⟩ | exact ⟨rfl, _, Eq.trans (World.drewN_drewN _ _ _) (congrArg (World.drewN _) (Nat.add_assoc _ _ _))⟩)) | (go_at_call 109; (with_reducible refine (spec_l00In.calls ((rd_T71 l0 0).f0) (-2147483648) 2147483648 false _ A5.out).mono ?_); rintro e w' ⟨rfl, ⟨nd, rfl⟩⟩; (try first | exact ⟨rfl, _, World.drewN_drewN _ _ _⟩ | exact ⟨rfl, _, Eq.trans (World.drewN_drewN _ _ _) (congrArg (World.drewN _) (Nat.add_assoc _ _ _))⟩))); try go_wp2_with (first | (go_at_call 109; (with_reducible refine (spec_l00In.calls ((rd_T71 l0 0).f1) 1 2147483648 true _ A3.out).mono ?_); rintro e w' ⟨rfl, ⟨nd, rfl⟩⟩; (try first | exact ⟨rfl, _, World.drewN_drewN _ _ _⟩ | exact ⟨rfl, _, Eq.trans (World.drewN_drewN _ _ _) (congrArg (World.drewN _) (Nat.add_assoc _ _ _))⟩)) | (go_at_call 109; (with_reducible refine (spec_l00In.calls ((rd_T71 l0 0).f0) (-2147483648) 2147483648 false _ A5.out).mono ?_); rintro e w' ⟨rfl, ⟨nd, rfl⟩⟩; (try first | exact ⟨rfl, _, World.drewN_drewN _ _ _⟩ | exact ⟨rfl, _, Eq.trans (World.drewN_drewN _ _ _) (congrArg (World.drewN _) (Nat.add_assoc _ _ _))⟩))))
    go_ret
    exact ⟨z2_2_, z2_4_⟩
  ·
   replace c4 := Bool.eq_false_iff.mpr c4
   subst c4
   have H1 := H; rw [if_neg (show ¬ (false = true) by decide)] at H1
   clear H
   have H := H1
   clear H1
   obtain rfl := Option.some.inj H
   have q143 : 0 < (l0.length : Int) := of_decide_eq_true (by assumption)
   obtain ⟨ad143, e143, hx143_0, hx143_1⟩ := rp_T71 HR0.out q143
   cases e143
   go_enter Try.func144, Try.ntmps144
   go_wp2_with (first | (go_at_call 109; (with_reducible refine (spec_l00In.calls ((rd_T71 l0 0).f1) 1 2147483648 false _ A3.out).mono ?_); rintro e w' ⟨rfl, ⟨nd, rfl⟩⟩; (try first | exact ⟨rfl, _, World.drewN_drewN _ _ _⟩ | exact ⟨rfl, _, Eq.trans (World.drewN_drewN _ _ _) (congrArg (World.drewN _) (Nat.add_assoc _ _ _))⟩)))
   repeat (go_quiet (first | (go_at_call 109; (with_reducible refine (spec_l00In.calls ((rd_T71 l0 0).f1) 1 2147483648 false _ A3.out).mono ?_); rintro e w' ⟨rfl, ⟨nd, rfl⟩⟩; (try first | exact ⟨rfl, _, World.drewN_drewN _ _ _⟩ | exact ⟨rfl, _, Eq.trans (World.drewN_drewN _ _ _) (congrArg (World.drewN _) (Nat.add_assoc _ _ _))⟩))); try go_wp2_with (first | (go_at_call 109; (with_reducible refine (spec_l00In.calls ((rd_T71 l0 0).f1) 1 2147483648 false _ A3.out).mono ?_); rintro e w' ⟨rfl, ⟨nd, rfl⟩⟩; (try first | exact ⟨rfl, _, World.drewN_drewN _ _ _⟩ | exact ⟨rfl, _, Eq.trans (World.drewN_drewN _ _ _) (congrArg (World.drewN _) (Nat.add_assoc _ _ _))⟩))))
   go_ret
   exact ⟨z2_2_, z2_4_⟩
 ·
  rw [if_neg c2] at H
  exact absurd H (by simp)
/-! ### spec_l03Make: function 106 -/
def spec_l03Make.f (k : Nat) (a0 : Int) (a1 : Int) : Option (Int × Int × Int) := (spec_l03Common.f k a0 a1).bind fun t148 => (if a1 < 0 then (if (wrap64 (-t148)) = 0 then (none) else ((spec_l03Ratio.f k [(⟨wrap64 (Int.tdiv a0 (wrap64 (-t148))), wrap64 (Int.tdiv a1 (wrap64 (-t148)))⟩ : S71)]).bind fun t151 => (if t151 = true then (some (wrap64 (Int.tdiv a0 (wrap64 (-t148))), wrap64 (Int.tdiv a1 (wrap64 (-t148))), 0)) else (some (0, 0, 3))))) else (if t148 = 0 then (none) else ((spec_l03Ratio.f k [(⟨wrap64 (Int.tdiv a0 t148), wrap64 (Int.tdiv a1 t148)⟩ : S71)]).bind fun t154 => (if t154 = true then (some (wrap64 (Int.tdiv a0 t148), wrap64 (Int.tdiv a1 t148), 0)) else (some (0, 0, 3))))))
theorem spec_l03Make.mono : ∀ a0 a1 k, LeO (spec_l03Make.f k a0 a1) (spec_l03Make.f (k + 1) a0 a1) := by
 intro a0 a1 k
 unfold spec_l03Make.f
 repeat' first
   | (with_reducible exact spec_l03Common.mono _ _ _)
   | (with_reducible exact spec_l03Ratio.mono _ _)
   | (with_reducible exact LeO.refl _)
   | (with_reducible exact LeO.none _)
   | (with_reducible refine LeO.ite ?_ ?_)
   | (with_reducible refine LeO.bind ?_ (fun _ => ?_))
   | exact LeO.none _
   | refine LeO.ite ?_ ?_
   | refine LeO.bind ?_ (fun _ => ?_)
def spec_l03Make.T4 : Bool × List (List Nat × List Nat) := (true, [([], []), ([], []), ([0, 1], [0, 1]), ([], []), ([], []), ([3, 4], [3, 4]), ([2, 5], [2, 5]), ([], []), ([7, 6, 0, 1, 2, 3, 4, 5, 6, 7], [6, 7])])
def spec_l03Make.B4 : List Nat := [0, 0, 3, 0, 0, 24, 63, 0, 255]
theorem spec_l03Make.tab4 : rtab .any (opsOf Try.f106 4) = spec_l03Make.T4 := by kernel_rfl
theorem spec_l03Make.bits4 : waitsOk spec_l03Make.T4.2 spec_l03Make.B4 = true := by kernel_rfl
set_option maxHeartbeats 8000000 in
set_option maxRecDepth 100000 in
theorem spec_l03Make.calls (k : Nat) (a0 : Int) (a1 : Int) (r1 : Int) (r2 : Int) (r3 : Int) (w : World) (h : spec_l03Make.f k a0 a1 = some (r1, r2, r3)) :
  Calls Try.prog 106 #[.int .i64 a0, .int .i64 a1] w fun e w' => e = .returned (.tuple #[.agg #[.int .i64 r1, .int .i64 r2], .int .i64 r3]) ∧ Below w.heap.size w w' := by
 have hu71 := Try.underlying71
 have HB := A_ (Below.refl w.heap.size w)
 have H : ((spec_l03Common.f k a0 a1).bind fun t148 => (if a1 < 0 then (if (wrap64 (-t148)) = 0 then (none) else ((spec_l03Ratio.f k [(⟨wrap64 (Int.tdiv a0 (wrap64 (-t148))), wrap64 (Int.tdiv a1 (wrap64 (-t148)))⟩ : S71)]).bind fun t151 => (if t151 = true then (some (wrap64 (Int.tdiv a0 (wrap64 (-t148))), wrap64 (Int.tdiv a1 (wrap64 (-t148))), 0)) else (some (0, 0, 3))))) else (if t148 = 0 then (none) else ((spec_l03Ratio.f k [(⟨wrap64 (Int.tdiv a0 t148), wrap64 (Int.tdiv a1 t148)⟩ : S71)]).bind fun t154 => (if t154 = true then (some (wrap64 (Int.tdiv a0 t148), wrap64 (Int.tdiv a1 t148), 0)) else (some (0, 0, 3))))))) = some (r1, r2, r3) := h
 clear h
 replace H := Option.bind_eq_some_iff.mp H
 obtain ⟨t148, A30, H⟩ := H
 try dsimp only at H
 have A3 := A_ A30
 clear A30
 by_cases c4 : a1 < 0
 ·
  rw [if_pos c4] at H
  have c4b0 := decide_eq_true c4
  clear c4
  by_cases c5 : (wrap64 (-t148)) = 0
  ·
   rw [if_pos c5] at H
   exact absurd H (by simp)
  ·
   rw [if_neg c5] at H
   have c5b0 : ((wrap64 (-t148)) == 0) = false := beq_eq_false_iff_ne.mpr c5
   have c5b1 : ((wrap64 (-t148)) != 0) = true := bne_iff_ne.mpr c5
   replace H := Option.bind_eq_some_iff.mp H
   obtain ⟨t151, A60, H⟩ := H
   try dsimp only at H
   have A6 := A_ A60
   clear A60
   have HZ_ := A_ H
   clear H
   go_enter Try.func106, Try.ntmps106
   try go_wp2_with (first | ((with_reducible refine gate_dst (N := 4) rfl ?_); refine box_event ?hg (N := 4) ?hd (cs := #[.int .i64 0, .int .i64 0]) (t := 71) ?hr ?_; (case hd => rfl); (case hg => rfl); (case hr => first | (go_simp; done) | (go_simp; rfl)); intro gb147 hg w8 hbox hb; have _ := A_ (below_step z2_6_ hb); have _ := A_ (hbox); have _ := A_ ((by rw [hg]; exact (below_size z2_6_) : w.heap.size ≤ gb147)); have _ := A_ ((by rw [hg]; exact (below_size z2_6_) : w.heap.size ≤ gb147)); clear HB; rename_i HB BK147 GW147 GE147; clear hb hbox hg) | ((with_reducible refine gate_callee (f := 143) rfl ?_); refine goesL_ (some 10) rfl rfl Try.func143 (by kernel_rfl) rfl #[.int .i64 a0, .int .i64 a1] rfl z2_1_ ?_; (with_reducible refine (spec_l03Common.calls k a0 a1 t148 _ A3.out).mono ?_); rintro e w' ⟨rfl, ⟨nd, rfl⟩⟩; refine ⟨_, rfl, ?_⟩; (try (rw [drewN_self w8]; generalize hq_ : World.drewN w8 _ = w8; have n0_ : Aside0 (w8.heap[gb147]? = some (.cells #[.int .i64 0, .int .i64 0] 71 (0, 0))) := ⟨(by rw [← hq_]; exact z2_5_)⟩; have n1_ : Aside0 (Below w.heap.size w w8) := ⟨(by rw [← hq_]; exact z2_3_)⟩; clear BK147 HB hq_; have BK147 := n0_; have HB := n1_; clear n0_ n1_))))
   have _ := A_ (blk_drew BK147.out)
   have _ := A_ (below_drew1 HB.out)
   clear BK147 HB
   rename_i BK147 HB
   refine start_ (n := 9) (S := fun w' => True) (ds := []) #[false, false, false, false, false, false, false, false, false] (by kernel_rfl) rfl rfl trivial (fun hHeld => ?_); refine with_tabW spec_l03Make.tab4 spec_l03Make.bits4 (fun HT_ HW_ => ?_)
   generalize w8.drew = w9 at BK147 HB hHeld ⊢
   refine pure_ (i := 0) (N := some 15) (v := ?_) (a' := ?_) #[true, false, false, false, false, false, false, false, false] rfl rfl (any_of HT_.out (by kernel_rfl)) (fun _ _ _ h => h) (Or.inl ⟨by rfl, ?_⟩) ?_ ?_
   rotate_left
   ·
    intro w'
    go_simp
    with_reducible rfl
   rotate_left
   ·
    simp only [Act.put, sA_, sB_, sC_, i64_w, i32_w]
    rfl
   refine pure_ (i := 1) (N := some 16) (v := ?_) (a' := ?_) #[true, true, false, false, false, false, false, false, false] rfl rfl (any_of HT_.out (by kernel_rfl)) (fun _ _ _ h => h) (Or.inl ⟨by rfl, ?_⟩) ?_ ?_
   rotate_left
   ·
    intro w'
    go_simp
    with_reducible rfl
   rotate_left
   ·
    simp only [Act.put, sA_, sB_, sC_, i64_w, i32_w]
    rfl
   refine pure_ (i := 2) (N := some 17) (v := ?_) (a' := ?_) #[true, true, true, false, false, false, false, false, false] rfl rfl (any_of HT_.out (by kernel_rfl)) (fun _ _ _ h => h) (Or.inl ⟨by rfl, ?_⟩) ?_ ?_
   rotate_left
   ·
    intro w'
    go_simp
    with_reducible rfl
   rotate_left
   ·
    simp only [Act.put, sA_, sB_, sC_, i64_w, i32_w]
    rfl
   refine pure_ (i := 3) (N := some 18) (v := ?_) (a' := ?_) #[true, true, true, true, false, false, false, false, false] rfl rfl (any_of HT_.out (by kernel_rfl)) (fun _ _ _ h => h) (Or.inl ⟨by rfl, ?_⟩) ?_ ?_
   rotate_left
   ·
    intro w'
    go_simp
    with_reducible rfl
   rotate_left
   ·
    simp only [Act.put, sA_, sB_, sC_, i64_w, i32_w]
    rfl
   refine pure_ (i := 4) (N := some 19) (v := ?_) (a' := ?_) #[true, true, true, true, true, false, false, false, false] rfl rfl (any_of HT_.out (by kernel_rfl)) (fun _ _ _ h => h) (Or.inl ⟨by rfl, ?_⟩) ?_ ?_
   rotate_left
   ·
    intro w'
    go_simp
    with_reducible rfl
   rotate_left
   ·
    simp only [Act.put, sA_, sB_, sC_, i64_w, i32_w]
    rfl
   refine pure_ (i := 5) (N := some 20) (v := ?_) (a' := ?_) #[true, true, true, true, true, true, false, false, false] rfl rfl (any_of HT_.out (by kernel_rfl)) (fun _ _ _ h => h) (Or.inl ⟨by rfl, ?_⟩) ?_ ?_
   rotate_left
   ·
    intro w'
    go_simp
    with_reducible rfl
   rotate_left
   ·
    simp only [Act.put, sA_, sB_, sC_, i64_w, i32_w]
    rfl
   refine pure_ (i := 6) (N := some 21) (v := ?_) (a' := ?_) #[true, true, true, true, true, true, true, false, false] rfl rfl (any_of HT_.out (by kernel_rfl)) (fun _ _ _ h => h) (Or.inl ⟨by rfl, ?_⟩) ?_ ?_
   rotate_left
   ·
    intro w'
    go_simp
    with_reducible rfl
   rotate_left
   ·
    simp only [Act.put, sA_, sB_, sC_, i64_w, i32_w]
    rfl
   refine one_ (i := 7) (N := some 7) #[true, true, true, true, true, true, true, true, false] rfl rfl (one_of HT_.out (by kernel_rfl)) (by decide) (fun K hK => ?_)
   refine box_step ?hg (N := 7) ?hd (cs := #[.int .i64 0, .int .i64 0]) (t := 71) ?hr ?_; (case hd => rfl); (case hg => rfl); (case hr => first | (go_simp; done) | (go_simp; rfl))
   intro gb149 hg w10 hbox hb
   have _ := A_ (blk_below (g := gb147) (o := .cells #[.int .i64 0, .int .i64 0] 71 (0, 0)) z2_5_ hb)
   have _ := A_ (below_step z2_3_ hb)
   have _ := A_ (hbox)
   have _ := A_ ((by rw [hg]; exact (below_size z2_3_) : w.heap.size ≤ gb149))
   have _ := A_ ((by rw [hg]; exact (below_size z2_3_) : w.heap.size ≤ gb149))
   have _ := A_ ((by rw [hg]; exact Nat.ne_of_lt (blk_lt (g := gb147) (o := .cells #[.int .i64 0, .int .i64 0] 71 (0, 0)) z2_5_) : gb147 ≠ gb149))
   have _ := A_ ((by rw [hg]; exact Nat.ne_of_gt (blk_lt (g := gb147) (o := .cells #[.int .i64 0, .int .i64 0] 71 (0, 0)) z2_5_) : gb149 ≠ gb147))
   clear BK147 HB
   rename_i BK147 HB BK149 GW149 GE149 NB147_149 NB149_147
   clear hb hbox hg
   refine hK.out _ _ trivial (fun hHeld => ?_)
   clear hK K
   refine norm_ (a' := ?_) ?_ ?_
   rotate_left
   ·
    show Act.put _ (some 7) _ = _
    simp only [Act.put, sA_, sB_, sC_, i64_w, i32_w]
    rfl
   refine one_ (i := 8) (N := none) #[true, true, true, true, true, true, true, true, true] rfl rfl (one_of HT_.out (by kernel_rfl)) (by decide) (fun K hK => ?_)
   have hs11 : w10.cell? ⟨gb149, 0, none⟩ = some (.int .i64 0) := (blk_cell BK149.out 0).trans rfl
   have hfs11 := blk_frozen BK149.out 0
   have hns11_0 := NB147_149.out
   have hms11_0 := NB149_147.out
   have hs12 : w10.cell? ⟨gb149, 1, none⟩ = some (.int .i64 0) := (blk_cell BK149.out 1).trans rfl
   have hfs12 := blk_frozen BK149.out 1
   have hns12_0 := NB147_149.out
   have hms12_0 := NB149_147.out
   refine skip_ (w1 := ?_) (by rfl) rfl ?_ ?_
   rotate_left
   ·
    go_simp
    rfl
   refine hK.out _ _ trivial (fun hHeld => ?_)
   clear hK K
   refine done_ (done_of HT_.out (by kernel_rfl)) ?_
   have H := HZ_.out
   clear HZ_
   by_cases c7 : t151 = true
   ·
    subst c7
    have H1 := H; rw [if_pos rfl] at H1
    clear H
    have H := H1
    clear H1
    simp only [Option.some.injEq, Prod.mk.injEq] at H
    obtain ⟨rfl, rfl, rfl⟩ := H
    try go_wp2_with (first | ((with_reducible refine gate_callee (f := 144) rfl ?_); refine goesL_ (some 22) rfl rfl Try.func144 (by kernel_rfl) rfl #[.pointer (some ⟨gb149, 0, none⟩)] rfl z2_1_ ?_; (with_reducible refine (spec_l03Ratio.calls k _ ([(⟨wrap64 (Int.tdiv a0 (wrap64 (-t148))), wrap64 (Int.tdiv a1 (wrap64 (-t148)))⟩ : S71)]).length [(⟨wrap64 (Int.tdiv a0 (wrap64 (-t148))), wrap64 (Int.tdiv a1 (wrap64 (-t148)))⟩ : S71)] true _ ?side1 ?side2 A6.out).mono ?_); (case side1 => refine Kd.C_block k71 (g := gb149) (cs := #[.int .i64 (wrap64 (Int.tdiv a0 (wrap64 (-t148)))), .int .i64 (wrap64 (Int.tdiv a1 (wrap64 (-t148))))]) (T := 71) (by (with_reducible repeat (first | refine blk_drewN ?_ _ | refine blk_drew ?_ | refine blk_alloc ?_ _)); refine blk_put (cs := #[.int .i64 (wrap64 (Int.tdiv a0 (wrap64 (-t148)))), .int .i64 0]) ?_ 1 _ rfl; (with_reducible repeat (first | refine blk_drewN ?_ _ | refine blk_drew ?_ | refine blk_alloc ?_ _)); refine blk_put (cs := #[.int .i64 0, .int .i64 0]) ?_ 0 _ rfl; (with_reducible repeat (first | refine blk_drewN ?_ _ | refine blk_drew ?_ | refine blk_alloc ?_ _)); exact BK149.out) (show Kd.K k71 _ (⟨wrap64 (Int.tdiv a0 (wrap64 (-t148))), wrap64 (Int.tdiv a1 (wrap64 (-t148)))⟩ : S71) [.int .i64 (wrap64 (Int.tdiv a0 (wrap64 (-t148)))), .int .i64 (wrap64 (Int.tdiv a1 (wrap64 (-t148))))] from k71_mk _ _) (by decide)); (case side2 => exact Nat.le_refl _); rintro e w' ⟨rfl, ⟨nd, rfl⟩⟩; refine ⟨_, rfl, ?_⟩; have hnb13 := NB149_147.out; have hnc13 := NB147_149.out; obtain ⟨hcz14_0, hcz14_1⟩ := bc2 BK149.out; obtain ⟨hfz14_0, hfz14_1⟩ := bf2 BK149.out; obtain ⟨hcz15_0, hcz15_1⟩ := bc2 BK147.out; obtain ⟨hfz15_0, hfz15_1⟩ := bf2 BK147.out))
    refine bodyPost_ret (results_ct rfl _ _ gb147 71 #[.int .i64 (wrap64 (Int.tdiv a0 (wrap64 (-t148)))), .int .i64 (wrap64 (Int.tdiv a1 (wrap64 (-t148))))] (0, 0) _ rfl (by (with_reducible repeat (first | refine blk_drewN ?_ _ | refine blk_drew ?_ | refine blk_alloc ?_ _)); refine blk_put (cs := #[.int .i64 (wrap64 (Int.tdiv a0 (wrap64 (-t148)))), .int .i64 0]) ?_ 1 _ rfl; (with_reducible repeat (first | refine blk_drewN ?_ _ | refine blk_drew ?_ | refine blk_alloc ?_ _)); refine blk_put (cs := #[.int .i64 0, .int .i64 0]) ?_ 0 _ rfl; (with_reducible repeat (first | refine blk_drewN ?_ _ | refine blk_drew ?_ | refine blk_alloc ?_ _)); refine blk_far ?_ NB147_149.out _; (with_reducible repeat (first | refine blk_drewN ?_ _ | refine blk_drew ?_ | refine blk_alloc ?_ _)); refine blk_far ?_ NB147_149.out _; (with_reducible repeat (first | refine blk_drewN ?_ _ | refine blk_drew ?_ | refine blk_alloc ?_ _)); exact BK147.out) Try.underlying71 rfl (by kernel_rfl)) rfl ?_
    exact ⟨z2_7_, z2_9_⟩
   ·
    replace c7 := Bool.eq_false_iff.mpr c7
    subst c7
    have H1 := H; rw [if_neg (show ¬ (false = true) by decide)] at H1
    clear H
    have H := H1
    clear H1
    simp only [Option.some.injEq, Prod.mk.injEq] at H
    obtain ⟨rfl, rfl, rfl⟩ := H
    try go_wp2_with (first | ((with_reducible refine gate_callee (f := 144) rfl ?_); refine goesL_ (some 22) rfl rfl Try.func144 (by kernel_rfl) rfl #[.pointer (some ⟨gb149, 0, none⟩)] rfl z2_1_ ?_; (with_reducible refine (spec_l03Ratio.calls k _ ([(⟨wrap64 (Int.tdiv a0 (wrap64 (-t148))), wrap64 (Int.tdiv a1 (wrap64 (-t148)))⟩ : S71)]).length [(⟨wrap64 (Int.tdiv a0 (wrap64 (-t148))), wrap64 (Int.tdiv a1 (wrap64 (-t148)))⟩ : S71)] false _ ?side1 ?side2 A6.out).mono ?_); (case side1 => refine Kd.C_block k71 (g := gb149) (cs := #[.int .i64 (wrap64 (Int.tdiv a0 (wrap64 (-t148)))), .int .i64 (wrap64 (Int.tdiv a1 (wrap64 (-t148))))]) (T := 71) (by (with_reducible repeat (first | refine blk_drewN ?_ _ | refine blk_drew ?_ | refine blk_alloc ?_ _)); refine blk_put (cs := #[.int .i64 (wrap64 (Int.tdiv a0 (wrap64 (-t148)))), .int .i64 0]) ?_ 1 _ rfl; (with_reducible repeat (first | refine blk_drewN ?_ _ | refine blk_drew ?_ | refine blk_alloc ?_ _)); refine blk_put (cs := #[.int .i64 0, .int .i64 0]) ?_ 0 _ rfl; (with_reducible repeat (first | refine blk_drewN ?_ _ | refine blk_drew ?_ | refine blk_alloc ?_ _)); exact BK149.out) (show Kd.K k71 _ (⟨wrap64 (Int.tdiv a0 (wrap64 (-t148))), wrap64 (Int.tdiv a1 (wrap64 (-t148)))⟩ : S71) [.int .i64 (wrap64 (Int.tdiv a0 (wrap64 (-t148)))), .int .i64 (wrap64 (Int.tdiv a1 (wrap64 (-t148))))] from k71_mk _ _) (by decide)); (case side2 => exact Nat.le_refl _); rintro e w' ⟨rfl, ⟨nd, rfl⟩⟩; refine ⟨_, rfl, ?_⟩; have hnb21 := NB147_149.out; have hnc21 := NB149_147.out; obtain ⟨hcz22_0, hcz22_1⟩ := bc2 BK147.out; obtain ⟨hfz22_0, hfz22_1⟩ := bf2 BK147.out))
    refine bodyPost_ret (results_ct rfl _ _ gb147 71 #[.int .i64 0, .int .i64 0] (0, 0) _ rfl (by (with_reducible repeat (first | refine blk_drewN ?_ _ | refine blk_drew ?_ | refine blk_alloc ?_ _)); refine blk_put (cs := #[.int .i64 0, .int .i64 0]) ?_ 1 _ rfl; (with_reducible repeat (first | refine blk_drewN ?_ _ | refine blk_drew ?_ | refine blk_alloc ?_ _)); refine blk_put (cs := #[.int .i64 0, .int .i64 0]) ?_ 0 _ rfl; (with_reducible repeat (first | refine blk_drewN ?_ _ | refine blk_drew ?_ | refine blk_alloc ?_ _)); refine blk_far ?_ NB147_149.out _; (with_reducible repeat (first | refine blk_drewN ?_ _ | refine blk_drew ?_ | refine blk_alloc ?_ _)); refine blk_far ?_ NB147_149.out _; (with_reducible repeat (first | refine blk_drewN ?_ _ | refine blk_drew ?_ | refine blk_alloc ?_ _)); exact BK147.out) Try.underlying71 rfl (by kernel_rfl)) rfl ?_
    exact ⟨z2_7_, z2_9_⟩
 ·
  rw [if_neg c4] at H
  have c4b0 := decide_eq_false c4
  clear c4
  by_cases c23 : t148 = 0
  ·
   rw [if_pos c23] at H
   exact absurd H (by simp)
  ·
   rw [if_neg c23] at H
   have c23b0 : (t148 == 0) = false := beq_eq_false_iff_ne.mpr c23
   have c23b1 : (t148 != 0) = true := bne_iff_ne.mpr c23
   replace H := Option.bind_eq_some_iff.mp H
   obtain ⟨t154, A240, H⟩ := H
   try dsimp only at H
   have A24 := A_ A240
   clear A240
   have HZ_ := A_ H
   clear H
   go_enter Try.func106, Try.ntmps106
   try go_wp2_with (first | ((with_reducible refine gate_dst (N := 4) rfl ?_); refine box_event ?hg (N := 4) ?hd (cs := #[.int .i64 0, .int .i64 0]) (t := 71) ?hr ?_; (case hd => rfl); (case hg => rfl); (case hr => first | (go_simp; done) | (go_simp; rfl)); intro gb147 hg w26 hbox hb; have _ := A_ (below_step z2_6_ hb); have _ := A_ (hbox); have _ := A_ ((by rw [hg]; exact (below_size z2_6_) : w.heap.size ≤ gb147)); have _ := A_ ((by rw [hg]; exact (below_size z2_6_) : w.heap.size ≤ gb147)); clear HB; rename_i HB BK147 GW147 GE147; clear hb hbox hg) | ((with_reducible refine gate_callee (f := 143) rfl ?_); refine goesL_ (some 10) rfl rfl Try.func143 (by kernel_rfl) rfl #[.int .i64 a0, .int .i64 a1] rfl z2_1_ ?_; (with_reducible refine (spec_l03Common.calls k a0 a1 t148 _ A3.out).mono ?_); rintro e w' ⟨rfl, ⟨nd, rfl⟩⟩; refine ⟨_, rfl, ?_⟩; (try (rw [drewN_self w26]; generalize hq_ : World.drewN w26 _ = w26; have n0_ : Aside0 (w26.heap[gb147]? = some (.cells #[.int .i64 0, .int .i64 0] 71 (0, 0))) := ⟨(by rw [← hq_]; exact z2_5_)⟩; have n1_ : Aside0 (Below w.heap.size w w26) := ⟨(by rw [← hq_]; exact z2_3_)⟩; clear BK147 HB hq_; have BK147 := n0_; have HB := n1_; clear n0_ n1_))))
   have _ := A_ (blk_drew BK147.out)
   have _ := A_ (below_drew1 HB.out)
   clear BK147 HB
   rename_i BK147 HB
   refine start_ (n := 9) (S := fun w' => True) (ds := []) #[false, false, false, false, false, false, false, false, false] (by kernel_rfl) rfl rfl trivial (fun hHeld => ?_); refine with_tabW spec_l03Make.tab4 spec_l03Make.bits4 (fun HT_ HW_ => ?_)
   generalize w26.drew = w27 at BK147 HB hHeld ⊢
   refine pure_ (i := 0) (N := some 15) (v := ?_) (a' := ?_) #[true, false, false, false, false, false, false, false, false] rfl rfl (any_of HT_.out (by kernel_rfl)) (fun _ _ _ h => h) (Or.inl ⟨by rfl, ?_⟩) ?_ ?_
   rotate_left
   ·
    intro w'
    go_simp
    with_reducible rfl
   rotate_left
   ·
    simp only [Act.put, sA_, sB_, sC_, i64_w, i32_w]
    rfl
   refine pure_ (i := 1) (N := some 16) (v := ?_) (a' := ?_) #[true, true, false, false, false, false, false, false, false] rfl rfl (any_of HT_.out (by kernel_rfl)) (fun _ _ _ h => h) (Or.inl ⟨by rfl, ?_⟩) ?_ ?_
   rotate_left
   ·
    intro w'
    go_simp
    with_reducible rfl
   rotate_left
   ·
    simp only [Act.put, sA_, sB_, sC_, i64_w, i32_w]
    rfl
   refine pure_ (i := 2) (N := some 17) (v := ?_) (a' := ?_) #[true, true, true, false, false, false, false, false, false] rfl rfl (any_of HT_.out (by kernel_rfl)) (fun _ _ _ h => h) (Or.inl ⟨by rfl, ?_⟩) ?_ ?_
   rotate_left
   ·
    intro w'
    go_simp
    with_reducible rfl
   rotate_left
   ·
    simp only [Act.put, sA_, sB_, sC_, i64_w, i32_w]
    rfl
   refine pure_ (i := 3) (N := some 18) (v := ?_) (a' := ?_) #[true, true, true, true, false, false, false, false, false] rfl rfl (any_of HT_.out (by kernel_rfl)) (fun _ _ _ h => h) (Or.inl ⟨by rfl, ?_⟩) ?_ ?_
   rotate_left
   ·
    intro w'
    go_simp
    with_reducible rfl
   rotate_left
   ·
    simp only [Act.put, sA_, sB_, sC_, i64_w, i32_w]
    rfl
   refine pure_ (i := 4) (N := some 19) (v := ?_) (a' := ?_) #[true, true, true, true, true, false, false, false, false] rfl rfl (any_of HT_.out (by kernel_rfl)) (fun _ _ _ h => h) (Or.inl ⟨by rfl, ?_⟩) ?_ ?_
   rotate_left
   ·
    intro w'
    go_simp
    with_reducible rfl
   rotate_left
   ·
    simp only [Act.put, sA_, sB_, sC_, i64_w, i32_w]
    rfl
   refine pure_ (i := 5) (N := some 20) (v := ?_) (a' := ?_) #[true, true, true, true, true, true, false, false, false] rfl rfl (any_of HT_.out (by kernel_rfl)) (fun _ _ _ h => h) (Or.inl ⟨by rfl, ?_⟩) ?_ ?_
   rotate_left
   ·
    intro w'
    go_simp
    with_reducible rfl
   rotate_left
   ·
    simp only [Act.put, sA_, sB_, sC_, i64_w, i32_w]
    rfl
   refine pure_ (i := 6) (N := some 21) (v := ?_) (a' := ?_) #[true, true, true, true, true, true, true, false, false] rfl rfl (any_of HT_.out (by kernel_rfl)) (fun _ _ _ h => h) (Or.inl ⟨by rfl, ?_⟩) ?_ ?_
   rotate_left
   ·
    intro w'
    go_simp
    with_reducible rfl
   rotate_left
   ·
    simp only [Act.put, sA_, sB_, sC_, i64_w, i32_w]
    rfl
   refine one_ (i := 7) (N := some 7) #[true, true, true, true, true, true, true, true, false] rfl rfl (one_of HT_.out (by kernel_rfl)) (by decide) (fun K hK => ?_)
   refine box_step ?hg (N := 7) ?hd (cs := #[.int .i64 0, .int .i64 0]) (t := 71) ?hr ?_; (case hd => rfl); (case hg => rfl); (case hr => first | (go_simp; done) | (go_simp; rfl))
   intro gb152 hg w28 hbox hb
   have _ := A_ (blk_below (g := gb147) (o := .cells #[.int .i64 0, .int .i64 0] 71 (0, 0)) z2_5_ hb)
   have _ := A_ (below_step z2_3_ hb)
   have _ := A_ (hbox)
   have _ := A_ ((by rw [hg]; exact (below_size z2_3_) : w.heap.size ≤ gb152))
   have _ := A_ ((by rw [hg]; exact (below_size z2_3_) : w.heap.size ≤ gb152))
   have _ := A_ ((by rw [hg]; exact Nat.ne_of_lt (blk_lt (g := gb147) (o := .cells #[.int .i64 0, .int .i64 0] 71 (0, 0)) z2_5_) : gb147 ≠ gb152))
   have _ := A_ ((by rw [hg]; exact Nat.ne_of_gt (blk_lt (g := gb147) (o := .cells #[.int .i64 0, .int .i64 0] 71 (0, 0)) z2_5_) : gb152 ≠ gb147))
   clear BK147 HB
   rename_i BK147 HB BK152 GW152 GE152 NB147_152 NB152_147
   clear hb hbox hg
   refine hK.out _ _ trivial (fun hHeld => ?_)
   clear hK K
   refine norm_ (a' := ?_) ?_ ?_
   rotate_left
   ·
    show Act.put _ (some 7) _ = _
    simp only [Act.put, sA_, sB_, sC_, i64_w, i32_w]
    rfl
   refine one_ (i := 8) (N := none) #[true, true, true, true, true, true, true, true, true] rfl rfl (one_of HT_.out (by kernel_rfl)) (by decide) (fun K hK => ?_)
   have hs29 : w28.cell? ⟨gb152, 0, none⟩ = some (.int .i64 0) := (blk_cell BK152.out 0).trans rfl
   have hfs29 := blk_frozen BK152.out 0
   have hns29_0 := NB147_152.out
   have hms29_0 := NB152_147.out
   have hs30 : w28.cell? ⟨gb152, 1, none⟩ = some (.int .i64 0) := (blk_cell BK152.out 1).trans rfl
   have hfs30 := blk_frozen BK152.out 1
   have hns30_0 := NB147_152.out
   have hms30_0 := NB152_147.out
   refine skip_ (w1 := ?_) (by rfl) rfl ?_ ?_
   rotate_left
   ·
    go_simp
    rfl
   refine hK.out _ _ trivial (fun hHeld => ?_)
   clear hK K
   refine done_ (done_of HT_.out (by kernel_rfl)) ?_
   have H := HZ_.out
   clear HZ_
   by_cases c25 : t154 = true
   ·
    subst c25
    have H1 := H; rw [if_pos rfl] at H1
    clear H
    have H := H1
    clear H1
    simp only [Option.some.injEq, Prod.mk.injEq] at H
    obtain ⟨rfl, rfl, rfl⟩ := H
    try go_wp2_with (first | ((with_reducible refine gate_callee (f := 144) rfl ?_); refine goesL_ (some 22) rfl rfl Try.func144 (by kernel_rfl) rfl #[.pointer (some ⟨gb152, 0, none⟩)] rfl z2_1_ ?_; (with_reducible refine (spec_l03Ratio.calls k _ ([(⟨wrap64 (Int.tdiv a0 t148), wrap64 (Int.tdiv a1 t148)⟩ : S71)]).length [(⟨wrap64 (Int.tdiv a0 t148), wrap64 (Int.tdiv a1 t148)⟩ : S71)] true _ ?side1 ?side2 A24.out).mono ?_); (case side1 => refine Kd.C_block k71 (g := gb152) (cs := #[.int .i64 (wrap64 (Int.tdiv a0 t148)), .int .i64 (wrap64 (Int.tdiv a1 t148))]) (T := 71) (by (with_reducible repeat (first | refine blk_drewN ?_ _ | refine blk_drew ?_ | refine blk_alloc ?_ _)); refine blk_put (cs := #[.int .i64 (wrap64 (Int.tdiv a0 t148)), .int .i64 0]) ?_ 1 _ rfl; (with_reducible repeat (first | refine blk_drewN ?_ _ | refine blk_drew ?_ | refine blk_alloc ?_ _)); refine blk_put (cs := #[.int .i64 0, .int .i64 0]) ?_ 0 _ rfl; (with_reducible repeat (first | refine blk_drewN ?_ _ | refine blk_drew ?_ | refine blk_alloc ?_ _)); exact BK152.out) (show Kd.K k71 _ (⟨wrap64 (Int.tdiv a0 t148), wrap64 (Int.tdiv a1 t148)⟩ : S71) [.int .i64 (wrap64 (Int.tdiv a0 t148)), .int .i64 (wrap64 (Int.tdiv a1 t148))] from k71_mk _ _) (by decide)); (case side2 => exact Nat.le_refl _); rintro e w' ⟨rfl, ⟨nd, rfl⟩⟩; refine ⟨_, rfl, ?_⟩; have hnb31 := NB152_147.out; have hnc31 := NB147_152.out; obtain ⟨hcz32_0, hcz32_1⟩ := bc2 BK152.out; obtain ⟨hfz32_0, hfz32_1⟩ := bf2 BK152.out; obtain ⟨hcz33_0, hcz33_1⟩ := bc2 BK147.out; obtain ⟨hfz33_0, hfz33_1⟩ := bf2 BK147.out))
    refine bodyPost_ret (results_ct rfl _ _ gb147 71 #[.int .i64 (wrap64 (Int.tdiv a0 t148)), .int .i64 (wrap64 (Int.tdiv a1 t148))] (0, 0) _ rfl (by (with_reducible repeat (first | refine blk_drewN ?_ _ | refine blk_drew ?_ | refine blk_alloc ?_ _)); refine blk_put (cs := #[.int .i64 (wrap64 (Int.tdiv a0 t148)), .int .i64 0]) ?_ 1 _ rfl; (with_reducible repeat (first | refine blk_drewN ?_ _ | refine blk_drew ?_ | refine blk_alloc ?_ _)); refine blk_put (cs := #[.int .i64 0, .int .i64 0]) ?_ 0 _ rfl; (with_reducible repeat (first | refine blk_drewN ?_ _ | refine blk_drew ?_ | refine blk_alloc ?_ _)); refine blk_far ?_ NB147_152.out _; (with_reducible repeat (first | refine blk_drewN ?_ _ | refine blk_drew ?_ | refine blk_alloc ?_ _)); refine blk_far ?_ NB147_152.out _; (with_reducible repeat (first | refine blk_drewN ?_ _ | refine blk_drew ?_ | refine blk_alloc ?_ _)); exact BK147.out) Try.underlying71 rfl (by kernel_rfl)) rfl ?_
    exact ⟨z2_7_, z2_8_⟩
   ·
    replace c25 := Bool.eq_false_iff.mpr c25
    subst c25
    have H1 := H; rw [if_neg (show ¬ (false = true) by decide)] at H1
    clear H
    have H := H1
    clear H1
    simp only [Option.some.injEq, Prod.mk.injEq] at H
    obtain ⟨rfl, rfl, rfl⟩ := H
    try go_wp2_with (first | ((with_reducible refine gate_callee (f := 144) rfl ?_); refine goesL_ (some 22) rfl rfl Try.func144 (by kernel_rfl) rfl #[.pointer (some ⟨gb152, 0, none⟩)] rfl z2_1_ ?_; (with_reducible refine (spec_l03Ratio.calls k _ ([(⟨wrap64 (Int.tdiv a0 t148), wrap64 (Int.tdiv a1 t148)⟩ : S71)]).length [(⟨wrap64 (Int.tdiv a0 t148), wrap64 (Int.tdiv a1 t148)⟩ : S71)] false _ ?side1 ?side2 A24.out).mono ?_); (case side1 => refine Kd.C_block k71 (g := gb152) (cs := #[.int .i64 (wrap64 (Int.tdiv a0 t148)), .int .i64 (wrap64 (Int.tdiv a1 t148))]) (T := 71) (by (with_reducible repeat (first | refine blk_drewN ?_ _ | refine blk_drew ?_ | refine blk_alloc ?_ _)); refine blk_put (cs := #[.int .i64 (wrap64 (Int.tdiv a0 t148)), .int .i64 0]) ?_ 1 _ rfl; (with_reducible repeat (first | refine blk_drewN ?_ _ | refine blk_drew ?_ | refine blk_alloc ?_ _)); refine blk_put (cs := #[.int .i64 0, .int .i64 0]) ?_ 0 _ rfl; (with_reducible repeat (first | refine blk_drewN ?_ _ | refine blk_drew ?_ | refine blk_alloc ?_ _)); exact BK152.out) (show Kd.K k71 _ (⟨wrap64 (Int.tdiv a0 t148), wrap64 (Int.tdiv a1 t148)⟩ : S71) [.int .i64 (wrap64 (Int.tdiv a0 t148)), .int .i64 (wrap64 (Int.tdiv a1 t148))] from k71_mk _ _) (by decide)); (case side2 => exact Nat.le_refl _); rintro e w' ⟨rfl, ⟨nd, rfl⟩⟩; refine ⟨_, rfl, ?_⟩; have hnb39 := NB147_152.out; have hnc39 := NB152_147.out; obtain ⟨hcz40_0, hcz40_1⟩ := bc2 BK147.out; obtain ⟨hfz40_0, hfz40_1⟩ := bf2 BK147.out))
    refine bodyPost_ret (results_ct rfl _ _ gb147 71 #[.int .i64 0, .int .i64 0] (0, 0) _ rfl (by (with_reducible repeat (first | refine blk_drewN ?_ _ | refine blk_drew ?_ | refine blk_alloc ?_ _)); refine blk_put (cs := #[.int .i64 0, .int .i64 0]) ?_ 1 _ rfl; (with_reducible repeat (first | refine blk_drewN ?_ _ | refine blk_drew ?_ | refine blk_alloc ?_ _)); refine blk_put (cs := #[.int .i64 0, .int .i64 0]) ?_ 0 _ rfl; (with_reducible repeat (first | refine blk_drewN ?_ _ | refine blk_drew ?_ | refine blk_alloc ?_ _)); refine blk_far ?_ NB147_152.out _; (with_reducible repeat (first | refine blk_drewN ?_ _ | refine blk_drew ?_ | refine blk_alloc ?_ _)); refine blk_far ?_ NB147_152.out _; (with_reducible repeat (first | refine blk_drewN ?_ _ | refine blk_drew ?_ | refine blk_alloc ?_ _)); exact BK147.out) Try.underlying71 rfl (by kernel_rfl)) rfl ?_
    exact ⟨z2_7_, z2_8_⟩
/-! ### spec_l03Order: function 154 -/
def spec_l03Order.f (l0 : List (S71)) (l1 : List (S71)) : Option (Int) := if 0 < (l0.length : Int) then (if 0 < (l1.length : Int) then (if (wrap64 (((rd_T71 l0 0).f0) * ((rd_T71 l1 0).f1))) < (wrap64 (((rd_T71 l1 0).f0) * ((rd_T71 l0 0).f1))) then (some (-1)) else (if (wrap64 (((rd_T71 l0 0).f0) * ((rd_T71 l1 0).f1))) > (wrap64 (((rd_T71 l1 0).f0) * ((rd_T71 l0 0).f1))) then (some 1) else (some 0))) else (none)) else (none)
set_option maxHeartbeats 8000000 in
set_option maxRecDepth 100000 in
theorem spec_l03Order.calls (A0 : Option Addr) (c0 : Nat) (l0 : List (S71)) (A1 : Option Addr) (c1 : Nat) (l1 : List (S71)) (r : Int) (w : World) (hr0 : Kd.C k71 w A0 l0.length l0) (hc0 : l0.length ≤ c0) (hr1 : Kd.C k71 w A1 l1.length l1) (hc1 : l1.length ≤ c1) (h : spec_l03Order.f l0 l1 = some r) :
  Calls Try.prog 154 #[.pointer A0, .pointer A1] w fun e w' => e = .returned (.int .i64 r) ∧ Drawn0 w w' := by
 have HR0 := A_ hr0
 have HC0 := A_ hc0
 clear hr0 hc0
 have HR1 := A_ hr1
 have HC1 := A_ hc1
 clear hr1 hc1
 have H : (if 0 < (l0.length : Int) then (if 0 < (l1.length : Int) then (if (wrap64 (((rd_T71 l0 0).f0) * ((rd_T71 l1 0).f1))) < (wrap64 (((rd_T71 l1 0).f0) * ((rd_T71 l0 0).f1))) then (some (-1)) else (if (wrap64 (((rd_T71 l0 0).f0) * ((rd_T71 l1 0).f1))) > (wrap64 (((rd_T71 l1 0).f0) * ((rd_T71 l0 0).f1))) then (some 1) else (some 0))) else (none)) else (none)) = some r := h
 clear h
 by_cases c3 : 0 < (l0.length : Int)
 ·
  rw [if_pos c3] at H
  have c3b0 := decide_eq_true c3
  have c3b1 : decide (0 < l0.length) = true := decide_eq_true (by omega)
  clear c3
  by_cases c4 : 0 < (l1.length : Int)
  ·
   rw [if_pos c4] at H
   have c4b0 := decide_eq_true c4
   have c4b1 : decide (0 < l1.length) = true := decide_eq_true (by omega)
   clear c4
   by_cases c5 : (wrap64 (((rd_T71 l0 0).f0) * ((rd_T71 l1 0).f1))) < (wrap64 (((rd_T71 l1 0).f0) * ((rd_T71 l0 0).f1)))
   ·
    rw [if_pos c5] at H
    have c5b0 := decide_eq_true c5
    clear c5
    obtain rfl := Option.some.inj H
    have q155 : 0 < (l0.length : Int) := of_decide_eq_true (by assumption)
    obtain ⟨ad155, e155, hx155_0, hx155_1⟩ := rp_T71 HR0.out q155
    cases e155
    have q156 : 0 < (l1.length : Int) := of_decide_eq_true (by assumption)
    obtain ⟨ad156, e156, hx156_0, hx156_1⟩ := rp_T71 HR1.out q156
    cases e156
    go_enter Try.func154, Try.ntmps154
    go_wp2
    repeat (go_quiet (fail); try go_wp2)
    go_ret
    exact ⟨z2_2_, z2_4_⟩
   ·
    rw [if_neg c5] at H
    have c5b0 := decide_eq_false c5
    clear c5
    by_cases c6 : (wrap64 (((rd_T71 l0 0).f0) * ((rd_T71 l1 0).f1))) > (wrap64 (((rd_T71 l1 0).f0) * ((rd_T71 l0 0).f1)))
    ·
     rw [if_pos c6] at H
     have c6b0 := decide_eq_true c6
     clear c6
     obtain rfl := Option.some.inj H
     have q155 : 0 < (l0.length : Int) := of_decide_eq_true (by assumption)
     obtain ⟨ad155, e155, hx155_0, hx155_1⟩ := rp_T71 HR0.out q155
     cases e155
     have q156 : 0 < (l1.length : Int) := of_decide_eq_true (by assumption)
     obtain ⟨ad156, e156, hx156_0, hx156_1⟩ := rp_T71 HR1.out q156
     cases e156
     go_enter Try.func154, Try.ntmps154
     go_wp2
     repeat (go_quiet (fail); try go_wp2)
     go_ret
     exact ⟨z2_2_, z2_4_⟩
    ·
     rw [if_neg c6] at H
     have c6b0 := decide_eq_false c6
     clear c6
     obtain rfl := Option.some.inj H
     have q155 : 0 < (l0.length : Int) := of_decide_eq_true (by assumption)
     obtain ⟨ad155, e155, hx155_0, hx155_1⟩ := rp_T71 HR0.out q155
     cases e155
     have q156 : 0 < (l1.length : Int) := of_decide_eq_true (by assumption)
     obtain ⟨ad156, e156, hx156_0, hx156_1⟩ := rp_T71 HR1.out q156
     cases e156
     go_enter Try.func154, Try.ntmps154
     go_wp2
     repeat (go_quiet (fail); try go_wp2)
     go_ret
     exact ⟨z2_2_, z2_4_⟩
  ·
   rw [if_neg c4] at H
   exact absurd H (by simp)
 ·
  rw [if_neg c3] at H
  exact absurd H (by simp)
end Go.Proofs.Ytpfnohdnaocpdaa.PT

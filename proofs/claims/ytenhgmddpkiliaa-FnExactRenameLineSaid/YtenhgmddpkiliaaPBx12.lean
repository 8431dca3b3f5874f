-- Written by a program (xprint.py) out of the translation's own print; Lean checks it.
import Derived.Test.YtenhgmddpkiliaaPBx0
import Derived.Test.YtenhgmddpkiliaaPBx1
import Derived.Test.YtenhgmddpkiliaaPBx2
import Derived.Test.YtenhgmddpkiliaaPBx3
import Derived.Test.YtenhgmddpkiliaaPBx7
import Derived.Test.YtenhgmddpkiliaaPBrename
namespace Go.Proofs.Ytenhgmddpkiliaa.PB
open Go.RowKit Go.Proofs.YtenhgmddpkiliaaW.PrintWords Go.Proofs.YtenhgmddpkiliaaW.PrintLast Go.Proofs.YtenhgmddpkiliaaW.PrintMore Go.Proofs.YtenhgmddpkiliaaRP
attribute [local go_sem] max2_int min2_int max_two min_two max_three min_three max_four min_four Go.Proofs.YtenhgmddpkiliaaRP.max_eight Go.Proofs.YtenhgmddpkiliaaRP.tmod_len   -- for this text's walks alone
set_option linter.unusedVariables false
set_option linter.unusedSimpArgs false
/-! ### laws_FnExactRenameLine: function 9 -/
mutual
def laws_FnExactRenameLine.j0 : Nat → List (S42) → ByteArray → ByteArray → List (S45) → Int → List (S45) → List (S45) → Int → Bool → Option (Bool)
 | 0, _, _, _, _, _, _, _, _, _ => none
 | k + 1, x0, x1, x2, x8, x9, x10, x11, x12, x54 => if x54 = true then (some false) else ((laws_toLineS.f k x0).bind fun t309 => ((laws_eqLineS.f k x10 t309).bind fun t312 => (if t312 = true then ((laws_markLineS.f k x10 1).bind fun bt313 => (if bt313.1 < 0 then (laws_FnExactRenameLine.j1 k x0 x1 x2 x8 x9 x11 true) else ((laws_eqLineS.f k x11 x8).bind fun t315 => (if t315 = true then (laws_FnExactRenameLine.j1 k x0 x1 x2 x8 x9 x11 (x12 != x9)) else (laws_FnExactRenameLine.j1 k x0 x1 x2 x8 x9 x11 true))))) else (some false))))
def laws_FnExactRenameLine.j1 : Nat → List (S42) → ByteArray → ByteArray → List (S45) → Int → List (S45) → Bool → Option (Bool)
 | 0, _, _, _, _, _, _, _ => none
 | k + 1, x0, x1, x2, x8, x9, x11, x75 => if x75 = true then (some false) else ((laws_markLineS.f k x11 1).bind fun bt316 => ((laws_heldLineS.f k bt316.2 1).bind fun t318 => (if t318 < 0 then (some false) else (if t318 = bt316.1 then ((laws_toLineS.f k x0).bind fun t319 => ((impl_RenameLine.f k t319 x1 x2).bind fun bt322 => ((laws_eqLineS.f k bt322.1 x8).bind fun t326 => (if t326 = true then (laws_FnExactRenameLine.j2 k bt316.2 bt316.1 (bt322.2 != x9)) else (laws_FnExactRenameLine.j2 k bt316.2 bt316.1 true))))) else (some false)))))
def laws_FnExactRenameLine.j2 : Nat → List (S45) → Int → Bool → Option (Bool)
 | 0, _, _, _ => none
 | k + 1, x11, x14, x103 => if x103 = true then (some false) else ((laws_heldLineS.f k x11 1).bind fun t327 => (if t327 < 0 then (some false) else (if t327 = x14 then (some true) else (some false))))
end
def laws_FnExactRenameLine.f (k : Nat) (l0 : List (S42)) (a1 : ByteArray) (a2 : ByteArray) : Option (Bool) := if (a1.size : Int) > 1048576 then (some true) else (if (a2.size : Int) > 1048576 then (some true) else ((laws_szLineS.f k l0 1048576).bind fun t293 => (if t293 < 0 then (some true) else ((laws_toLineS.f k l0).bind fun t294 => ((spec_RenameLine.f k t294 a1 a2).bind fun bt297 => ((laws_toLineS.f k l0).bind fun t301 => ((impl_RenameLine.f k t301 a1 a2).bind fun bt304 => ((laws_eqLineS.f k bt304.1 bt297.1).bind fun t308 => (if t308 = true then (laws_FnExactRenameLine.j0 k l0 a1 a2 bt297.1 bt297.2 t301 bt304.1 bt304.2 (bt304.2 != bt297.2)) else (laws_FnExactRenameLine.j0 k l0 a1 a2 bt297.1 bt297.2 t301 bt304.1 bt304.2 true))))))))))
theorem laws_FnExactRenameLine.mono_l : ∀ k, (∀ y0 y1 y2 y3 y4 y5 y6 y7 y8, LeO (laws_FnExactRenameLine.j0 k y0 y1 y2 y3 y4 y5 y6 y7 y8) (laws_FnExactRenameLine.j0 (k + 1) y0 y1 y2 y3 y4 y5 y6 y7 y8)) ∧ (∀ y0 y1 y2 y3 y4 y5 y6, LeO (laws_FnExactRenameLine.j1 k y0 y1 y2 y3 y4 y5 y6) (laws_FnExactRenameLine.j1 (k + 1) y0 y1 y2 y3 y4 y5 y6)) ∧ (∀ y0 y1 y2, LeO (laws_FnExactRenameLine.j2 k y0 y1 y2) (laws_FnExactRenameLine.j2 (k + 1) y0 y1 y2))
 | 0 => ⟨fun _ _ _ _ _ _ _ _ _ r h => by simp [laws_FnExactRenameLine.j0] at h, fun _ _ _ _ _ _ _ r h => by simp [laws_FnExactRenameLine.j1] at h, fun _ _ _ r h => by simp [laws_FnExactRenameLine.j2] at h⟩
 | k + 1 => by
  obtain ⟨ih0, ih1, ih2⟩ := laws_FnExactRenameLine.mono_l k
  refine ⟨?_, ?_, ?_⟩
  ·
   intro y0 y1 y2 y3 y4 y5 y6 y7 y8
   unfold laws_FnExactRenameLine.j0
   repeat' first
   | (with_reducible exact ih0 _ _ _ _ _ _ _ _ _)
   | (with_reducible exact ih1 _ _ _ _ _ _ _)
   | (with_reducible exact ih2 _ _ _)
   | (with_reducible exact impl_RenameLine.mono _ _ _ _)
   | (with_reducible exact laws_eqLineS.mono _ _ _)
   | (with_reducible exact laws_heldLineS.mono _ _ _)
   | (with_reducible exact laws_markLineS.mono _ _ _)
   | (with_reducible exact laws_szLineS.mono _ _ _)
   | (with_reducible exact laws_toLineS.mono _ _)
   | (with_reducible exact spec_RenameLine.mono _ _ _ _)
   | (with_reducible exact LeO.refl _)
   | (with_reducible exact LeO.none _)
   | (with_reducible refine LeO.ite ?_ ?_)
   | (with_reducible refine LeO.bind ?_ (fun _ => ?_))
   | exact ih0 _ _ _ _ _ _ _ _ _
   | exact ih1 _ _ _ _ _ _ _
   | exact ih2 _ _ _
   | exact LeO.none _
   | refine LeO.ite ?_ ?_
   | refine LeO.bind ?_ (fun _ => ?_)
  ·
   intro y0 y1 y2 y3 y4 y5 y6
   unfold laws_FnExactRenameLine.j1
   repeat' first
   | (with_reducible exact ih0 _ _ _ _ _ _ _ _ _)
   | (with_reducible exact ih1 _ _ _ _ _ _ _)
   | (with_reducible exact ih2 _ _ _)
   | (with_reducible exact impl_RenameLine.mono _ _ _ _)
   | (with_reducible exact laws_eqLineS.mono _ _ _)
   | (with_reducible exact laws_heldLineS.mono _ _ _)
   | (with_reducible exact laws_markLineS.mono _ _ _)
   | (with_reducible exact laws_szLineS.mono _ _ _)
   | (with_reducible exact laws_toLineS.mono _ _)
   | (with_reducible exact spec_RenameLine.mono _ _ _ _)
   | (with_reducible exact LeO.refl _)
   | (with_reducible exact LeO.none _)
   | (with_reducible refine LeO.ite ?_ ?_)
   | (with_reducible refine LeO.bind ?_ (fun _ => ?_))
   | exact ih0 _ _ _ _ _ _ _ _ _
   | exact ih1 _ _ _ _ _ _ _
   | exact ih2 _ _ _
   | exact LeO.none _
   | refine LeO.ite ?_ ?_
   | refine LeO.bind ?_ (fun _ => ?_)
  ·
   intro y0 y1 y2
   unfold laws_FnExactRenameLine.j2
   repeat' first
   | (with_reducible exact ih0 _ _ _ _ _ _ _ _ _)
   | (with_reducible exact ih1 _ _ _ _ _ _ _)
   | (with_reducible exact ih2 _ _ _)
   | (with_reducible exact impl_RenameLine.mono _ _ _ _)
   | (with_reducible exact laws_eqLineS.mono _ _ _)
   | (with_reducible exact laws_heldLineS.mono _ _ _)
   | (with_reducible exact laws_markLineS.mono _ _ _)
   | (with_reducible exact laws_szLineS.mono _ _ _)
   | (with_reducible exact laws_toLineS.mono _ _)
   | (with_reducible exact spec_RenameLine.mono _ _ _ _)
   | (with_reducible exact LeO.refl _)
   | (with_reducible exact LeO.none _)
   | (with_reducible refine LeO.ite ?_ ?_)
   | (with_reducible refine LeO.bind ?_ (fun _ => ?_))
   | exact ih0 _ _ _ _ _ _ _ _ _
   | exact ih1 _ _ _ _ _ _ _
   | exact ih2 _ _ _
   | exact LeO.none _
   | refine LeO.ite ?_ ?_
   | refine LeO.bind ?_ (fun _ => ?_)
theorem laws_FnExactRenameLine.mono : ∀ a0 a1 a2 k, LeO (laws_FnExactRenameLine.f k a0 a1 a2) (laws_FnExactRenameLine.f (k + 1) a0 a1 a2) := by
 intro a0 a1 a2 k
 obtain ⟨ih0, ih1, ih2⟩ := laws_FnExactRenameLine.mono_l k
 unfold laws_FnExactRenameLine.f
 repeat' first
   | (with_reducible exact ih0 _ _ _ _ _ _ _ _ _)
   | (with_reducible exact ih1 _ _ _ _ _ _ _)
   | (with_reducible exact ih2 _ _ _)
   | (with_reducible exact impl_RenameLine.mono _ _ _ _)
   | (with_reducible exact laws_eqLineS.mono _ _ _)
   | (with_reducible exact laws_heldLineS.mono _ _ _)
   | (with_reducible exact laws_markLineS.mono _ _ _)
   | (with_reducible exact laws_szLineS.mono _ _ _)
   | (with_reducible exact laws_toLineS.mono _ _)
   | (with_reducible exact spec_RenameLine.mono _ _ _ _)
   | (with_reducible exact LeO.refl _)
   | (with_reducible exact LeO.none _)
   | (with_reducible refine LeO.ite ?_ ?_)
   | (with_reducible refine LeO.bind ?_ (fun _ => ?_))
   | exact ih0 _ _ _ _ _ _ _ _ _
   | exact ih1 _ _ _ _ _ _ _
   | exact ih2 _ _ _
   | exact LeO.none _
   | refine LeO.ite ?_ ?_
   | refine LeO.bind ?_ (fun _ => ?_)
set_option maxHeartbeats 8000000 in
set_option maxRecDepth 100000 in
theorem laws_FnExactRenameLine.calls (k : Nat) (A0 : Option Addr) (c0 : Nat) (l0 : List (S42)) (a1 : ByteArray) (a2 : ByteArray) (w : World) (hr0 : Kd.C k42 w A0 l0.length l0) (hc0 : l0.length ≤ c0) (h : laws_FnExactRenameLine.f k l0 a1 a2 = some true) :
  Calls Try.prog 9 #[.slice A0 l0.length c0, .string a1, .string a2] w fun e w' => e = .returned (.bool true) ∧ Below w.heap.size w w' := by
 have HR0 := Aside0.mk hr0
 have HC0 := Aside0.mk hc0
 clear hr0 hc0
 have HB := Aside0.mk (Below.refl w.heap.size w)
 have H : (if (a1.size : Int) > 1048576 then (some true) else (if (a2.size : Int) > 1048576 then (some true) else ((laws_szLineS.f k l0 1048576).bind fun t293 => (if t293 < 0 then (some true) else ((laws_toLineS.f k l0).bind fun t294 => ((spec_RenameLine.f k t294 a1 a2).bind fun bt297 => ((laws_toLineS.f k l0).bind fun t301 => ((impl_RenameLine.f k t301 a1 a2).bind fun bt304 => ((laws_eqLineS.f k bt304.1 bt297.1).bind fun t308 => (if t308 = true then (laws_FnExactRenameLine.j0 k l0 a1 a2 bt297.1 bt297.2 t301 bt304.1 bt304.2 (bt304.2 != bt297.2)) else (laws_FnExactRenameLine.j0 k l0 a1 a2 bt297.1 bt297.2 t301 bt304.1 bt304.2 true))))))))))) = some true := h
 clear h
 by_cases c4 : (a1.size : Int) > 1048576
 ·
  rw [if_pos c4] at H
  have c4b0 : decide (1048576 < (a1.size : Int)) = true := decide_eq_true c4
  have c4b1 : decide (1048576 < a1.size) = true := decide_eq_true (by omega)
  clear c4
  clear H
  go_enter Try.func9, Try.ntmps9
  go_wp2
  go_ret
  exact ⟨by first | rfl | (simp [errW_none, errW_some] <;> rfl) | (simp [*, errW_none, errW_some] <;> rfl), by repeat (first | (with_reducible first | exact HB.out | apply below_alloc | apply pw_below_drewN | apply below_drew1) | exact HB.out)⟩
 ·
  rw [if_neg c4] at H
  have c4b0 : decide (1048576 < (a1.size : Int)) = false := decide_eq_false c4
  have c4b1 : decide (1048576 < a1.size) = false := decide_eq_false (by omega)
  clear c4
  by_cases c5 : (a2.size : Int) > 1048576
  ·
   rw [if_pos c5] at H
   have c5b0 : decide (1048576 < (a2.size : Int)) = true := decide_eq_true c5
   have c5b1 : decide (1048576 < a2.size) = true := decide_eq_true (by omega)
   clear c5
   clear H
   go_enter Try.func9, Try.ntmps9
   go_wp2
   go_ret
   exact ⟨by first | rfl | (simp [errW_none, errW_some] <;> rfl) | (simp [*, errW_none, errW_some] <;> rfl), by repeat (first | (with_reducible first | exact HB.out | apply below_alloc | apply pw_below_drewN | apply below_drew1) | exact HB.out)⟩
  ·
   rw [if_neg c5] at H
   have c5b0 : decide (1048576 < (a2.size : Int)) = false := decide_eq_false c5
   have c5b1 : decide (1048576 < a2.size) = false := decide_eq_false (by omega)
   clear c5
   replace H := Option.bind_eq_some_iff.mp H
   obtain ⟨t293, A60, H⟩ := H
   replace H : (if t293 < 0 then (some true) else ((laws_toLineS.f k l0).bind fun t294 => ((spec_RenameLine.f k t294 a1 a2).bind fun bt297 => ((laws_toLineS.f k l0).bind fun t301 => ((impl_RenameLine.f k t301 a1 a2).bind fun bt304 => ((laws_eqLineS.f k bt304.1 bt297.1).bind fun t308 => (if t308 = true then (laws_FnExactRenameLine.j0 k l0 a1 a2 bt297.1 bt297.2 t301 bt304.1 bt304.2 (bt304.2 != bt297.2)) else (laws_FnExactRenameLine.j0 k l0 a1 a2 bt297.1 bt297.2 t301 bt304.1 bt304.2 true)))))))) = some true := H
   have A6 := Aside0.mk A60
   clear A60
   by_cases c7 : t293 < 0
   ·
    rw [if_pos c7] at H
    have c7b0 : decide (t293 < 0) = true := decide_eq_true c7
    clear c7
    clear H
    go_enter Try.func9, Try.ntmps9
    go_wp2_with (first | ((with_reducible refine gate_callee (f := 14) rfl ?_); refine goesL_ (some 26) rfl rfl Try.func14 (by kernel_rfl) rfl #[.slice A0 l0.length c0, .int .i64 1048576] rfl (by (try simp only [List.map_toArray, List.map_cons, List.map_nil]); first | done | rfl | (simp only [List.length_drop, List.length_take]; rfl)) ?_; (with_reducible refine (laws_szLineS.calls k _ _ l0 1048576 t293 _ ?side1 ?side2 A6.out).mono ?_); (case side1 => repeat (first | exact HR0.out | (with_reducible refine Kd.C_alloc ?_ _) | (with_reducible refine Kd.C_drewN ?_ _) | (with_reducible refine Kd.C_drew ?_))); (case side2 => exact HC0.out); rintro e w8 ⟨rfl, hb⟩; refine ⟨_, rfl, ?_⟩; have n0_ := Aside0.mk (below_step (by repeat (first | (with_reducible first | exact HB.out | apply below_alloc | apply pw_below_drewN | apply below_drew1) | exact HB.out)) hb); clear HB; have HB := n0_; clear n0_; (try clear hb); (try clear hb2); (try clear hk); (try clear hi)))
    go_ret
    exact ⟨by first | rfl | (simp [errW_none, errW_some] <;> rfl) | (simp [*, errW_none, errW_some] <;> rfl), by repeat (first | (with_reducible first | exact HB.out | apply below_alloc | apply pw_below_drewN | apply below_drew1) | exact HB.out)⟩
   ·
    rw [if_neg c7] at H
    have c7b0 : decide (t293 < 0) = false := decide_eq_false c7
    clear c7
    replace H := Option.bind_eq_some_iff.mp H
    obtain ⟨t294, A90, H⟩ := H
    replace H : ((spec_RenameLine.f k t294 a1 a2).bind fun bt297 => ((laws_toLineS.f k l0).bind fun t301 => ((impl_RenameLine.f k t301 a1 a2).bind fun bt304 => ((laws_eqLineS.f k bt304.1 bt297.1).bind fun t308 => (if t308 = true then (laws_FnExactRenameLine.j0 k l0 a1 a2 bt297.1 bt297.2 t301 bt304.1 bt304.2 (bt304.2 != bt297.2)) else (laws_FnExactRenameLine.j0 k l0 a1 a2 bt297.1 bt297.2 t301 bt304.1 bt304.2 true)))))) = some true := H
    have A9 := Aside0.mk A90
    clear A90
    replace H := Option.bind_eq_some_iff.mp H
    obtain ⟨⟨t297, t298⟩, A100, H⟩ := H
    replace H : ((laws_toLineS.f k l0).bind fun t301 => ((impl_RenameLine.f k t301 a1 a2).bind fun bt304 => ((laws_eqLineS.f k bt304.1 t297).bind fun t308 => (if t308 = true then (laws_FnExactRenameLine.j0 k l0 a1 a2 t297 t298 t301 bt304.1 bt304.2 (bt304.2 != t298)) else (laws_FnExactRenameLine.j0 k l0 a1 a2 t297 t298 t301 bt304.1 bt304.2 true))))) = some true := H
    have A10 := Aside0.mk A100
    clear A100
    replace H := Option.bind_eq_some_iff.mp H
    obtain ⟨t301, A110, H⟩ := H
    replace H : ((impl_RenameLine.f k t301 a1 a2).bind fun bt304 => ((laws_eqLineS.f k bt304.1 t297).bind fun t308 => (if t308 = true then (laws_FnExactRenameLine.j0 k l0 a1 a2 t297 t298 t301 bt304.1 bt304.2 (bt304.2 != t298)) else (laws_FnExactRenameLine.j0 k l0 a1 a2 t297 t298 t301 bt304.1 bt304.2 true)))) = some true := H
    have A11 := Aside0.mk A110
    clear A110
    replace H := Option.bind_eq_some_iff.mp H
    obtain ⟨⟨t304, t305⟩, A120, H⟩ := H
    replace H : ((laws_eqLineS.f k t304 t297).bind fun t308 => (if t308 = true then (laws_FnExactRenameLine.j0 k l0 a1 a2 t297 t298 t301 t304 t305 (t305 != t298)) else (laws_FnExactRenameLine.j0 k l0 a1 a2 t297 t298 t301 t304 t305 true))) = some true := H
    have A12 := Aside0.mk A120
    clear A120
    have HC13 := Aside0.mk H
    clear H
    go_enter Try.func9, Try.ntmps9
    go_upto_region 12 with (first | ((with_reducible refine gate_callee (f := 14) rfl ?_); refine goesL_ (some 26) rfl rfl Try.func14 (by kernel_rfl) rfl #[.slice A0 l0.length c0, .int .i64 1048576] rfl (by (try simp only [List.map_toArray, List.map_cons, List.map_nil]); first | done | rfl | (simp only [List.length_drop, List.length_take]; rfl)) ?_; (with_reducible refine (laws_szLineS.calls k _ _ l0 1048576 t293 _ ?side1 ?side2 A6.out).mono ?_); (case side1 => repeat (first | exact HR0.out | (with_reducible refine Kd.C_alloc ?_ _) | (with_reducible refine Kd.C_drewN ?_ _) | (with_reducible refine Kd.C_drew ?_))); (case side2 => exact HC0.out); rintro e w14 ⟨rfl, hb⟩; refine ⟨_, rfl, ?_⟩; have n0_ := Aside0.mk (below_step (by repeat (first | (with_reducible first | exact HB.out | apply below_alloc | apply pw_below_drewN | apply below_drew1) | exact HB.out)) hb); clear HB; have HB := n0_; clear n0_; (try clear hb); (try clear hb2); (try clear hk); (try clear hi)) | ((with_reducible refine gate_callee (f := 16) rfl ?_); refine goesL_ (some 31) rfl rfl Try.func16 (by kernel_rfl) rfl #[.slice A0 l0.length c0] rfl (by (try simp only [List.map_toArray, List.map_cons, List.map_nil]); first | done | rfl | (simp only [List.length_drop, List.length_take]; rfl)) ?_; (with_reducible refine (laws_toLineS.calls k _ _ l0 t294 _ ?side1 ?side2 A9.out).mono ?_); (case side1 => repeat (first | exact (Kd.C_below HR0.out HB.out) | (with_reducible refine Kd.C_alloc ?_ _) | (with_reducible refine Kd.C_drewN ?_ _) | (with_reducible refine Kd.C_drew ?_))); (case side2 => exact HC0.out); rintro e w15 ⟨v295, rfl, ho0, hb⟩; refine ⟨_, rfl, ?_⟩; have n0_ := Aside0.mk (Kd.R_lower ho0 (below_size (by repeat (first | (with_reducible first | exact HB.out | apply below_alloc | apply pw_below_drewN | apply below_drew1) | exact HB.out)))); have n1_ := Aside0.mk (below_step (by repeat (first | (with_reducible first | exact HB.out | apply below_alloc | apply pw_below_drewN | apply below_drew1) | exact HB.out)) hb); clear HB; have HO296 := n0_; have HB := n1_; clear n0_ n1_; (try clear hb); (try clear hb2); (try clear hk); (try clear hi); (try clear ho0); obtain ⟨Ao16, co16, eo16⟩ := Kd.R_slice HO296.out; subst eo16) | ((with_reducible refine gate_callee (f := 40) rfl ?_); refine goesL_ (some 34) rfl rfl Try.func40 (by kernel_rfl) rfl #[.slice Ao16 t294.length co16, .string a1, .string a2] rfl (by (try simp only [List.map_toArray, List.map_cons, List.map_nil]); first | done | rfl | (simp only [List.length_drop, List.length_take]; rfl)) ?_; (with_reducible refine (spec_RenameLine.calls k _ _ t294 a1 a2 t297 t298 _ ?side1 ?side2 A10.out).mono ?_); (case side1 => repeat (first | exact (Kd.R_reads' HO296.out).2.2 | (with_reducible refine Kd.C_alloc ?_ _) | (with_reducible refine Kd.C_drewN ?_ _) | (with_reducible refine Kd.C_drew ?_))); (case side2 => exact (Kd.R_reads' HO296.out).2.1); rintro e w17 ⟨v299, rfl, ho0, hb⟩; refine ⟨_, rfl, ?_⟩; have n0_ := Aside0.mk (Kd.R_elder' (by (with_reducible repeat (first | apply Kd.R_alloc | apply Kd.R_drewN | apply Kd.R_drew)); exact HO296.out) (Kd.R_base ho0) hb); have n1_ := Aside0.mk (Kd.R_lower (Kd.R_new' ho0 (Kd.R_lt (by (with_reducible repeat (first | apply Kd.R_alloc | apply Kd.R_drewN | apply Kd.R_drew)); exact HO296.out))) (below_size (by repeat (first | (with_reducible first | exact HB.out | apply below_alloc | apply pw_below_drewN | apply below_drew1) | exact HB.out)))); have n2_ := Aside0.mk (below_step (by repeat (first | (with_reducible first | exact HB.out | apply below_alloc | apply pw_below_drewN | apply below_drew1) | exact HB.out)) hb); clear HO296; clear HB; have HO296 := n0_; have HO300 := n1_; have HB := n2_; clear n0_ n1_ n2_; (try clear hb); (try clear hb2); (try clear hk); (try clear hi); (try clear ho0)) | ((with_reducible refine gate_callee (f := 16) rfl ?_); refine goesL_ (some 38) rfl rfl Try.func16 (by kernel_rfl) rfl #[.slice A0 l0.length c0] rfl (by (try simp only [List.map_toArray, List.map_cons, List.map_nil]); first | done | rfl | (simp only [List.length_drop, List.length_take]; rfl)) ?_; (with_reducible refine (laws_toLineS.calls k _ _ l0 t301 _ ?side1 ?side2 A11.out).mono ?_); (case side1 => repeat (first | exact (Kd.C_below HR0.out HB.out) | (with_reducible refine Kd.C_alloc ?_ _) | (with_reducible refine Kd.C_drewN ?_ _) | (with_reducible refine Kd.C_drew ?_))); (case side2 => exact HC0.out); rintro e w18 ⟨v302, rfl, ho0, hb⟩; refine ⟨_, rfl, ?_⟩; have n0_ := Aside0.mk (Kd.R_elder' (by (with_reducible repeat (first | apply Kd.R_alloc | apply Kd.R_drewN | apply Kd.R_drew)); exact HO296.out) (Kd.R_base ho0) hb); have n1_ := Aside0.mk (Kd.R_elder' (by (with_reducible repeat (first | apply Kd.R_alloc | apply Kd.R_drewN | apply Kd.R_drew)); exact HO300.out) (Kd.R_base ho0) hb); have n2_ := Aside0.mk (Kd.R_lower (Kd.R_new' (Kd.R_new' ho0 (Kd.R_lt (by (with_reducible repeat (first | apply Kd.R_alloc | apply Kd.R_drewN | apply Kd.R_drew)); exact HO296.out))) (Kd.R_lt (by (with_reducible repeat (first | apply Kd.R_alloc | apply Kd.R_drewN | apply Kd.R_drew)); exact HO300.out))) (below_size (by repeat (first | (with_reducible first | exact HB.out | apply below_alloc | apply pw_below_drewN | apply below_drew1) | exact HB.out)))); have n3_ := Aside0.mk (below_step (by repeat (first | (with_reducible first | exact HB.out | apply below_alloc | apply pw_below_drewN | apply below_drew1) | exact HB.out)) hb); clear HO296; clear HO300; clear HB; have HO296 := n0_; have HO300 := n1_; have HO303 := n2_; have HB := n3_; clear n0_ n1_ n2_ n3_; (try clear hb); (try clear hb2); (try clear hk); (try clear hi); (try clear ho0); obtain ⟨Ao19, co19, eo19⟩ := Kd.R_slice HO303.out; subst eo19) | ((with_reducible refine gate_callee (f := 41) rfl ?_); refine goesL_ (some 43) rfl rfl Try.func41 (by kernel_rfl) rfl #[.slice Ao19 t301.length co19, .string a1, .string a2] rfl (by (try simp only [List.map_toArray, List.map_cons, List.map_nil]); first | done | rfl | (simp only [List.length_drop, List.length_take]; rfl)) ?_; (with_reducible refine (impl_RenameLine.calls k _ _ t301 a1 a2 t304 t305 _ ?side1 ?side2 A12.out).mono ?_); (case side1 => repeat (first | exact (Kd.R_reads' HO303.out).2.2 | (with_reducible refine Kd.C_alloc ?_ _) | (with_reducible refine Kd.C_drewN ?_ _) | (with_reducible refine Kd.C_drew ?_))); (case side2 => exact (Kd.R_reads' HO303.out).2.1); rintro e w20 ⟨v306, rfl, ho0, hb⟩; refine ⟨_, rfl, ?_⟩; have n0_ := Aside0.mk (Kd.R_elder' (by (with_reducible repeat (first | apply Kd.R_alloc | apply Kd.R_drewN | apply Kd.R_drew)); exact HO296.out) (Kd.R_base ho0) hb); have n1_ := Aside0.mk (Kd.R_elder' (by (with_reducible repeat (first | apply Kd.R_alloc | apply Kd.R_drewN | apply Kd.R_drew)); exact HO300.out) (Kd.R_base ho0) hb); have n2_ := Aside0.mk (Kd.R_elder' (by (with_reducible repeat (first | apply Kd.R_alloc | apply Kd.R_drewN | apply Kd.R_drew)); exact HO303.out) (Kd.R_base ho0) hb); have n3_ := Aside0.mk (Kd.R_lower (Kd.R_new' (Kd.R_new' (Kd.R_new' ho0 (Kd.R_lt (by (with_reducible repeat (first | apply Kd.R_alloc | apply Kd.R_drewN | apply Kd.R_drew)); exact HO296.out))) (Kd.R_lt (by (with_reducible repeat (first | apply Kd.R_alloc | apply Kd.R_drewN | apply Kd.R_drew)); exact HO300.out))) (Kd.R_lt (by (with_reducible repeat (first | apply Kd.R_alloc | apply Kd.R_drewN | apply Kd.R_drew)); exact HO303.out))) (below_size (by repeat (first | (with_reducible first | exact HB.out | apply below_alloc | apply pw_below_drewN | apply below_drew1) | exact HB.out)))); have n4_ := Aside0.mk (below_step (by repeat (first | (with_reducible first | exact HB.out | apply below_alloc | apply pw_below_drewN | apply below_drew1) | exact HB.out)) hb); clear HO296; clear HO300; clear HO303; clear HB; have HO296 := n0_; have HO300 := n1_; have HO303 := n2_; have HO307 := n3_; have HB := n4_; clear n0_ n1_ n2_ n3_ n4_; (try clear hb); (try clear hb2); (try clear hk); (try clear hi); (try clear ho0)))
    (try simp only [Act.put, sA_, sB_, sC_])
    go_cut [54] (fun v54 wc => ∃ (kq : Nat) (x54_12 : Bool), v54 = .bool x54_12 ∧ Aside0 (laws_FnExactRenameLine.j0 kq l0 a1 a2 t297 t298 t301 t304 t305 x54_12 = some true) ∧ Aside0 (kq ≤ k) ∧ Aside0 (Kd.R k45 45 wc w.heap.size (fun k_ => some k_ ≠ ((.slice Ao19 t301.length co19) : Value).ownBlock ∧ some k_ ≠ (v306 : Value).ownBlock) v299 t297) ∧ Aside0 (Kd.R k45 45 wc w.heap.size (fun k_ => some k_ ≠ (v299 : Value).ownBlock ∧ some k_ ≠ (v306 : Value).ownBlock) (.slice Ao19 t301.length co19) t301) ∧ Aside0 (Kd.R k45 45 wc w.heap.size (fun k_ => some k_ ≠ (v299 : Value).ownBlock ∧ some k_ ≠ ((.slice Ao19 t301.length co19) : Value).ownBlock) v306 t304) ∧ Aside0 (Below w.heap.size w wc))
    case first =>
     have H := HC13.out
     clear HC13
     replace H := Option.bind_eq_some_iff.mp H
     obtain ⟨t308, A210, H⟩ := H
     replace H : (if t308 = true then (laws_FnExactRenameLine.j0 k l0 a1 a2 t297 t298 t301 t304 t305 (t305 != t298)) else (laws_FnExactRenameLine.j0 k l0 a1 a2 t297 t298 t301 t304 t305 true)) = some true := H
     have A21 := Aside0.mk A210
     clear A210
     by_cases c22 : t308 = true
     ·
      subst c22
      have H1 : (laws_FnExactRenameLine.j0 k l0 a1 a2 t297 t298 t301 t304 t305 (t305 != t298)) = some true := by first | (rw [if_pos rfl] at H; exact H) | rfl
      clear H
      have H := H1
      clear H1
      have H' := Aside0.mk H
      clear H
      obtain ⟨Ao23, co23, eo23⟩ := Kd.R_slice HO307.out
      subst eo23
      obtain ⟨Ao24, co24, eo24⟩ := Kd.R_slice HO300.out
      subst eo24
      go_wp2_with (first | ((with_reducible refine gate_callee (f := 18) rfl ?_); refine goesL_ (some 48) rfl rfl Try.func18 (by kernel_rfl) rfl #[.slice Ao23 t304.length co23, .slice Ao24 t297.length co24] rfl (by (try simp only [List.map_toArray, List.map_cons, List.map_nil]); first | done | rfl | (simp only [List.length_drop, List.length_take]; rfl)) ?_; (with_reducible refine (laws_eqLineS.calls k _ _ t304 _ _ t297 true _ ?side1 ?side2 ?side3 ?side4 A21.out).mono ?_); (case side1 => repeat (first | exact (Kd.R_reads' HO307.out).2.2 | (with_reducible refine Kd.C_alloc ?_ _) | (with_reducible refine Kd.C_drewN ?_ _) | (with_reducible refine Kd.C_drew ?_))); (case side2 => exact (Kd.R_reads' HO307.out).2.1); (case side3 => repeat (first | exact (Kd.R_reads' HO300.out).2.2 | (with_reducible refine Kd.C_alloc ?_ _) | (with_reducible refine Kd.C_drewN ?_ _) | (with_reducible refine Kd.C_drew ?_))); (case side4 => exact (Kd.R_reads' HO300.out).2.1); rintro e w25 ⟨rfl, hb⟩; refine ⟨_, rfl, ?_⟩; have n0_ := Aside0.mk (Kd.R_below (by (with_reducible repeat (first | apply Kd.R_alloc | apply Kd.R_drewN | apply Kd.R_drew)); exact HO296.out) hb); have n1_ := Aside0.mk (Kd.R_below (by (with_reducible repeat (first | apply Kd.R_alloc | apply Kd.R_drewN | apply Kd.R_drew)); exact HO300.out) hb); have n2_ := Aside0.mk (Kd.R_below (by (with_reducible repeat (first | apply Kd.R_alloc | apply Kd.R_drewN | apply Kd.R_drew)); exact HO303.out) hb); have n3_ := Aside0.mk (Kd.R_below (by (with_reducible repeat (first | apply Kd.R_alloc | apply Kd.R_drewN | apply Kd.R_drew)); exact HO307.out) hb); have n4_ := Aside0.mk (below_step (by repeat (first | (with_reducible first | exact HB.out | apply below_alloc | apply pw_below_drewN | apply below_drew1) | exact HB.out)) hb); clear HO296; clear HO300; clear HO303; clear HO307; clear HB; have HO296 := n0_; have HO300 := n1_; have HO303 := n2_; have HO307 := n3_; have HB := n4_; clear n0_ n1_ n2_ n3_ n4_; (try clear hb); (try clear hb2); (try clear hk); (try clear hi)))
      go_meet
      case rel => exact ⟨_, ((t305 != t298)), (by first | rfl | (simp; done) | (simp [*]; done) | (simp [isE_]; done)), H', ⟨by first | omega | exact Nat.le_refl _⟩, ⟨by (with_reducible repeat (first | apply Kd.R_alloc | apply Kd.R_drewN | apply Kd.R_drew)); exact Kd.R_mono HO300.out (fun _ hk => ⟨hk.1.2, hk.2⟩)⟩, ⟨by (with_reducible repeat (first | apply Kd.R_alloc | apply Kd.R_drewN | apply Kd.R_drew)); exact Kd.R_mono HO303.out (fun _ hk => ⟨hk.1.2, hk.2⟩)⟩, ⟨by (with_reducible repeat (first | apply Kd.R_alloc | apply Kd.R_drewN | apply Kd.R_drew)); exact Kd.R_mono HO307.out (fun _ hk => ⟨hk.1.2, hk.2⟩)⟩, ⟨by repeat (first | (with_reducible first | exact HB.out | apply below_alloc | apply pw_below_drewN | apply below_drew1) | exact HB.out)⟩⟩
     ·
      replace c22 := Bool.eq_false_iff.mpr c22
      subst c22
      have H1 : (laws_FnExactRenameLine.j0 k l0 a1 a2 t297 t298 t301 t304 t305 true) = some true := by first | (rw [if_neg (show ¬ (false = true) by decide)] at H; exact H) | rfl
      clear H
      have H := H1
      clear H1
      have H' := Aside0.mk H
      clear H
      obtain ⟨Ao26, co26, eo26⟩ := Kd.R_slice HO307.out
      subst eo26
      obtain ⟨Ao27, co27, eo27⟩ := Kd.R_slice HO300.out
      subst eo27
      go_wp2_with (first | ((with_reducible refine gate_callee (f := 18) rfl ?_); refine goesL_ (some 48) rfl rfl Try.func18 (by kernel_rfl) rfl #[.slice Ao26 t304.length co26, .slice Ao27 t297.length co27] rfl (by (try simp only [List.map_toArray, List.map_cons, List.map_nil]); first | done | rfl | (simp only [List.length_drop, List.length_take]; rfl)) ?_; (with_reducible refine (laws_eqLineS.calls k _ _ t304 _ _ t297 false _ ?side1 ?side2 ?side3 ?side4 A21.out).mono ?_); (case side1 => repeat (first | exact (Kd.R_reads' HO307.out).2.2 | (with_reducible refine Kd.C_alloc ?_ _) | (with_reducible refine Kd.C_drewN ?_ _) | (with_reducible refine Kd.C_drew ?_))); (case side2 => exact (Kd.R_reads' HO307.out).2.1); (case side3 => repeat (first | exact (Kd.R_reads' HO300.out).2.2 | (with_reducible refine Kd.C_alloc ?_ _) | (with_reducible refine Kd.C_drewN ?_ _) | (with_reducible refine Kd.C_drew ?_))); (case side4 => exact (Kd.R_reads' HO300.out).2.1); rintro e w28 ⟨rfl, hb⟩; refine ⟨_, rfl, ?_⟩; have n0_ := Aside0.mk (Kd.R_below (by (with_reducible repeat (first | apply Kd.R_alloc | apply Kd.R_drewN | apply Kd.R_drew)); exact HO296.out) hb); have n1_ := Aside0.mk (Kd.R_below (by (with_reducible repeat (first | apply Kd.R_alloc | apply Kd.R_drewN | apply Kd.R_drew)); exact HO300.out) hb); have n2_ := Aside0.mk (Kd.R_below (by (with_reducible repeat (first | apply Kd.R_alloc | apply Kd.R_drewN | apply Kd.R_drew)); exact HO303.out) hb); have n3_ := Aside0.mk (Kd.R_below (by (with_reducible repeat (first | apply Kd.R_alloc | apply Kd.R_drewN | apply Kd.R_drew)); exact HO307.out) hb); have n4_ := Aside0.mk (below_step (by repeat (first | (with_reducible first | exact HB.out | apply below_alloc | apply pw_below_drewN | apply below_drew1) | exact HB.out)) hb); clear HO296; clear HO300; clear HO303; clear HO307; clear HB; have HO296 := n0_; have HO300 := n1_; have HO303 := n2_; have HO307 := n3_; have HB := n4_; clear n0_ n1_ n2_ n3_ n4_; (try clear hb); (try clear hb2); (try clear hk); (try clear hi)))
      go_meet
      case rel => exact ⟨_, (true), (by first | rfl | (simp; done) | (simp [*]; done) | (simp [isE_]; done)), H', ⟨by first | omega | exact Nat.le_refl _⟩, ⟨by (with_reducible repeat (first | apply Kd.R_alloc | apply Kd.R_drewN | apply Kd.R_drew)); exact Kd.R_mono HO300.out (fun _ hk => ⟨hk.1.2, hk.2⟩)⟩, ⟨by (with_reducible repeat (first | apply Kd.R_alloc | apply Kd.R_drewN | apply Kd.R_drew)); exact Kd.R_mono HO303.out (fun _ hk => ⟨hk.1.2, hk.2⟩)⟩, ⟨by (with_reducible repeat (first | apply Kd.R_alloc | apply Kd.R_drewN | apply Kd.R_drew)); exact Kd.R_mono HO307.out (fun _ hk => ⟨hk.1.2, hk.2⟩)⟩, ⟨by repeat (first | (with_reducible first | exact HB.out | apply below_alloc | apply pw_below_drewN | apply below_drew1) | exact HB.out)⟩⟩
    case rest =>
     clear HC13
     try clear c1
     try clear c2
     try clear p2
     try clear c4
     try clear c4b0
     try clear c4b1
     try clear c5
     try clear c5b0
     try clear c5b1
     try clear c7
     try clear c7b0
     try clear c9
     try clear c14
     try clear c16
     try clear c18
     try clear c22
     obtain ⟨kq, x54_12, rfl, HA, HJ12, HO_8, HO_10, HO_11, HB⟩ := hcut
     cases kq with
     | zero => exact absurd HA.out (by simp [laws_FnExactRenameLine.j0])
     | succ kj12 =>
      have H := HA.out
      clear HA
      simp only [laws_FnExactRenameLine.j0] at H
      by_cases c29 : x54_12 = true
      ·
       subst c29
       have H1 : (some false) = some true := by first | (rw [if_pos rfl] at H; exact H) | rfl
       clear H
       have H := H1
       clear H1
       exact absurd H (by decide)
      ·
       replace c29 := Bool.eq_false_iff.mpr c29
       subst c29
       have H1 : ((laws_toLineS.f kj12 l0).bind fun t309 => ((laws_eqLineS.f kj12 t301 t309).bind fun t312 => (if t312 = true then ((laws_markLineS.f kj12 t301 1).bind fun bt313 => (if bt313.1 < 0 then (laws_FnExactRenameLine.j1 kj12 l0 a1 a2 t297 t298 t304 true) else ((laws_eqLineS.f kj12 t304 t297).bind fun t315 => (if t315 = true then (laws_FnExactRenameLine.j1 kj12 l0 a1 a2 t297 t298 t304 (t305 != t298)) else (laws_FnExactRenameLine.j1 kj12 l0 a1 a2 t297 t298 t304 true))))) else (some false)))) = some true := by first | (rw [if_neg (show ¬ (false = true) by decide)] at H; exact H) | rfl
       clear H
       have H := H1
       clear H1
       replace H := Option.bind_eq_some_iff.mp H
       obtain ⟨t309, A300, H⟩ := H
       replace H : ((laws_eqLineS.f kj12 t301 t309).bind fun t312 => (if t312 = true then ((laws_markLineS.f kj12 t301 1).bind fun bt313 => (if bt313.1 < 0 then (laws_FnExactRenameLine.j1 kj12 l0 a1 a2 t297 t298 t304 true) else ((laws_eqLineS.f kj12 t304 t297).bind fun t315 => (if t315 = true then (laws_FnExactRenameLine.j1 kj12 l0 a1 a2 t297 t298 t304 (t305 != t298)) else (laws_FnExactRenameLine.j1 kj12 l0 a1 a2 t297 t298 t304 true))))) else (some false))) = some true := H
       have A30 := Aside0.mk A300
       clear A300
       replace H := Option.bind_eq_some_iff.mp H
       obtain ⟨t312, A310, H⟩ := H
       replace H : (if t312 = true then ((laws_markLineS.f kj12 t301 1).bind fun bt313 => (if bt313.1 < 0 then (laws_FnExactRenameLine.j1 kj12 l0 a1 a2 t297 t298 t304 true) else ((laws_eqLineS.f kj12 t304 t297).bind fun t315 => (if t315 = true then (laws_FnExactRenameLine.j1 kj12 l0 a1 a2 t297 t298 t304 (t305 != t298)) else (laws_FnExactRenameLine.j1 kj12 l0 a1 a2 t297 t298 t304 true))))) else (some false)) = some true := H
       have A31 := Aside0.mk A310
       clear A310
       by_cases c32 : t312 = true
       ·
        subst c32
        have H1 : ((laws_markLineS.f kj12 t301 1).bind fun bt313 => (if bt313.1 < 0 then (laws_FnExactRenameLine.j1 kj12 l0 a1 a2 t297 t298 t304 true) else ((laws_eqLineS.f kj12 t304 t297).bind fun t315 => (if t315 = true then (laws_FnExactRenameLine.j1 kj12 l0 a1 a2 t297 t298 t304 (t305 != t298)) else (laws_FnExactRenameLine.j1 kj12 l0 a1 a2 t297 t298 t304 true))))) = some true := by first | (rw [if_pos rfl] at H; exact H) | rfl
        clear H
        have H := H1
        clear H1
        replace H := Option.bind_eq_some_iff.mp H
        obtain ⟨⟨t313, t314⟩, A330, H⟩ := H
        replace H : (if t313 < 0 then (laws_FnExactRenameLine.j1 kj12 l0 a1 a2 t297 t298 t304 true) else ((laws_eqLineS.f kj12 t304 t297).bind fun t315 => (if t315 = true then (laws_FnExactRenameLine.j1 kj12 l0 a1 a2 t297 t298 t304 (t305 != t298)) else (laws_FnExactRenameLine.j1 kj12 l0 a1 a2 t297 t298 t304 true)))) = some true := H
        have A33 := Aside0.mk A330
        clear A330
        have HC34 := Aside0.mk H
        clear H
        go_upto_region 18 with (first | ((with_reducible refine gate_callee (f := 16) rfl ?_); refine goesL_ (some 57) rfl rfl Try.func16 (by kernel_rfl) rfl #[.slice A0 l0.length c0] rfl (by (try simp only [List.map_toArray, List.map_cons, List.map_nil]); first | done | rfl | (simp only [List.length_drop, List.length_take]; rfl)) ?_; (with_reducible refine (laws_toLineS.calls kj12 _ _ l0 t309 _ ?side1 ?side2 A30.out).mono ?_); (case side1 => repeat (first | exact (Kd.C_below HR0.out HB.out) | (with_reducible refine Kd.C_alloc ?_ _) | (with_reducible refine Kd.C_drewN ?_ _) | (with_reducible refine Kd.C_drew ?_))); (case side2 => exact HC0.out); rintro e w35 ⟨v310, rfl, ho0, hb⟩; refine ⟨_, rfl, ?_⟩; have n0_ := Aside0.mk (Kd.R_elder' (by (with_reducible repeat (first | apply Kd.R_alloc | apply Kd.R_drewN | apply Kd.R_drew)); exact HO_8.out) (Kd.R_base ho0) hb); have n1_ := Aside0.mk (Kd.R_elder' (by (with_reducible repeat (first | apply Kd.R_alloc | apply Kd.R_drewN | apply Kd.R_drew)); exact HO_10.out) (Kd.R_base ho0) hb); have n2_ := Aside0.mk (Kd.R_elder' (by (with_reducible repeat (first | apply Kd.R_alloc | apply Kd.R_drewN | apply Kd.R_drew)); exact HO_11.out) (Kd.R_base ho0) hb); have n3_ := Aside0.mk (Kd.R_lower (Kd.R_new' (Kd.R_new' (Kd.R_new' ho0 (Kd.R_lt (by (with_reducible repeat (first | apply Kd.R_alloc | apply Kd.R_drewN | apply Kd.R_drew)); exact HO_8.out))) (Kd.R_lt (by (with_reducible repeat (first | apply Kd.R_alloc | apply Kd.R_drewN | apply Kd.R_drew)); exact HO_10.out))) (Kd.R_lt (by (with_reducible repeat (first | apply Kd.R_alloc | apply Kd.R_drewN | apply Kd.R_drew)); exact HO_11.out))) (below_size (by repeat (first | (with_reducible first | exact HB.out | apply below_alloc | apply pw_below_drewN | apply below_drew1) | exact HB.out)))); have n4_ := Aside0.mk (below_step (by repeat (first | (with_reducible first | exact HB.out | apply below_alloc | apply pw_below_drewN | apply below_drew1) | exact HB.out)) hb); clear HO_8; clear HO_10; clear HO_11; clear HB; have HO_8 := n0_; have HO_10 := n1_; have HO_11 := n2_; have HO311 := n3_; have HB := n4_; clear n0_ n1_ n2_ n3_ n4_; (try clear hb); (try clear hb2); (try clear hk); (try clear hi); (try clear ho0); obtain ⟨Ao36, co36, eo36⟩ := Kd.R_slice HO311.out; subst eo36) | ((with_reducible refine gate_callee (f := 18) rfl ?_); refine goesL_ (some 58) rfl rfl Try.func18 (by kernel_rfl) rfl #[.slice Ao19 t301.length co19, .slice Ao36 t309.length co36] rfl (by (try simp only [List.map_toArray, List.map_cons, List.map_nil]); first | done | rfl | (simp only [List.length_drop, List.length_take]; rfl)) ?_; (with_reducible refine (laws_eqLineS.calls kj12 _ _ t301 _ _ t309 true _ ?side1 ?side2 ?side3 ?side4 A31.out).mono ?_); (case side1 => repeat (first | exact (Kd.R_reads' HO_10.out).2.2 | (with_reducible refine Kd.C_alloc ?_ _) | (with_reducible refine Kd.C_drewN ?_ _) | (with_reducible refine Kd.C_drew ?_))); (case side2 => exact (Kd.R_reads' HO_10.out).2.1); (case side3 => repeat (first | exact (Kd.R_reads' HO311.out).2.2 | (with_reducible refine Kd.C_alloc ?_ _) | (with_reducible refine Kd.C_drewN ?_ _) | (with_reducible refine Kd.C_drew ?_))); (case side4 => exact (Kd.R_reads' HO311.out).2.1); rintro e w37 ⟨rfl, hb⟩; refine ⟨_, rfl, ?_⟩; have n0_ := Aside0.mk (Kd.R_below (by (with_reducible repeat (first | apply Kd.R_alloc | apply Kd.R_drewN | apply Kd.R_drew)); exact HO_8.out) hb); have n1_ := Aside0.mk (Kd.R_below (by (with_reducible repeat (first | apply Kd.R_alloc | apply Kd.R_drewN | apply Kd.R_drew)); exact HO_10.out) hb); have n2_ := Aside0.mk (Kd.R_below (by (with_reducible repeat (first | apply Kd.R_alloc | apply Kd.R_drewN | apply Kd.R_drew)); exact HO_11.out) hb); have n3_ := Aside0.mk (Kd.R_below (by (with_reducible repeat (first | apply Kd.R_alloc | apply Kd.R_drewN | apply Kd.R_drew)); exact HO311.out) hb); have n4_ := Aside0.mk (below_step (by repeat (first | (with_reducible first | exact HB.out | apply below_alloc | apply pw_below_drewN | apply below_drew1) | exact HB.out)) hb); clear HO_8; clear HO_10; clear HO_11; clear HO311; clear HB; have HO_8 := n0_; have HO_10 := n1_; have HO_11 := n2_; have HO311 := n3_; have HB := n4_; clear n0_ n1_ n2_ n3_ n4_; (try clear hb); (try clear hb2); (try clear hk); (try clear hi)) | ((with_reducible refine gate_callee (f := 27) rfl ?_); refine goesL_ (some 62) rfl rfl Try.func27 (by kernel_rfl) rfl #[.slice Ao19 t301.length co19, .int .i64 1] rfl (by (try simp only [List.map_toArray, List.map_cons, List.map_nil]); first | done | rfl | (simp only [List.length_drop, List.length_take]; rfl)) ?_; (with_reducible refine (laws_markLineS.calls kj12 (fun k_ => some k_ = (.slice Ao19 t301.length co19 : Value).ownBlock) (.slice Ao19 t301.length co19) t301 1 t313 t314 w _ ?side1 ?side2 A33.out).mono ?_); (case side1 => repeat (first | (with_reducible first | exact HB.out | apply below_alloc | apply pw_below_drewN | apply below_drew1) | exact HB.out)); (case side2 => exact Kd.R_tight rfl HO_10.out); rintro e w38 ⟨rfl, hy0, hb, hkp⟩; refine ⟨_, rfl, ?_⟩; have n0_ := Aside0.mk (Kd.R_mono (ok' := fun k_ => some k_ ≠ (.slice Ao19 t301.length co19 : Value).ownBlock ∧ some k_ ≠ (v306 : Value).ownBlock ∧ some k_ ≠ (.slice Ao36 t309.length co36 : Value).ownBlock) (Kd.R_keptB (HO_8.out) hkp (fun k_ hk_ hs_ => (hk_.1.1) hs_)) (fun k_ hk_ => ⟨hk_.1.1.1, hk_.1.1.2, hk_.1.2⟩)); have n1_ := Aside0.mk (Kd.R_reok rfl hy0 (fun k_ e_ => HO_10.out.1 k_ e_)); have n2_ := Aside0.mk (Kd.R_mono (ok' := fun k_ => some k_ ≠ (v299 : Value).ownBlock ∧ some k_ ≠ (.slice Ao19 t301.length co19 : Value).ownBlock ∧ some k_ ≠ (.slice Ao36 t309.length co36 : Value).ownBlock) (Kd.R_keptB (HO_11.out) hkp (fun k_ hk_ hs_ => (hk_.1.2) hs_)) (fun k_ hk_ => ⟨hk_.1.1.1, hk_.1.1.2, hk_.1.2⟩)); have n3_ := Aside0.mk (Kd.R_mono (ok' := fun k_ => some k_ ≠ (v299 : Value).ownBlock ∧ some k_ ≠ (.slice Ao19 t301.length co19 : Value).ownBlock ∧ some k_ ≠ (v306 : Value).ownBlock) (Kd.R_keptB (HO311.out) hkp (fun k_ hk_ hs_ => (hk_.1.2) hs_)) (fun k_ hk_ => ⟨hk_.1.1.1.2, hk_.1.1.2, hk_.1.2⟩)); have n4_ := Aside0.mk (hb); clear HO_8; clear HO_10; clear HO_11; clear HO311; clear HB; have HO_8 := n0_; have HO_10 := n1_; have HO_11 := n2_; have HO311 := n3_; have HB := n4_; clear n0_ n1_ n2_ n3_ n4_; (try clear hb); (try clear hkp); (try clear hy0)))
        (try simp only [Act.put, sA_, sB_, sC_])
        go_cut [75] (fun v75 wc => ∃ (kq : Nat) (x75_33 : Bool), v75 = .bool x75_33 ∧ Aside0 (laws_FnExactRenameLine.j1 kq l0 a1 a2 t297 t298 t304 x75_33 = some true) ∧ Aside0 (kq ≤ kj12) ∧ Aside0 (Kd.R k45 45 wc w.heap.size (fun k_ => some k_ ≠ (v306 : Value).ownBlock) v299 t297) ∧ Aside0 (Kd.R k45 45 wc w.heap.size (fun k_ => some k_ ≠ (v299 : Value).ownBlock) v306 t304) ∧ Aside0 (Below w.heap.size w wc))
        case first =>
         have H := HC34.out
         clear HC34
         by_cases c39 : t313 < 0
         ·
          rw [if_pos c39] at H
          have c39b0 : decide (t313 < 0) = true := decide_eq_true c39
          clear c39
          (first | rw [c39b0] | (simp only [i64_w, i32_w]; rw [c39b0]) | skip)
          have H' := Aside0.mk H
          clear H
          go_wp2
          go_meet
          case rel => exact ⟨_, (true), (by first | rfl | (simp; done) | (simp [*]; done) | (simp [isE_]; done)), H', ⟨by have := HJ12.out; first | omega | exact Nat.le_refl _⟩, ⟨by (with_reducible repeat (first | apply Kd.R_alloc | apply Kd.R_drewN | apply Kd.R_drew)); exact Kd.R_mono HO_8.out (fun _ hk => hk.2.1)⟩, ⟨by (with_reducible repeat (first | apply Kd.R_alloc | apply Kd.R_drewN | apply Kd.R_drew)); exact Kd.R_mono HO_11.out (fun _ hk => hk.1)⟩, ⟨by repeat (first | (with_reducible first | exact HB.out | apply below_alloc | apply pw_below_drewN | apply below_drew1) | exact HB.out)⟩⟩
         ·
          rw [if_neg c39] at H
          have c39b0 : decide (t313 < 0) = false := decide_eq_false c39
          clear c39
          (first | rw [c39b0] | (simp only [i64_w, i32_w]; rw [c39b0]) | skip)
          replace H := Option.bind_eq_some_iff.mp H
          obtain ⟨t315, A400, H⟩ := H
          replace H : (if t315 = true then (laws_FnExactRenameLine.j1 kj12 l0 a1 a2 t297 t298 t304 (t305 != t298)) else (laws_FnExactRenameLine.j1 kj12 l0 a1 a2 t297 t298 t304 true)) = some true := H
          have A40 := Aside0.mk A400
          clear A400
          by_cases c41 : t315 = true
          ·
           subst c41
           have H1 : (laws_FnExactRenameLine.j1 kj12 l0 a1 a2 t297 t298 t304 (t305 != t298)) = some true := by first | (rw [if_pos rfl] at H; exact H) | rfl
           clear H
           have H := H1
           clear H1
           have H' := Aside0.mk H
           clear H
           obtain ⟨Ao42, co42, eo42⟩ := Kd.R_slice HO_11.out
           subst eo42
           obtain ⟨Ao43, co43, eo43⟩ := Kd.R_slice HO_8.out
           subst eo43
           go_wp2_with (first | (go_at_call 18; (with_reducible refine (laws_eqLineS.calls kj12 _ _ t304 _ _ t297 true _ ?side1 ?side2 ?side3 ?side4 A40.out).mono ?_); (case side1 => repeat (first | exact (Kd.R_reads' HO_11.out).2.2 | (with_reducible refine Kd.C_alloc ?_ _) | (with_reducible refine Kd.C_drewN ?_ _) | (with_reducible refine Kd.C_drew ?_))); (case side2 => exact (Kd.R_reads' HO_11.out).2.1); (case side3 => repeat (first | exact (Kd.R_reads' HO_8.out).2.2 | (with_reducible refine Kd.C_alloc ?_ _) | (with_reducible refine Kd.C_drewN ?_ _) | (with_reducible refine Kd.C_drew ?_))); (case side4 => exact (Kd.R_reads' HO_8.out).2.1); rintro e w44 ⟨rfl, hb⟩; have n0_ := Aside0.mk (Kd.R_below (by (with_reducible repeat (first | apply Kd.R_alloc | apply Kd.R_drewN | apply Kd.R_drew)); exact HO_8.out) hb); have n1_ := Aside0.mk (Kd.R_below (by (with_reducible repeat (first | apply Kd.R_alloc | apply Kd.R_drewN | apply Kd.R_drew)); exact HO_10.out) hb); have n2_ := Aside0.mk (Kd.R_below (by (with_reducible repeat (first | apply Kd.R_alloc | apply Kd.R_drewN | apply Kd.R_drew)); exact HO_11.out) hb); have n3_ := Aside0.mk (Kd.R_below (by (with_reducible repeat (first | apply Kd.R_alloc | apply Kd.R_drewN | apply Kd.R_drew)); exact HO311.out) hb); have n4_ := Aside0.mk (below_step (by repeat (first | (with_reducible first | exact HB.out | apply below_alloc | apply pw_below_drewN | apply below_drew1) | exact HB.out)) hb); clear HO_8; clear HO_10; clear HO_11; clear HO311; clear HB; have HO_8 := n0_; have HO_10 := n1_; have HO_11 := n2_; have HO311 := n3_; have HB := n4_; clear n0_ n1_ n2_ n3_ n4_; (try clear hb); (try clear hb2); (try clear hk); (try clear hi)))
           go_meet
           case rel => exact ⟨_, ((t305 != t298)), (by first | rfl | (simp; done) | (simp [*]; done) | (simp [isE_]; done)), H', ⟨by have := HJ12.out; first | omega | exact Nat.le_refl _⟩, ⟨by (with_reducible repeat (first | apply Kd.R_alloc | apply Kd.R_drewN | apply Kd.R_drew)); exact Kd.R_mono HO_8.out (fun _ hk => hk.2.1)⟩, ⟨by (with_reducible repeat (first | apply Kd.R_alloc | apply Kd.R_drewN | apply Kd.R_drew)); exact Kd.R_mono HO_11.out (fun _ hk => hk.1)⟩, ⟨by repeat (first | (with_reducible first | exact HB.out | apply below_alloc | apply pw_below_drewN | apply below_drew1) | exact HB.out)⟩⟩
          ·
           replace c41 := Bool.eq_false_iff.mpr c41
           subst c41
           have H1 : (laws_FnExactRenameLine.j1 kj12 l0 a1 a2 t297 t298 t304 true) = some true := by first | (rw [if_neg (show ¬ (false = true) by decide)] at H; exact H) | rfl
           clear H
           have H := H1
           clear H1
           have H' := Aside0.mk H
           clear H
           obtain ⟨Ao45, co45, eo45⟩ := Kd.R_slice HO_11.out
           subst eo45
           obtain ⟨Ao46, co46, eo46⟩ := Kd.R_slice HO_8.out
           subst eo46
           go_wp2_with (first | (go_at_call 18; (with_reducible refine (laws_eqLineS.calls kj12 _ _ t304 _ _ t297 false _ ?side1 ?side2 ?side3 ?side4 A40.out).mono ?_); (case side1 => repeat (first | exact (Kd.R_reads' HO_11.out).2.2 | (with_reducible refine Kd.C_alloc ?_ _) | (with_reducible refine Kd.C_drewN ?_ _) | (with_reducible refine Kd.C_drew ?_))); (case side2 => exact (Kd.R_reads' HO_11.out).2.1); (case side3 => repeat (first | exact (Kd.R_reads' HO_8.out).2.2 | (with_reducible refine Kd.C_alloc ?_ _) | (with_reducible refine Kd.C_drewN ?_ _) | (with_reducible refine Kd.C_drew ?_))); (case side4 => exact (Kd.R_reads' HO_8.out).2.1); rintro e w47 ⟨rfl, hb⟩; have n0_ := Aside0.mk (Kd.R_below (by (with_reducible repeat (first | apply Kd.R_alloc | apply Kd.R_drewN | apply Kd.R_drew)); exact HO_8.out) hb); have n1_ := Aside0.mk (Kd.R_below (by (with_reducible repeat (first | apply Kd.R_alloc | apply Kd.R_drewN | apply Kd.R_drew)); exact HO_10.out) hb); have n2_ := Aside0.mk (Kd.R_below (by (with_reducible repeat (first | apply Kd.R_alloc | apply Kd.R_drewN | apply Kd.R_drew)); exact HO_11.out) hb); have n3_ := Aside0.mk (Kd.R_below (by (with_reducible repeat (first | apply Kd.R_alloc | apply Kd.R_drewN | apply Kd.R_drew)); exact HO311.out) hb); have n4_ := Aside0.mk (below_step (by repeat (first | (with_reducible first | exact HB.out | apply below_alloc | apply pw_below_drewN | apply below_drew1) | exact HB.out)) hb); clear HO_8; clear HO_10; clear HO_11; clear HO311; clear HB; have HO_8 := n0_; have HO_10 := n1_; have HO_11 := n2_; have HO311 := n3_; have HB := n4_; clear n0_ n1_ n2_ n3_ n4_; (try clear hb); (try clear hb2); (try clear hk); (try clear hi)))
           go_meet
           case rel => exact ⟨_, (true), (by first | rfl | (simp; done) | (simp [*]; done) | (simp [isE_]; done)), H', ⟨by have := HJ12.out; first | omega | exact Nat.le_refl _⟩, ⟨by (with_reducible repeat (first | apply Kd.R_alloc | apply Kd.R_drewN | apply Kd.R_drew)); exact Kd.R_mono HO_8.out (fun _ hk => hk.2.1)⟩, ⟨by (with_reducible repeat (first | apply Kd.R_alloc | apply Kd.R_drewN | apply Kd.R_drew)); exact Kd.R_mono HO_11.out (fun _ hk => hk.1)⟩, ⟨by repeat (first | (with_reducible first | exact HB.out | apply below_alloc | apply pw_below_drewN | apply below_drew1) | exact HB.out)⟩⟩
        case rest =>
         clear HC34
         try clear c1
         try clear c2
         try clear p2
         try clear c3
         try clear c4
         try clear c4b0
         try clear c4b1
         try clear c5
         try clear c5b0
         try clear c5b1
         try clear c7
         try clear c7b0
         try clear c9
         try clear c14
         try clear c16
         try clear c18
         try clear c22
         try clear c27
         try clear c29
         try clear c32
         try clear c39
         try clear c39b0
         try clear c40
         try clear c41
         try clear p2
         obtain ⟨kq, x75_33, rfl, HA, HJ33, HO_8, HO_11, HB⟩ := hcut
         cases kq with
         | zero => exact absurd HA.out (by simp [laws_FnExactRenameLine.j1])
         | succ kj33 =>
          have H := HA.out
          clear HA
          simp only [laws_FnExactRenameLine.j1] at H
          by_cases c48 : x75_33 = true
          ·
           subst c48
           have H1 : (some false) = some true := by first | (rw [if_pos rfl] at H; exact H) | rfl
           clear H
           have H := H1
           clear H1
           exact absurd H (by decide)
          ·
           replace c48 := Bool.eq_false_iff.mpr c48
           subst c48
           have H1 : ((laws_markLineS.f kj33 t304 1).bind fun bt316 => ((laws_heldLineS.f kj33 bt316.2 1).bind fun t318 => (if t318 < 0 then (some false) else (if t318 = bt316.1 then ((laws_toLineS.f kj33 l0).bind fun t319 => ((impl_RenameLine.f kj33 t319 a1 a2).bind fun bt322 => ((laws_eqLineS.f kj33 bt322.1 t297).bind fun t326 => (if t326 = true then (laws_FnExactRenameLine.j2 kj33 bt316.2 bt316.1 (bt322.2 != t298)) else (laws_FnExactRenameLine.j2 kj33 bt316.2 bt316.1 true))))) else (some false))))) = some true := by first | (rw [if_neg (show ¬ (false = true) by decide)] at H; exact H) | rfl
           clear H
           have H := H1
           clear H1
           replace H := Option.bind_eq_some_iff.mp H
           obtain ⟨⟨t316, t317⟩, A490, H⟩ := H
           replace H : ((laws_heldLineS.f kj33 t317 1).bind fun t318 => (if t318 < 0 then (some false) else (if t318 = t316 then ((laws_toLineS.f kj33 l0).bind fun t319 => ((impl_RenameLine.f kj33 t319 a1 a2).bind fun bt322 => ((laws_eqLineS.f kj33 bt322.1 t297).bind fun t326 => (if t326 = true then (laws_FnExactRenameLine.j2 kj33 t317 t316 (bt322.2 != t298)) else (laws_FnExactRenameLine.j2 kj33 t317 t316 true))))) else (some false)))) = some true := H
           have A49 := Aside0.mk A490
           clear A490
           replace H := Option.bind_eq_some_iff.mp H
           obtain ⟨t318, A500, H⟩ := H
           replace H : (if t318 < 0 then (some false) else (if t318 = t316 then ((laws_toLineS.f kj33 l0).bind fun t319 => ((impl_RenameLine.f kj33 t319 a1 a2).bind fun bt322 => ((laws_eqLineS.f kj33 bt322.1 t297).bind fun t326 => (if t326 = true then (laws_FnExactRenameLine.j2 kj33 t317 t316 (bt322.2 != t298)) else (laws_FnExactRenameLine.j2 kj33 t317 t316 true))))) else (some false))) = some true := H
           have A50 := Aside0.mk A500
           clear A500
           by_cases c51 : t318 < 0
           ·
            rw [if_pos c51] at H
            have c51b0 : decide (t318 < 0) = true := decide_eq_true c51
            clear c51
            exact absurd H (by decide)
           ·
            rw [if_neg c51] at H
            have c51b0 : decide (t318 < 0) = false := decide_eq_false c51
            clear c51
            by_cases c52 : t318 = t316
            ·
             rw [if_pos c52] at H
             have c52b0 : (t318 == t316) = true := beq_iff_eq.mpr c52
             have c52b1 : (t318 != t316) = false := bne_eq_false_iff_eq.mpr c52
             clear c52
             replace H := Option.bind_eq_some_iff.mp H
             obtain ⟨t319, A530, H⟩ := H
             replace H : ((impl_RenameLine.f kj33 t319 a1 a2).bind fun bt322 => ((laws_eqLineS.f kj33 bt322.1 t297).bind fun t326 => (if t326 = true then (laws_FnExactRenameLine.j2 kj33 t317 t316 (bt322.2 != t298)) else (laws_FnExactRenameLine.j2 kj33 t317 t316 true)))) = some true := H
             have A53 := Aside0.mk A530
             clear A530
             replace H := Option.bind_eq_some_iff.mp H
             obtain ⟨⟨t322, t323⟩, A540, H⟩ := H
             replace H : ((laws_eqLineS.f kj33 t322 t297).bind fun t326 => (if t326 = true then (laws_FnExactRenameLine.j2 kj33 t317 t316 (t323 != t298)) else (laws_FnExactRenameLine.j2 kj33 t317 t316 true))) = some true := H
             have A54 := Aside0.mk A540
             clear A540
             have HC55 := Aside0.mk H
             clear H
             obtain ⟨Ao56, co56, eo56⟩ := Kd.R_slice HO_11.out
             subst eo56
             go_upto_region 29 with (first | ((with_reducible refine gate_callee (f := 27) rfl ?_); refine goesL_ (some 78) rfl rfl Try.func27 (by kernel_rfl) rfl #[.slice Ao56 t304.length co56, .int .i64 1] rfl (by (try simp only [List.map_toArray, List.map_cons, List.map_nil]); first | done | rfl | (simp only [List.length_drop, List.length_take]; rfl)) ?_; (with_reducible refine (laws_markLineS.calls kj33 (fun k_ => some k_ = (.slice Ao56 t304.length co56 : Value).ownBlock) (.slice Ao56 t304.length co56) t304 1 t316 t317 w _ ?side1 ?side2 A49.out).mono ?_); (case side1 => repeat (first | (with_reducible first | exact HB.out | apply below_alloc | apply pw_below_drewN | apply below_drew1) | exact HB.out)); (case side2 => exact Kd.R_tight rfl HO_11.out); rintro e w57 ⟨rfl, hy0, hb, hkp⟩; refine ⟨_, rfl, ?_⟩; have n0_ := Aside0.mk (Kd.R_mono (ok' := fun k_ => some k_ ≠ (.slice Ao56 t304.length co56 : Value).ownBlock) (Kd.R_keptB (HO_8.out) hkp (fun k_ hk_ hs_ => (hk_) hs_)) (fun k_ hk_ => hk_.1)); have n1_ := Aside0.mk (Kd.R_reok rfl hy0 (fun k_ e_ => HO_11.out.1 k_ e_)); have n2_ := Aside0.mk (hb); clear HO_8; clear HO_11; clear HB; have HO_8 := n0_; have HO_11 := n1_; have HB := n2_; clear n0_ n1_ n2_; (try clear hb); (try clear hkp); (try clear hy0)) | ((with_reducible refine gate_callee (f := 28) rfl ?_); refine goesL_ (some 81) rfl rfl Try.func28 (by kernel_rfl) rfl #[.slice Ao56 t317.length co56, .int .i64 1] rfl (by (try simp only [List.map_toArray, List.map_cons, List.map_nil]); first | done | (rw [show t317.length = t304.length from (Kd.R_reads' HO_11.out).1.symm] <;> rfl) | rfl | (simp only [List.length_drop, List.length_take]; rfl)) ?_; (with_reducible refine (laws_heldLineS.calls kj33 _ _ t317 1 t318 _ ?side1 ?side2 A50.out).mono ?_); (case side1 => repeat (first | exact (Kd.R_reads' HO_11.out).2.2 | (with_reducible refine Kd.C_alloc ?_ _) | (with_reducible refine Kd.C_drewN ?_ _) | (with_reducible refine Kd.C_drew ?_))); (case side2 => rw [show t317.length = t304.length from (Kd.R_reads' HO_11.out).1.symm]; exact (Kd.R_reads' HO_11.out).2.1); rintro e w58 ⟨rfl, hb⟩; refine ⟨_, rfl, ?_⟩; have n0_ := Aside0.mk (Kd.R_below (by (with_reducible repeat (first | apply Kd.R_alloc | apply Kd.R_drewN | apply Kd.R_drew)); exact HO_8.out) hb); have n1_ := Aside0.mk (Kd.R_below (by (with_reducible repeat (first | apply Kd.R_alloc | apply Kd.R_drewN | apply Kd.R_drew)); exact HO_11.out) hb); have n2_ := Aside0.mk (below_step (by repeat (first | (with_reducible first | exact HB.out | apply below_alloc | apply pw_below_drewN | apply below_drew1) | exact HB.out)) hb); clear HO_8; clear HO_11; clear HB; have HO_8 := n0_; have HO_11 := n1_; have HB := n2_; clear n0_ n1_ n2_; (try clear hb); (try clear hb2); (try clear hk); (try clear hi)) | ((with_reducible refine gate_callee (f := 16) rfl ?_); refine goesL_ (some 89) rfl rfl Try.func16 (by kernel_rfl) rfl #[.slice A0 l0.length c0] rfl (by (try simp only [List.map_toArray, List.map_cons, List.map_nil]); first | done | rfl | (simp only [List.length_drop, List.length_take]; rfl)) ?_; (with_reducible refine (laws_toLineS.calls kj33 _ _ l0 t319 _ ?side1 ?side2 A53.out).mono ?_); (case side1 => repeat (first | exact (Kd.C_below HR0.out HB.out) | (with_reducible refine Kd.C_alloc ?_ _) | (with_reducible refine Kd.C_drewN ?_ _) | (with_reducible refine Kd.C_drew ?_))); (case side2 => exact HC0.out); rintro e w59 ⟨v320, rfl, ho0, hb⟩; refine ⟨_, rfl, ?_⟩; have n0_ := Aside0.mk (Kd.R_elder' (by (with_reducible repeat (first | apply Kd.R_alloc | apply Kd.R_drewN | apply Kd.R_drew)); exact HO_8.out) (Kd.R_base ho0) hb); have n1_ := Aside0.mk (Kd.R_elder' (by (with_reducible repeat (first | apply Kd.R_alloc | apply Kd.R_drewN | apply Kd.R_drew)); exact HO_11.out) (Kd.R_base ho0) hb); have n2_ := Aside0.mk (Kd.R_lower (Kd.R_new' (Kd.R_new' ho0 (Kd.R_lt (by (with_reducible repeat (first | apply Kd.R_alloc | apply Kd.R_drewN | apply Kd.R_drew)); exact HO_8.out))) (Kd.R_lt (by (with_reducible repeat (first | apply Kd.R_alloc | apply Kd.R_drewN | apply Kd.R_drew)); exact HO_11.out))) (below_size (by repeat (first | (with_reducible first | exact HB.out | apply below_alloc | apply pw_below_drewN | apply below_drew1) | exact HB.out)))); have n3_ := Aside0.mk (below_step (by repeat (first | (with_reducible first | exact HB.out | apply below_alloc | apply pw_below_drewN | apply below_drew1) | exact HB.out)) hb); clear HO_8; clear HO_11; clear HB; have HO_8 := n0_; have HO_11 := n1_; have HO321 := n2_; have HB := n3_; clear n0_ n1_ n2_ n3_; (try clear hb); (try clear hb2); (try clear hk); (try clear hi); (try clear ho0); obtain ⟨Ao60, co60, eo60⟩ := Kd.R_slice HO321.out; subst eo60) | ((with_reducible refine gate_callee (f := 41) rfl ?_); refine goesL_ (some 92) rfl rfl Try.func41 (by kernel_rfl) rfl #[.slice Ao60 t319.length co60, .string a1, .string a2] rfl (by (try simp only [List.map_toArray, List.map_cons, List.map_nil]); first | done | rfl | (simp only [List.length_drop, List.length_take]; rfl)) ?_; (with_reducible refine (impl_RenameLine.calls kj33 _ _ t319 a1 a2 t322 t323 _ ?side1 ?side2 A54.out).mono ?_); (case side1 => repeat (first | exact (Kd.R_reads' HO321.out).2.2 | (with_reducible refine Kd.C_alloc ?_ _) | (with_reducible refine Kd.C_drewN ?_ _) | (with_reducible refine Kd.C_drew ?_))); (case side2 => exact (Kd.R_reads' HO321.out).2.1); rintro e w61 ⟨v324, rfl, ho0, hb⟩; refine ⟨_, rfl, ?_⟩; have n0_ := Aside0.mk (Kd.R_elder' (by (with_reducible repeat (first | apply Kd.R_alloc | apply Kd.R_drewN | apply Kd.R_drew)); exact HO_8.out) (Kd.R_base ho0) hb); have n1_ := Aside0.mk (Kd.R_elder' (by (with_reducible repeat (first | apply Kd.R_alloc | apply Kd.R_drewN | apply Kd.R_drew)); exact HO_11.out) (Kd.R_base ho0) hb); have n2_ := Aside0.mk (Kd.R_elder' (by (with_reducible repeat (first | apply Kd.R_alloc | apply Kd.R_drewN | apply Kd.R_drew)); exact HO321.out) (Kd.R_base ho0) hb); have n3_ := Aside0.mk (Kd.R_lower (Kd.R_new' (Kd.R_new' (Kd.R_new' ho0 (Kd.R_lt (by (with_reducible repeat (first | apply Kd.R_alloc | apply Kd.R_drewN | apply Kd.R_drew)); exact HO_8.out))) (Kd.R_lt (by (with_reducible repeat (first | apply Kd.R_alloc | apply Kd.R_drewN | apply Kd.R_drew)); exact HO_11.out))) (Kd.R_lt (by (with_reducible repeat (first | apply Kd.R_alloc | apply Kd.R_drewN | apply Kd.R_drew)); exact HO321.out))) (below_size (by repeat (first | (with_reducible first | exact HB.out | apply below_alloc | apply pw_below_drewN | apply below_drew1) | exact HB.out)))); have n4_ := Aside0.mk (below_step (by repeat (first | (with_reducible first | exact HB.out | apply below_alloc | apply pw_below_drewN | apply below_drew1) | exact HB.out)) hb); clear HO_8; clear HO_11; clear HO321; clear HB; have HO_8 := n0_; have HO_11 := n1_; have HO321 := n2_; have HO325 := n3_; have HB := n4_; clear n0_ n1_ n2_ n3_ n4_; (try clear hb); (try clear hb2); (try clear hk); (try clear hi); (try clear ho0)))
             (try simp only [Act.put, sA_, sB_, sC_])
             go_cut [103] (fun v103 wc => ∃ (kq : Nat) (x103_54 : Bool), v103 = .bool x103_54 ∧ Aside0 (laws_FnExactRenameLine.j2 kq t317 t316 x103_54 = some true) ∧ Aside0 (kq ≤ kj33) ∧ Aside0 (Kd.R k45 45 wc w.heap.size (fun _ => True) (.slice Ao56 t304.length co56) t317) ∧ Aside0 (Below w.heap.size w wc))
             case first =>
              have H := HC55.out
              clear HC55
              replace H := Option.bind_eq_some_iff.mp H
              obtain ⟨t326, A620, H⟩ := H
              replace H : (if t326 = true then (laws_FnExactRenameLine.j2 kj33 t317 t316 (t323 != t298)) else (laws_FnExactRenameLine.j2 kj33 t317 t316 true)) = some true := H
              have A62 := Aside0.mk A620
              clear A620
              by_cases c63 : t326 = true
              ·
               subst c63
               have H1 : (laws_FnExactRenameLine.j2 kj33 t317 t316 (t323 != t298)) = some true := by first | (rw [if_pos rfl] at H; exact H) | rfl
               clear H
               have H := H1
               clear H1
               have H' := Aside0.mk H
               clear H
               obtain ⟨Ao64, co64, eo64⟩ := Kd.R_slice HO325.out
               subst eo64
               obtain ⟨Ao65, co65, eo65⟩ := Kd.R_slice HO_8.out
               subst eo65
               go_wp2_with (first | ((with_reducible refine gate_callee (f := 18) rfl ?_); refine goesL_ (some 97) rfl rfl Try.func18 (by kernel_rfl) rfl #[.slice Ao64 t322.length co64, .slice Ao65 t297.length co65] rfl (by (try simp only [List.map_toArray, List.map_cons, List.map_nil]); first | done | rfl | (simp only [List.length_drop, List.length_take]; rfl)) ?_; (with_reducible refine (laws_eqLineS.calls kj33 _ _ t322 _ _ t297 true _ ?side1 ?side2 ?side3 ?side4 A62.out).mono ?_); (case side1 => repeat (first | exact (Kd.R_reads' HO325.out).2.2 | (with_reducible refine Kd.C_alloc ?_ _) | (with_reducible refine Kd.C_drewN ?_ _) | (with_reducible refine Kd.C_drew ?_))); (case side2 => exact (Kd.R_reads' HO325.out).2.1); (case side3 => repeat (first | exact (Kd.R_reads' HO_8.out).2.2 | (with_reducible refine Kd.C_alloc ?_ _) | (with_reducible refine Kd.C_drewN ?_ _) | (with_reducible refine Kd.C_drew ?_))); (case side4 => exact (Kd.R_reads' HO_8.out).2.1); rintro e w66 ⟨rfl, hb⟩; refine ⟨_, rfl, ?_⟩; have n0_ := Aside0.mk (Kd.R_below (by (with_reducible repeat (first | apply Kd.R_alloc | apply Kd.R_drewN | apply Kd.R_drew)); exact HO_8.out) hb); have n1_ := Aside0.mk (Kd.R_below (by (with_reducible repeat (first | apply Kd.R_alloc | apply Kd.R_drewN | apply Kd.R_drew)); exact HO_11.out) hb); have n2_ := Aside0.mk (Kd.R_below (by (with_reducible repeat (first | apply Kd.R_alloc | apply Kd.R_drewN | apply Kd.R_drew)); exact HO321.out) hb); have n3_ := Aside0.mk (Kd.R_below (by (with_reducible repeat (first | apply Kd.R_alloc | apply Kd.R_drewN | apply Kd.R_drew)); exact HO325.out) hb); have n4_ := Aside0.mk (below_step (by repeat (first | (with_reducible first | exact HB.out | apply below_alloc | apply pw_below_drewN | apply below_drew1) | exact HB.out)) hb); clear HO_8; clear HO_11; clear HO321; clear HO325; clear HB; have HO_8 := n0_; have HO_11 := n1_; have HO321 := n2_; have HO325 := n3_; have HB := n4_; clear n0_ n1_ n2_ n3_ n4_; (try clear hb); (try clear hb2); (try clear hk); (try clear hi)))
               go_meet
               case rel => exact ⟨_, ((t323 != t298)), (by first | rfl | (simp; done) | (simp [*]; done) | (simp [isE_]; done)), H', ⟨by have := HJ12.out; have := HJ33.out; first | omega | exact Nat.le_refl _⟩, ⟨by (with_reducible repeat (first | apply Kd.R_alloc | apply Kd.R_drewN | apply Kd.R_drew)); exact Kd.R_mono HO_11.out (fun _ hk => trivial)⟩, ⟨by repeat (first | (with_reducible first | exact HB.out | apply below_alloc | apply pw_below_drewN | apply below_drew1) | exact HB.out)⟩⟩
              ·
               replace c63 := Bool.eq_false_iff.mpr c63
               subst c63
               have H1 : (laws_FnExactRenameLine.j2 kj33 t317 t316 true) = some true := by first | (rw [if_neg (show ¬ (false = true) by decide)] at H; exact H) | rfl
               clear H
               have H := H1
               clear H1
               have H' := Aside0.mk H
               clear H
               obtain ⟨Ao67, co67, eo67⟩ := Kd.R_slice HO325.out
               subst eo67
               obtain ⟨Ao68, co68, eo68⟩ := Kd.R_slice HO_8.out
               subst eo68
               go_wp2_with (first | ((with_reducible refine gate_callee (f := 18) rfl ?_); refine goesL_ (some 97) rfl rfl Try.func18 (by kernel_rfl) rfl #[.slice Ao67 t322.length co67, .slice Ao68 t297.length co68] rfl (by (try simp only [List.map_toArray, List.map_cons, List.map_nil]); first | done | rfl | (simp only [List.length_drop, List.length_take]; rfl)) ?_; (with_reducible refine (laws_eqLineS.calls kj33 _ _ t322 _ _ t297 false _ ?side1 ?side2 ?side3 ?side4 A62.out).mono ?_); (case side1 => repeat (first | exact (Kd.R_reads' HO325.out).2.2 | (with_reducible refine Kd.C_alloc ?_ _) | (with_reducible refine Kd.C_drewN ?_ _) | (with_reducible refine Kd.C_drew ?_))); (case side2 => exact (Kd.R_reads' HO325.out).2.1); (case side3 => repeat (first | exact (Kd.R_reads' HO_8.out).2.2 | (with_reducible refine Kd.C_alloc ?_ _) | (with_reducible refine Kd.C_drewN ?_ _) | (with_reducible refine Kd.C_drew ?_))); (case side4 => exact (Kd.R_reads' HO_8.out).2.1); rintro e w69 ⟨rfl, hb⟩; refine ⟨_, rfl, ?_⟩; have n0_ := Aside0.mk (Kd.R_below (by (with_reducible repeat (first | apply Kd.R_alloc | apply Kd.R_drewN | apply Kd.R_drew)); exact HO_8.out) hb); have n1_ := Aside0.mk (Kd.R_below (by (with_reducible repeat (first | apply Kd.R_alloc | apply Kd.R_drewN | apply Kd.R_drew)); exact HO_11.out) hb); have n2_ := Aside0.mk (Kd.R_below (by (with_reducible repeat (first | apply Kd.R_alloc | apply Kd.R_drewN | apply Kd.R_drew)); exact HO321.out) hb); have n3_ := Aside0.mk (Kd.R_below (by (with_reducible repeat (first | apply Kd.R_alloc | apply Kd.R_drewN | apply Kd.R_drew)); exact HO325.out) hb); have n4_ := Aside0.mk (below_step (by repeat (first | (with_reducible first | exact HB.out | apply below_alloc | apply pw_below_drewN | apply below_drew1) | exact HB.out)) hb); clear HO_8; clear HO_11; clear HO321; clear HO325; clear HB; have HO_8 := n0_; have HO_11 := n1_; have HO321 := n2_; have HO325 := n3_; have HB := n4_; clear n0_ n1_ n2_ n3_ n4_; (try clear hb); (try clear hb2); (try clear hk); (try clear hi)))
               go_meet
               case rel => exact ⟨_, (true), (by first | rfl | (simp; done) | (simp [*]; done) | (simp [isE_]; done)), H', ⟨by have := HJ12.out; have := HJ33.out; first | omega | exact Nat.le_refl _⟩, ⟨by (with_reducible repeat (first | apply Kd.R_alloc | apply Kd.R_drewN | apply Kd.R_drew)); exact Kd.R_mono HO_11.out (fun _ hk => trivial)⟩, ⟨by repeat (first | (with_reducible first | exact HB.out | apply below_alloc | apply pw_below_drewN | apply below_drew1) | exact HB.out)⟩⟩
             case rest =>
              clear HC55
              try clear c1
              try clear c2
              try clear p2
              try clear c3
              try clear c4
              try clear c4b0
              try clear c4b1
              try clear c5
              try clear c5b0
              try clear c5b1
              try clear c6
              try clear c7
              try clear c7b0
              try clear c9
              try clear c14
              try clear c16
              try clear c18
              try clear c22
              try clear c27
              try clear c28
              try clear c29
              try clear c32
              try clear c39
              try clear c39b0
              try clear c40
              try clear c41
              try clear c48
              try clear c51
              try clear c51b0
              try clear c52
              try clear c52b0
              try clear c52b1
              try clear c63
              try clear p2
              obtain ⟨kq, x103_54, rfl, HA, HJ54, HO_11, HB⟩ := hcut
              have hl11_54 := (Kd.R_reads' HO_11.out).1
              rw [hl11_54] at HO_11
              (try simp only [hl11_54])
              cases kq with
              | zero => exact absurd HA.out (by simp [laws_FnExactRenameLine.j2])
              | succ kj54 =>
               have H := HA.out
               clear HA
               simp only [laws_FnExactRenameLine.j2] at H
               by_cases c70 : x103_54 = true
               ·
                subst c70
                have H1 : (some false) = some true := by first | (rw [if_pos rfl] at H; exact H) | rfl
                clear H
                have H := H1
                clear H1
                exact absurd H (by decide)
               ·
                replace c70 := Bool.eq_false_iff.mpr c70
                subst c70
                have H1 : ((laws_heldLineS.f kj54 t317 1).bind fun t327 => (if t327 < 0 then (some false) else (if t327 = t316 then (some true) else (some false)))) = some true := by first | (rw [if_neg (show ¬ (false = true) by decide)] at H; exact H) | rfl
                clear H
                have H := H1
                clear H1
                replace H := Option.bind_eq_some_iff.mp H
                obtain ⟨t327, A710, H⟩ := H
                replace H : (if t327 < 0 then (some false) else (if t327 = t316 then (some true) else (some false))) = some true := H
                have A71 := Aside0.mk A710
                clear A710
                by_cases c72 : t327 < 0
                ·
                 rw [if_pos c72] at H
                 have c72b0 : decide (t327 < 0) = true := decide_eq_true c72
                 clear c72
                 exact absurd H (by decide)
                ·
                 rw [if_neg c72] at H
                 have c72b0 : decide (t327 < 0) = false := decide_eq_false c72
                 clear c72
                 by_cases c73 : t327 = t316
                 ·
                  rw [if_pos c73] at H
                  have c73b0 : (t327 == t316) = true := beq_iff_eq.mpr c73
                  have c73b1 : (t327 != t316) = false := bne_eq_false_iff_eq.mpr c73
                  clear c73
                  clear H
                  go_wp2_with (first | ((with_reducible refine gate_callee (f := 28) rfl ?_); refine goesL_ (some 106) rfl rfl Try.func28 (by kernel_rfl) rfl #[.slice Ao56 t317.length co56, .int .i64 1] rfl (by (try simp only [List.map_toArray, List.map_cons, List.map_nil]); first | done | rfl | (simp only [List.length_drop, List.length_take]; rfl)) ?_; (with_reducible refine (laws_heldLineS.calls kj54 _ _ t317 1 t327 _ ?side1 ?side2 A71.out).mono ?_); (case side1 => repeat (first | exact (Kd.R_reads' HO_11.out).2.2 | (with_reducible refine Kd.C_alloc ?_ _) | (with_reducible refine Kd.C_drewN ?_ _) | (with_reducible refine Kd.C_drew ?_))); (case side2 => exact (Kd.R_reads' HO_11.out).2.1); rintro e w74 ⟨rfl, hb⟩; refine ⟨_, rfl, ?_⟩; have n0_ := Aside0.mk (Kd.R_below (by (with_reducible repeat (first | apply Kd.R_alloc | apply Kd.R_drewN | apply Kd.R_drew)); exact HO_11.out) hb); have n1_ := Aside0.mk (below_step (by repeat (first | (with_reducible first | exact HB.out | apply below_alloc | apply pw_below_drewN | apply below_drew1) | exact HB.out)) hb); clear HO_11; clear HB; have HO_11 := n0_; have HB := n1_; clear n0_ n1_; (try clear hb); (try clear hb2); (try clear hk); (try clear hi)))
                  go_ret
                  exact ⟨by first | rfl | (simp [errW_none, errW_some] <;> rfl) | (simp [*, errW_none, errW_some] <;> rfl), by repeat (first | (with_reducible first | exact HB.out | apply below_alloc | apply pw_below_drewN | apply below_drew1) | exact HB.out)⟩
                 ·
                  rw [if_neg c73] at H
                  have c73b0 : (t327 == t316) = false := beq_eq_false_iff_ne.mpr c73
                  have c73b1 : (t327 != t316) = true := bne_iff_ne.mpr c73
                  exact absurd H (by decide)
            ·
             rw [if_neg c52] at H
             have c52b0 : (t318 == t316) = false := beq_eq_false_iff_ne.mpr c52
             have c52b1 : (t318 != t316) = true := bne_iff_ne.mpr c52
             exact absurd H (by decide)
       ·
        replace c32 := Bool.eq_false_iff.mpr c32
        subst c32
        have H1 : (some false) = some true := by first | (rw [if_neg (show ¬ (false = true) by decide)] at H; exact H) | rfl
        clear H
        have H := H1
        clear H1
        exact absurd H (by decide)
end Go.Proofs.Ytenhgmddpkiliaa.PB

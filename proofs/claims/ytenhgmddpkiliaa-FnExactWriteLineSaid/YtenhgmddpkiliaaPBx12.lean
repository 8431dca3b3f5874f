-- Written by a program (xprint.py) out of the translation's own print; Lean checks it.
import Derived.Test.YtenhgmddpkiliaaPBx0
import Derived.Test.YtenhgmddpkiliaaPBx1
import Derived.Test.YtenhgmddpkiliaaPBx2
import Derived.Test.YtenhgmddpkiliaaPBx3
import Derived.Test.YtenhgmddpkiliaaPBx6
import Derived.Test.YtenhgmddpkiliaaPBx11
namespace Go.Proofs.Ytenhgmddpkiliaa.PB
open Go.RowKit Go.Proofs.YtenhgmddpkiliaaW.PrintWords Go.Proofs.YtenhgmddpkiliaaW.PrintLast Go.Proofs.YtenhgmddpkiliaaW.PrintMore Go.Proofs.YtenhgmddpkiliaaRP
attribute [local go_sem] max2_int min2_int max_two min_two max_three min_three max_four min_four Go.Proofs.YtenhgmddpkiliaaRP.max_eight   -- for this text's walks alone
set_option linter.unusedVariables false
set_option linter.unusedSimpArgs false
/-! ### laws_FnExactWriteLine: function 6 -/
mutual
def laws_FnExactWriteLine.j0 : Nat → List (S42) → List (S45) → Int → List (S45) → List (S45) → Int → Bool → ByteArray → Int → ByteArray → ByteArray → Int → Int → Option (Bool)
 | 0, _, _, _, _, _, _, _, _, _, _, _, _, _ => none
 | k + 1, x0, x6, x7, x8, x9, x10, x51, x302000, x302001, x302002, x302003, x302004, x302005 => if x51 = true then (some false) else ((laws_toLineS.f k x0).bind fun t331 => ((laws_eqLineS.f k x8 t331).bind fun t334 => (if t334 = true then ((laws_markLineS.f k x8 1).bind fun bt335 => (if bt335.1 < 0 then (laws_FnExactWriteLine.j1 k x0 x6 x7 x9 true x302000 x302001 x302002 x302003 x302004 x302005) else ((laws_eqLineS.f k x9 x6).bind fun t337 => (if t337 = true then (laws_FnExactWriteLine.j1 k x0 x6 x7 x9 (x10 != x7) x302000 x302001 x302002 x302003 x302004 x302005) else (laws_FnExactWriteLine.j1 k x0 x6 x7 x9 true x302000 x302001 x302002 x302003 x302004 x302005))))) else (some false))))
def laws_FnExactWriteLine.j1 : Nat → List (S42) → List (S45) → Int → List (S45) → Bool → ByteArray → Int → ByteArray → ByteArray → Int → Int → Option (Bool)
 | 0, _, _, _, _, _, _, _, _, _, _, _ => none
 | k + 1, x0, x6, x7, x9, x72, x302000, x302001, x302002, x302003, x302004, x302005 => if x72 = true then (some false) else ((laws_markLineS.f k x9 1).bind fun bt338 => ((laws_heldLineS.f k bt338.2 1).bind fun t340 => (if t340 < 0 then (some false) else (if t340 = bt338.1 then ((laws_toLineS.f k x0).bind fun t341 => ((laws_toLine.f x302000 x302001 x302002 x302003 x302004 x302005).bind fun bt344 => ((impl_WriteLine.f k t341 bt344.1 bt344.2.1 bt344.2.2.1 bt344.2.2.2.1 bt344.2.2.2.2.1 bt344.2.2.2.2.2).bind fun bt350 => ((laws_eqLineS.f k bt350.1 x6).bind fun t354 => (if t354 = true then (laws_FnExactWriteLine.j2 k bt338.2 bt338.1 (bt350.2 != x7)) else (laws_FnExactWriteLine.j2 k bt338.2 bt338.1 true)))))) else (some false)))))
def laws_FnExactWriteLine.j2 : Nat → List (S45) → Int → Bool → Option (Bool)
 | 0, _, _, _ => none
 | k + 1, x9, x12, x100 => if x100 = true then (some false) else ((laws_heldLineS.f k x9 1).bind fun t355 => (if t355 < 0 then (some false) else (if t355 = x12 then (some true) else (some false))))
end
def laws_FnExactWriteLine.f (k : Nat) (l0 : List (S42)) (a1_0 : ByteArray) (a1_1 : Int) (a1_2 : ByteArray) (a1_3 : ByteArray) (a1_4 : Int) (a1_5 : Int) : Option (Bool) := (laws_szLineS.f k l0 1048576).bind fun t302 => (if t302 < 0 then (some true) else ((laws_szLine.f a1_0 a1_1 a1_2 a1_3 a1_4 a1_5 t302).bind fun t303 => (if t303 < 0 then (some true) else ((laws_toLineS.f k l0).bind fun t304 => ((laws_toLine.f a1_0 a1_1 a1_2 a1_3 a1_4 a1_5).bind fun bt307 => ((spec_WriteLine.f k t304 bt307.1 bt307.2.1 bt307.2.2.1 bt307.2.2.2.1 bt307.2.2.2.2.1 bt307.2.2.2.2.2).bind fun bt313 => ((laws_toLineS.f k l0).bind fun t317 => ((laws_toLine.f a1_0 a1_1 a1_2 a1_3 a1_4 a1_5).bind fun bt320 => ((impl_WriteLine.f k t317 bt320.1 bt320.2.1 bt320.2.2.1 bt320.2.2.2.1 bt320.2.2.2.2.1 bt320.2.2.2.2.2).bind fun bt326 => ((laws_eqLineS.f k bt326.1 bt313.1).bind fun t330 => (if t330 = true then (laws_FnExactWriteLine.j0 k l0 bt313.1 bt313.2 t317 bt326.1 bt326.2 (bt326.2 != bt313.2) a1_0 a1_1 a1_2 a1_3 a1_4 a1_5) else (laws_FnExactWriteLine.j0 k l0 bt313.1 bt313.2 t317 bt326.1 bt326.2 true a1_0 a1_1 a1_2 a1_3 a1_4 a1_5))))))))))))
theorem laws_FnExactWriteLine.mono_l : ∀ k, (∀ y0 y1 y2 y3 y4 y5 y6 y7 y8 y9 y10 y11 y12, LeO (laws_FnExactWriteLine.j0 k y0 y1 y2 y3 y4 y5 y6 y7 y8 y9 y10 y11 y12) (laws_FnExactWriteLine.j0 (k + 1) y0 y1 y2 y3 y4 y5 y6 y7 y8 y9 y10 y11 y12)) ∧ (∀ y0 y1 y2 y3 y4 y5 y6 y7 y8 y9 y10, LeO (laws_FnExactWriteLine.j1 k y0 y1 y2 y3 y4 y5 y6 y7 y8 y9 y10) (laws_FnExactWriteLine.j1 (k + 1) y0 y1 y2 y3 y4 y5 y6 y7 y8 y9 y10)) ∧ (∀ y0 y1 y2, LeO (laws_FnExactWriteLine.j2 k y0 y1 y2) (laws_FnExactWriteLine.j2 (k + 1) y0 y1 y2))
 | 0 => ⟨fun _ _ _ _ _ _ _ _ _ _ _ _ _ r h => by simp [laws_FnExactWriteLine.j0] at h, fun _ _ _ _ _ _ _ _ _ _ _ r h => by simp [laws_FnExactWriteLine.j1] at h, fun _ _ _ r h => by simp [laws_FnExactWriteLine.j2] at h⟩
 | k + 1 => by
  obtain ⟨ih0, ih1, ih2⟩ := laws_FnExactWriteLine.mono_l k
  refine ⟨?_, ?_, ?_⟩
  ·
   intro y0 y1 y2 y3 y4 y5 y6 y7 y8 y9 y10 y11 y12
   unfold laws_FnExactWriteLine.j0
   repeat' first
   | (with_reducible exact ih0 _ _ _ _ _ _ _ _ _ _ _ _ _)
   | (with_reducible exact ih1 _ _ _ _ _ _ _ _ _ _ _)
   | (with_reducible exact ih2 _ _ _)
   | (with_reducible exact impl_WriteLine.mono _ _ _ _ _ _ _ _)
   | (with_reducible exact laws_eqLineS.mono _ _ _)
   | (with_reducible exact laws_heldLineS.mono _ _ _)
   | (with_reducible exact laws_markLineS.mono _ _ _)
   | (with_reducible exact laws_szLineS.mono _ _ _)
   | (with_reducible exact laws_toLineS.mono _ _)
   | (with_reducible exact spec_WriteLine.mono _ _ _ _ _ _ _ _)
   | (with_reducible exact LeO.refl _)
   | (with_reducible exact LeO.none _)
   | (with_reducible refine LeO.ite ?_ ?_)
   | (with_reducible refine LeO.bind ?_ (fun _ => ?_))
   | exact ih0 _ _ _ _ _ _ _ _ _ _ _ _ _
   | exact ih1 _ _ _ _ _ _ _ _ _ _ _
   | exact ih2 _ _ _
   | exact LeO.none _
   | refine LeO.ite ?_ ?_
   | refine LeO.bind ?_ (fun _ => ?_)
  ·
   intro y0 y1 y2 y3 y4 y5 y6 y7 y8 y9 y10
   unfold laws_FnExactWriteLine.j1
   repeat' first
   | (with_reducible exact ih0 _ _ _ _ _ _ _ _ _ _ _ _ _)
   | (with_reducible exact ih1 _ _ _ _ _ _ _ _ _ _ _)
   | (with_reducible exact ih2 _ _ _)
   | (with_reducible exact impl_WriteLine.mono _ _ _ _ _ _ _ _)
   | (with_reducible exact laws_eqLineS.mono _ _ _)
   | (with_reducible exact laws_heldLineS.mono _ _ _)
   | (with_reducible exact laws_markLineS.mono _ _ _)
   | (with_reducible exact laws_szLineS.mono _ _ _)
   | (with_reducible exact laws_toLineS.mono _ _)
   | (with_reducible exact spec_WriteLine.mono _ _ _ _ _ _ _ _)
   | (with_reducible exact LeO.refl _)
   | (with_reducible exact LeO.none _)
   | (with_reducible refine LeO.ite ?_ ?_)
   | (with_reducible refine LeO.bind ?_ (fun _ => ?_))
   | exact ih0 _ _ _ _ _ _ _ _ _ _ _ _ _
   | exact ih1 _ _ _ _ _ _ _ _ _ _ _
   | exact ih2 _ _ _
   | exact LeO.none _
   | refine LeO.ite ?_ ?_
   | refine LeO.bind ?_ (fun _ => ?_)
  ·
   intro y0 y1 y2
   unfold laws_FnExactWriteLine.j2
   repeat' first
   | (with_reducible exact ih0 _ _ _ _ _ _ _ _ _ _ _ _ _)
   | (with_reducible exact ih1 _ _ _ _ _ _ _ _ _ _ _)
   | (with_reducible exact ih2 _ _ _)
   | (with_reducible exact impl_WriteLine.mono _ _ _ _ _ _ _ _)
   | (with_reducible exact laws_eqLineS.mono _ _ _)
   | (with_reducible exact laws_heldLineS.mono _ _ _)
   | (with_reducible exact laws_markLineS.mono _ _ _)
   | (with_reducible exact laws_szLineS.mono _ _ _)
   | (with_reducible exact laws_toLineS.mono _ _)
   | (with_reducible exact spec_WriteLine.mono _ _ _ _ _ _ _ _)
   | (with_reducible exact LeO.refl _)
   | (with_reducible exact LeO.none _)
   | (with_reducible refine LeO.ite ?_ ?_)
   | (with_reducible refine LeO.bind ?_ (fun _ => ?_))
   | exact ih0 _ _ _ _ _ _ _ _ _ _ _ _ _
   | exact ih1 _ _ _ _ _ _ _ _ _ _ _
   | exact ih2 _ _ _
   | exact LeO.none _
   | refine LeO.ite ?_ ?_
   | refine LeO.bind ?_ (fun _ => ?_)
theorem laws_FnExactWriteLine.mono : ∀ a0 a1 a2 a3 a4 a5 a6 k, LeO (laws_FnExactWriteLine.f k a0 a1 a2 a3 a4 a5 a6) (laws_FnExactWriteLine.f (k + 1) a0 a1 a2 a3 a4 a5 a6) := by
 intro a0 a1 a2 a3 a4 a5 a6 k
 obtain ⟨ih0, ih1, ih2⟩ := laws_FnExactWriteLine.mono_l k
 unfold laws_FnExactWriteLine.f
 repeat' first
   | (with_reducible exact ih0 _ _ _ _ _ _ _ _ _ _ _ _ _)
   | (with_reducible exact ih1 _ _ _ _ _ _ _ _ _ _ _)
   | (with_reducible exact ih2 _ _ _)
   | (with_reducible exact impl_WriteLine.mono _ _ _ _ _ _ _ _)
   | (with_reducible exact laws_eqLineS.mono _ _ _)
   | (with_reducible exact laws_heldLineS.mono _ _ _)
   | (with_reducible exact laws_markLineS.mono _ _ _)
   | (with_reducible exact laws_szLineS.mono _ _ _)
   | (with_reducible exact laws_toLineS.mono _ _)
   | (with_reducible exact spec_WriteLine.mono _ _ _ _ _ _ _ _)
   | (with_reducible exact LeO.refl _)
   | (with_reducible exact LeO.none _)
   | (with_reducible refine LeO.ite ?_ ?_)
   | (with_reducible refine LeO.bind ?_ (fun _ => ?_))
   | exact ih0 _ _ _ _ _ _ _ _ _ _ _ _ _
   | exact ih1 _ _ _ _ _ _ _ _ _ _ _
   | exact ih2 _ _ _
   | exact LeO.none _
   | refine LeO.ite ?_ ?_
   | refine LeO.bind ?_ (fun _ => ?_)
def laws_FnExactWriteLine.T8 : Bool × List (List Nat × List Nat) := (true, [([], []), ([0], [0]), ([], []), ([2, 1], [2]), ([1, 3, 3], [1, 3]), ([4], [4]), ([5], [5]), ([5], [5]), ([6, 4, 0, 1, 2, 3, 4, 5, 6], [6]), ([7, 8, 0, 1, 2, 3, 4, 5, 6, 7, 8], [7])])
def laws_FnExactWriteLine.B8 : List Nat := [0, 1, 0, 7, 15, 31, 63, 63, 127, 511]
theorem laws_FnExactWriteLine.tab8 : rtab .any (opsOf Try.f6 8) = laws_FnExactWriteLine.T8 := by kernel_rfl
theorem laws_FnExactWriteLine.bits8 : waitsOk laws_FnExactWriteLine.T8.2 laws_FnExactWriteLine.B8 = true := by kernel_rfl
def laws_FnExactWriteLine.T27 : Bool × List (List Nat × List Nat) := (true, [([], []), ([0], [0]), ([], []), ([2, 1], [2]), ([1, 3, 3], [1, 3]), ([4], [4]), ([5], [5]), ([5], [5]), ([6, 4, 0, 1, 2, 3, 4, 5, 6], [6]), ([7, 8, 0, 1, 2, 3, 4, 5, 6, 7, 8], [7])])
def laws_FnExactWriteLine.B27 : List Nat := [0, 1, 0, 7, 15, 31, 63, 63, 127, 511]
theorem laws_FnExactWriteLine.tab27 : rtab .any (opsOf Try.f6 27) = laws_FnExactWriteLine.T27 := by kernel_rfl
theorem laws_FnExactWriteLine.bits27 : waitsOk laws_FnExactWriteLine.T27.2 laws_FnExactWriteLine.B27 = true := by kernel_rfl
set_option maxHeartbeats 8000000 in
set_option maxRecDepth 100000 in
theorem laws_FnExactWriteLine.calls (k : Nat) (A0 : Option Addr) (c0 : Nat) (l0 : List (S42)) (a1_0 : ByteArray) (a1_1 : Int) (a1_2 : ByteArray) (a1_3 : ByteArray) (a1_4 : Int) (a1_5 : Int) (w : World) (hr0 : Kd.C k42 w A0 l0.length l0) (hc0 : l0.length ≤ c0) (h : laws_FnExactWriteLine.f k l0 a1_0 a1_1 a1_2 a1_3 a1_4 a1_5 = some true) :
  Calls Try.prog 6 #[.slice A0 l0.length c0, .agg #[.string a1_0, .int .i8 a1_1, .string a1_2, .string a1_3, .int .i64 a1_4, .int .i64 a1_5]] w fun e w' => e = .returned (.bool true) ∧ Below w.heap.size w w' := by
 have hu42 := Try.underlying42
 have HR0 := Aside0.mk hr0
 have HC0 := Aside0.mk hc0
 clear hr0 hc0
 have HB := Aside0.mk (Below.refl w.heap.size w)
 have H : ((laws_szLineS.f k l0 1048576).bind fun t302 => (if t302 < 0 then (some true) else ((laws_szLine.f a1_0 a1_1 a1_2 a1_3 a1_4 a1_5 t302).bind fun t303 => (if t303 < 0 then (some true) else ((laws_toLineS.f k l0).bind fun t304 => ((laws_toLine.f a1_0 a1_1 a1_2 a1_3 a1_4 a1_5).bind fun bt307 => ((spec_WriteLine.f k t304 bt307.1 bt307.2.1 bt307.2.2.1 bt307.2.2.2.1 bt307.2.2.2.2.1 bt307.2.2.2.2.2).bind fun bt313 => ((laws_toLineS.f k l0).bind fun t317 => ((laws_toLine.f a1_0 a1_1 a1_2 a1_3 a1_4 a1_5).bind fun bt320 => ((impl_WriteLine.f k t317 bt320.1 bt320.2.1 bt320.2.2.1 bt320.2.2.2.1 bt320.2.2.2.2.1 bt320.2.2.2.2.2).bind fun bt326 => ((laws_eqLineS.f k bt326.1 bt313.1).bind fun t330 => (if t330 = true then (laws_FnExactWriteLine.j0 k l0 bt313.1 bt313.2 t317 bt326.1 bt326.2 (bt326.2 != bt313.2) a1_0 a1_1 a1_2 a1_3 a1_4 a1_5) else (laws_FnExactWriteLine.j0 k l0 bt313.1 bt313.2 t317 bt326.1 bt326.2 true a1_0 a1_1 a1_2 a1_3 a1_4 a1_5))))))))))))) = some true := h
 clear h
 replace H := Option.bind_eq_some_iff.mp H
 obtain ⟨t302, A30, H⟩ := H
 replace H : (if t302 < 0 then (some true) else ((laws_szLine.f a1_0 a1_1 a1_2 a1_3 a1_4 a1_5 t302).bind fun t303 => (if t303 < 0 then (some true) else ((laws_toLineS.f k l0).bind fun t304 => ((laws_toLine.f a1_0 a1_1 a1_2 a1_3 a1_4 a1_5).bind fun bt307 => ((spec_WriteLine.f k t304 bt307.1 bt307.2.1 bt307.2.2.1 bt307.2.2.2.1 bt307.2.2.2.2.1 bt307.2.2.2.2.2).bind fun bt313 => ((laws_toLineS.f k l0).bind fun t317 => ((laws_toLine.f a1_0 a1_1 a1_2 a1_3 a1_4 a1_5).bind fun bt320 => ((impl_WriteLine.f k t317 bt320.1 bt320.2.1 bt320.2.2.1 bt320.2.2.2.1 bt320.2.2.2.2.1 bt320.2.2.2.2.2).bind fun bt326 => ((laws_eqLineS.f k bt326.1 bt313.1).bind fun t330 => (if t330 = true then (laws_FnExactWriteLine.j0 k l0 bt313.1 bt313.2 t317 bt326.1 bt326.2 (bt326.2 != bt313.2) a1_0 a1_1 a1_2 a1_3 a1_4 a1_5) else (laws_FnExactWriteLine.j0 k l0 bt313.1 bt313.2 t317 bt326.1 bt326.2 true a1_0 a1_1 a1_2 a1_3 a1_4 a1_5)))))))))))) = some true := H
 have A3 := Aside0.mk A30
 clear A30
 by_cases c4 : t302 < 0
 ·
  rw [if_pos c4] at H
  have c4b0 : decide (t302 < 0) = true := decide_eq_true c4
  clear c4
  clear H
  go_enter Try.func6, Try.ntmps6
  go_wp2_with (first | ((with_reducible refine gate_dst (N := 3) rfl ?_); refine box_event ?hg (N := 3) ?hd (cs := #[.string a1_0, .int .i8 a1_1, .string a1_2, .string a1_3, .int .i64 a1_4, .int .i64 a1_5]) (t := 42) ?hr ?_; (case hd => rfl); (case hg => rfl); (case hr => first | (go_simp; done) | (go_simp; rfl)); intro gb301 hg w5 hbox hb; have n0_ := Aside0.mk (below_step (by repeat (first | (with_reducible first | exact HB.out | apply below_alloc | apply pw_below_drewN | apply below_drew1) | exact HB.out)) hb); have n1_ := Aside0.mk (hbox); have n2_ := Aside0.mk ((by rw [hg]; exact (below_size (by repeat (first | (with_reducible first | exact HB.out | apply below_alloc | apply pw_below_drewN | apply below_drew1) | exact HB.out))) : w.heap.size ≤ gb301)); have n3_ := Aside0.mk ((by rw [hg]; exact (below_size (by repeat (first | (with_reducible first | exact HB.out | apply below_alloc | apply pw_below_drewN | apply below_drew1) | exact HB.out))) : w.heap.size ≤ gb301)); clear HB; have HB := n0_; have BK301 := n1_; have GW301 := n2_; have GE301 := n3_; clear n0_ n1_ n2_ n3_; clear hb hbox hg) | ((with_reducible refine gate_callee (f := 14) rfl ?_); refine goesL_ (some 18) rfl rfl Try.func14 (by kernel_rfl) rfl #[.slice A0 l0.length c0, .int .i64 1048576] rfl (by (try simp only [List.map_toArray, List.map_cons, List.map_nil]); first | done | rfl | (simp only [List.length_drop, List.length_take]; rfl)) ?_; (with_reducible refine (laws_szLineS.calls k _ _ l0 1048576 t302 _ ?side1 ?side2 A3.out).mono ?_); (case side1 => repeat (first | exact (Kd.C_below HR0.out HB.out) | (with_reducible refine Kd.C_alloc ?_ _) | (with_reducible refine Kd.C_drewN ?_ _) | (with_reducible refine Kd.C_drew ?_))); (case side2 => exact HC0.out); rintro e w6 ⟨rfl, hb⟩; refine ⟨_, rfl, ?_⟩; have n0_ := Aside0.mk (blk_below (g := gb301) (o := .cells #[.string a1_0, .int .i8 a1_1, .string a1_2, .string a1_3, .int .i64 a1_4, .int .i64 a1_5] 42 (0, 0)) (by (with_reducible repeat (first | refine blk_drewN ?_ _ | refine blk_drew ?_ | refine blk_alloc ?_ _)); exact BK301.out) hb); have n1_ := Aside0.mk (below_step (by repeat (first | (with_reducible first | exact HB.out | apply below_alloc | apply pw_below_drewN | apply below_drew1 | refine below_set ?_ GE301.out) | exact HB.out)) hb); clear BK301; clear HB; have BK301 := n0_; have HB := n1_; clear n0_ n1_; (try clear hb); (try clear hb2); (try clear hk); (try clear hi)))
  go_ret
  exact ⟨by first | rfl | (simp [errW_none, errW_some] <;> rfl) | (simp [*, errW_none, errW_some] <;> rfl), by repeat (first | (with_reducible first | exact HB.out | apply below_alloc | apply pw_below_drewN | apply below_drew1 | refine below_set ?_ GE301.out) | exact HB.out)⟩
 ·
  rw [if_neg c4] at H
  have c4b0 : decide (t302 < 0) = false := decide_eq_false c4
  clear c4
  replace H := Option.bind_eq_some_iff.mp H
  obtain ⟨t303, A70, H⟩ := H
  replace H : (if t303 < 0 then (some true) else ((laws_toLineS.f k l0).bind fun t304 => ((laws_toLine.f a1_0 a1_1 a1_2 a1_3 a1_4 a1_5).bind fun bt307 => ((spec_WriteLine.f k t304 bt307.1 bt307.2.1 bt307.2.2.1 bt307.2.2.2.1 bt307.2.2.2.2.1 bt307.2.2.2.2.2).bind fun bt313 => ((laws_toLineS.f k l0).bind fun t317 => ((laws_toLine.f a1_0 a1_1 a1_2 a1_3 a1_4 a1_5).bind fun bt320 => ((impl_WriteLine.f k t317 bt320.1 bt320.2.1 bt320.2.2.1 bt320.2.2.2.1 bt320.2.2.2.2.1 bt320.2.2.2.2.2).bind fun bt326 => ((laws_eqLineS.f k bt326.1 bt313.1).bind fun t330 => (if t330 = true then (laws_FnExactWriteLine.j0 k l0 bt313.1 bt313.2 t317 bt326.1 bt326.2 (bt326.2 != bt313.2) a1_0 a1_1 a1_2 a1_3 a1_4 a1_5) else (laws_FnExactWriteLine.j0 k l0 bt313.1 bt313.2 t317 bt326.1 bt326.2 true a1_0 a1_1 a1_2 a1_3 a1_4 a1_5)))))))))) = some true := H
  have A7 := Aside0.mk A70
  clear A70
  by_cases c8 : t303 < 0
  ·
   rw [if_pos c8] at H
   have c8b0 : decide (t303 < 0) = true := decide_eq_true c8
   clear c8
   clear H
   go_enter Try.func6, Try.ntmps6
   go_wp2_with (first | ((with_reducible refine gate_dst (N := 3) rfl ?_); refine box_event ?hg (N := 3) ?hd (cs := #[.string a1_0, .int .i8 a1_1, .string a1_2, .string a1_3, .int .i64 a1_4, .int .i64 a1_5]) (t := 42) ?hr ?_; (case hd => rfl); (case hg => rfl); (case hr => first | (go_simp; done) | (go_simp; rfl)); intro gb301 hg w9 hbox hb; have n0_ := Aside0.mk (below_step (by repeat (first | (with_reducible first | exact HB.out | apply below_alloc | apply pw_below_drewN | apply below_drew1) | exact HB.out)) hb); have n1_ := Aside0.mk (hbox); have n2_ := Aside0.mk ((by rw [hg]; exact (below_size (by repeat (first | (with_reducible first | exact HB.out | apply below_alloc | apply pw_below_drewN | apply below_drew1) | exact HB.out))) : w.heap.size ≤ gb301)); have n3_ := Aside0.mk ((by rw [hg]; exact (below_size (by repeat (first | (with_reducible first | exact HB.out | apply below_alloc | apply pw_below_drewN | apply below_drew1) | exact HB.out))) : w.heap.size ≤ gb301)); clear HB; have HB := n0_; have BK301 := n1_; have GW301 := n2_; have GE301 := n3_; clear n0_ n1_ n2_ n3_; clear hb hbox hg) | ((with_reducible refine gate_callee (f := 14) rfl ?_); refine goesL_ (some 18) rfl rfl Try.func14 (by kernel_rfl) rfl #[.slice A0 l0.length c0, .int .i64 1048576] rfl (by (try simp only [List.map_toArray, List.map_cons, List.map_nil]); first | done | rfl | (simp only [List.length_drop, List.length_take]; rfl)) ?_; (with_reducible refine (laws_szLineS.calls k _ _ l0 1048576 t302 _ ?side1 ?side2 A3.out).mono ?_); (case side1 => repeat (first | exact (Kd.C_below HR0.out HB.out) | (with_reducible refine Kd.C_alloc ?_ _) | (with_reducible refine Kd.C_drewN ?_ _) | (with_reducible refine Kd.C_drew ?_))); (case side2 => exact HC0.out); rintro e w10 ⟨rfl, hb⟩; refine ⟨_, rfl, ?_⟩; have n0_ := Aside0.mk (blk_below (g := gb301) (o := .cells #[.string a1_0, .int .i8 a1_1, .string a1_2, .string a1_3, .int .i64 a1_4, .int .i64 a1_5] 42 (0, 0)) (by (with_reducible repeat (first | refine blk_drewN ?_ _ | refine blk_drew ?_ | refine blk_alloc ?_ _)); exact BK301.out) hb); have n1_ := Aside0.mk (below_step (by repeat (first | (with_reducible first | exact HB.out | apply below_alloc | apply pw_below_drewN | apply below_drew1 | refine below_set ?_ GE301.out) | exact HB.out)) hb); clear BK301; clear HB; have BK301 := n0_; have HB := n1_; clear n0_ n1_; (try clear hb); (try clear hb2); (try clear hk); (try clear hi); have hcz11_0 : w10.cell? ⟨gb301, 0, none⟩ = some (.string a1_0) := (blk_cell BK301.out 0).trans rfl; have hcz11_1 : w10.cell? ⟨gb301, 1, none⟩ = some (.int .i8 a1_1) := (blk_cell BK301.out 1).trans rfl; have hcz11_2 : w10.cell? ⟨gb301, 2, none⟩ = some (.string a1_2) := (blk_cell BK301.out 2).trans rfl; have hcz11_3 : w10.cell? ⟨gb301, 3, none⟩ = some (.string a1_3) := (blk_cell BK301.out 3).trans rfl; have hcz11_4 : w10.cell? ⟨gb301, 4, none⟩ = some (.int .i64 a1_4) := (blk_cell BK301.out 4).trans rfl; have hcz11_5 : w10.cell? ⟨gb301, 5, none⟩ = some (.int .i64 a1_5) := (blk_cell BK301.out 5).trans rfl; have hfz11_0 := blk_frozen BK301.out 0; have hfz11_1 := blk_frozen BK301.out 1; have hfz11_2 := blk_frozen BK301.out 2; have hfz11_3 := blk_frozen BK301.out 3; have hfz11_4 := blk_frozen BK301.out 4; have hfz11_5 := blk_frozen BK301.out 5) | ((with_reducible refine gate_callee (f := 29) rfl ?_); refine goesL_ (some 23) rfl rfl Try.func29 (by kernel_rfl) rfl #[.agg #[.string a1_0, .int .i8 a1_1, .string a1_2, .string a1_3, .int .i64 a1_4, .int .i64 a1_5], .int .i64 t302] rfl (by (try simp only [List.map_toArray, List.map_cons, List.map_nil]); first | done | rfl | (simp only [List.length_drop, List.length_take]; rfl)) ?_; (with_reducible refine (laws_szLine.calls a1_0 a1_1 a1_2 a1_3 a1_4 a1_5 t302 t303 _ A7.out).mono ?_); rintro e w12 ⟨rfl, hb⟩; refine ⟨_, rfl, ?_⟩; have n0_ := Aside0.mk (blk_below (g := gb301) (o := .cells #[.string a1_0, .int .i8 a1_1, .string a1_2, .string a1_3, .int .i64 a1_4, .int .i64 a1_5] 42 (0, 0)) (by (with_reducible repeat (first | refine blk_drewN ?_ _ | refine blk_drew ?_ | refine blk_alloc ?_ _)); exact BK301.out) hb); have n1_ := Aside0.mk (below_step (by repeat (first | (with_reducible first | exact HB.out | apply below_alloc | apply pw_below_drewN | apply below_drew1 | refine below_set ?_ GE301.out) | exact HB.out)) hb); clear BK301; clear HB; have BK301 := n0_; have HB := n1_; clear n0_ n1_; (try clear hb); (try clear hb2); (try clear hk); (try clear hi)))
   go_ret
   exact ⟨by first | rfl | (simp [errW_none, errW_some] <;> rfl) | (simp [*, errW_none, errW_some] <;> rfl), by repeat (first | (with_reducible first | exact HB.out | apply below_alloc | apply pw_below_drewN | apply below_drew1 | refine below_set ?_ GE301.out) | exact HB.out)⟩
  ·
   rw [if_neg c8] at H
   have c8b0 : decide (t303 < 0) = false := decide_eq_false c8
   clear c8
   replace H := Option.bind_eq_some_iff.mp H
   obtain ⟨t304, A130, H⟩ := H
   replace H : ((laws_toLine.f a1_0 a1_1 a1_2 a1_3 a1_4 a1_5).bind fun bt307 => ((spec_WriteLine.f k t304 bt307.1 bt307.2.1 bt307.2.2.1 bt307.2.2.2.1 bt307.2.2.2.2.1 bt307.2.2.2.2.2).bind fun bt313 => ((laws_toLineS.f k l0).bind fun t317 => ((laws_toLine.f a1_0 a1_1 a1_2 a1_3 a1_4 a1_5).bind fun bt320 => ((impl_WriteLine.f k t317 bt320.1 bt320.2.1 bt320.2.2.1 bt320.2.2.2.1 bt320.2.2.2.2.1 bt320.2.2.2.2.2).bind fun bt326 => ((laws_eqLineS.f k bt326.1 bt313.1).bind fun t330 => (if t330 = true then (laws_FnExactWriteLine.j0 k l0 bt313.1 bt313.2 t317 bt326.1 bt326.2 (bt326.2 != bt313.2) a1_0 a1_1 a1_2 a1_3 a1_4 a1_5) else (laws_FnExactWriteLine.j0 k l0 bt313.1 bt313.2 t317 bt326.1 bt326.2 true a1_0 a1_1 a1_2 a1_3 a1_4 a1_5)))))))) = some true := H
   have A13 := Aside0.mk A130
   clear A130
   replace H := Option.bind_eq_some_iff.mp H
   obtain ⟨⟨t307, t308, t309, t310, t311, t312⟩, A140, H⟩ := H
   replace H : ((spec_WriteLine.f k t304 t307 t308 t309 t310 t311 t312).bind fun bt313 => ((laws_toLineS.f k l0).bind fun t317 => ((laws_toLine.f a1_0 a1_1 a1_2 a1_3 a1_4 a1_5).bind fun bt320 => ((impl_WriteLine.f k t317 bt320.1 bt320.2.1 bt320.2.2.1 bt320.2.2.2.1 bt320.2.2.2.2.1 bt320.2.2.2.2.2).bind fun bt326 => ((laws_eqLineS.f k bt326.1 bt313.1).bind fun t330 => (if t330 = true then (laws_FnExactWriteLine.j0 k l0 bt313.1 bt313.2 t317 bt326.1 bt326.2 (bt326.2 != bt313.2) a1_0 a1_1 a1_2 a1_3 a1_4 a1_5) else (laws_FnExactWriteLine.j0 k l0 bt313.1 bt313.2 t317 bt326.1 bt326.2 true a1_0 a1_1 a1_2 a1_3 a1_4 a1_5))))))) = some true := H
   have A14 := Aside0.mk A140
   clear A140
   replace H := Option.bind_eq_some_iff.mp H
   obtain ⟨⟨t313, t316⟩, A150, H⟩ := H
   replace H : ((laws_toLineS.f k l0).bind fun t317 => ((laws_toLine.f a1_0 a1_1 a1_2 a1_3 a1_4 a1_5).bind fun bt320 => ((impl_WriteLine.f k t317 bt320.1 bt320.2.1 bt320.2.2.1 bt320.2.2.2.1 bt320.2.2.2.2.1 bt320.2.2.2.2.2).bind fun bt326 => ((laws_eqLineS.f k bt326.1 t313).bind fun t330 => (if t330 = true then (laws_FnExactWriteLine.j0 k l0 t313 t316 t317 bt326.1 bt326.2 (bt326.2 != t316) a1_0 a1_1 a1_2 a1_3 a1_4 a1_5) else (laws_FnExactWriteLine.j0 k l0 t313 t316 t317 bt326.1 bt326.2 true a1_0 a1_1 a1_2 a1_3 a1_4 a1_5)))))) = some true := H
   have A15 := Aside0.mk A150
   clear A150
   replace H := Option.bind_eq_some_iff.mp H
   obtain ⟨t317, A160, H⟩ := H
   replace H : ((laws_toLine.f a1_0 a1_1 a1_2 a1_3 a1_4 a1_5).bind fun bt320 => ((impl_WriteLine.f k t317 bt320.1 bt320.2.1 bt320.2.2.1 bt320.2.2.2.1 bt320.2.2.2.2.1 bt320.2.2.2.2.2).bind fun bt326 => ((laws_eqLineS.f k bt326.1 t313).bind fun t330 => (if t330 = true then (laws_FnExactWriteLine.j0 k l0 t313 t316 t317 bt326.1 bt326.2 (bt326.2 != t316) a1_0 a1_1 a1_2 a1_3 a1_4 a1_5) else (laws_FnExactWriteLine.j0 k l0 t313 t316 t317 bt326.1 bt326.2 true a1_0 a1_1 a1_2 a1_3 a1_4 a1_5))))) = some true := H
   have A16 := Aside0.mk A160
   clear A160
   replace H := Option.bind_eq_some_iff.mp H
   obtain ⟨⟨t320, t321, t322, t323, t324, t325⟩, A170, H⟩ := H
   replace H : ((impl_WriteLine.f k t317 t320 t321 t322 t323 t324 t325).bind fun bt326 => ((laws_eqLineS.f k bt326.1 t313).bind fun t330 => (if t330 = true then (laws_FnExactWriteLine.j0 k l0 t313 t316 t317 bt326.1 bt326.2 (bt326.2 != t316) a1_0 a1_1 a1_2 a1_3 a1_4 a1_5) else (laws_FnExactWriteLine.j0 k l0 t313 t316 t317 bt326.1 bt326.2 true a1_0 a1_1 a1_2 a1_3 a1_4 a1_5)))) = some true := H
   have A17 := Aside0.mk A170
   clear A170
   replace H := Option.bind_eq_some_iff.mp H
   obtain ⟨⟨t326, t329⟩, A180, H⟩ := H
   replace H : ((laws_eqLineS.f k t326 t313).bind fun t330 => (if t330 = true then (laws_FnExactWriteLine.j0 k l0 t313 t316 t317 t326 t329 (t329 != t316) a1_0 a1_1 a1_2 a1_3 a1_4 a1_5) else (laws_FnExactWriteLine.j0 k l0 t313 t316 t317 t326 t329 true a1_0 a1_1 a1_2 a1_3 a1_4 a1_5))) = some true := H
   have A18 := Aside0.mk A180
   clear A180
   have HC19 := Aside0.mk H
   clear H
   go_enter Try.func6, Try.ntmps6
   try go_wp2_with (first | ((with_reducible refine gate_dst (N := 3) rfl ?_); refine box_event ?hg (N := 3) ?hd (cs := #[.string a1_0, .int .i8 a1_1, .string a1_2, .string a1_3, .int .i64 a1_4, .int .i64 a1_5]) (t := 42) ?hr ?_; (case hd => rfl); (case hg => rfl); (case hr => first | (go_simp; done) | (go_simp; rfl)); intro gb301 hg w20 hbox hb; have n0_ := Aside0.mk (below_step (by repeat (first | (with_reducible first | exact HB.out | apply below_alloc | apply pw_below_drewN | apply below_drew1) | exact HB.out)) hb); have n1_ := Aside0.mk (hbox); have n2_ := Aside0.mk ((by rw [hg]; exact (below_size (by repeat (first | (with_reducible first | exact HB.out | apply below_alloc | apply pw_below_drewN | apply below_drew1) | exact HB.out))) : w.heap.size ≤ gb301)); have n3_ := Aside0.mk ((by rw [hg]; exact (below_size (by repeat (first | (with_reducible first | exact HB.out | apply below_alloc | apply pw_below_drewN | apply below_drew1) | exact HB.out))) : w.heap.size ≤ gb301)); clear HB; have HB := n0_; have BK301 := n1_; have GW301 := n2_; have GE301 := n3_; clear n0_ n1_ n2_ n3_; clear hb hbox hg) | ((with_reducible refine gate_callee (f := 14) rfl ?_); refine goesL_ (some 18) rfl rfl Try.func14 (by kernel_rfl) rfl #[.slice A0 l0.length c0, .int .i64 1048576] rfl (by (try simp only [List.map_toArray, List.map_cons, List.map_nil]); first | done | rfl | (simp only [List.length_drop, List.length_take]; rfl)) ?_; (with_reducible refine (laws_szLineS.calls k _ _ l0 1048576 t302 _ ?side1 ?side2 A3.out).mono ?_); (case side1 => repeat (first | exact (Kd.C_below HR0.out HB.out) | (with_reducible refine Kd.C_alloc ?_ _) | (with_reducible refine Kd.C_drewN ?_ _) | (with_reducible refine Kd.C_drew ?_))); (case side2 => exact HC0.out); rintro e w21 ⟨rfl, hb⟩; refine ⟨_, rfl, ?_⟩; have n0_ := Aside0.mk (blk_below (g := gb301) (o := .cells #[.string a1_0, .int .i8 a1_1, .string a1_2, .string a1_3, .int .i64 a1_4, .int .i64 a1_5] 42 (0, 0)) (by (with_reducible repeat (first | refine blk_drewN ?_ _ | refine blk_drew ?_ | refine blk_alloc ?_ _)); exact BK301.out) hb); have n1_ := Aside0.mk (below_step (by repeat (first | (with_reducible first | exact HB.out | apply below_alloc | apply pw_below_drewN | apply below_drew1 | refine below_set ?_ GE301.out) | exact HB.out)) hb); clear BK301; clear HB; have BK301 := n0_; have HB := n1_; clear n0_ n1_; (try clear hb); (try clear hb2); (try clear hk); (try clear hi); have hcz22_0 : w21.cell? ⟨gb301, 0, none⟩ = some (.string a1_0) := (blk_cell BK301.out 0).trans rfl; have hcz22_1 : w21.cell? ⟨gb301, 1, none⟩ = some (.int .i8 a1_1) := (blk_cell BK301.out 1).trans rfl; have hcz22_2 : w21.cell? ⟨gb301, 2, none⟩ = some (.string a1_2) := (blk_cell BK301.out 2).trans rfl; have hcz22_3 : w21.cell? ⟨gb301, 3, none⟩ = some (.string a1_3) := (blk_cell BK301.out 3).trans rfl; have hcz22_4 : w21.cell? ⟨gb301, 4, none⟩ = some (.int .i64 a1_4) := (blk_cell BK301.out 4).trans rfl; have hcz22_5 : w21.cell? ⟨gb301, 5, none⟩ = some (.int .i64 a1_5) := (blk_cell BK301.out 5).trans rfl; have hfz22_0 := blk_frozen BK301.out 0; have hfz22_1 := blk_frozen BK301.out 1; have hfz22_2 := blk_frozen BK301.out 2; have hfz22_3 := blk_frozen BK301.out 3; have hfz22_4 := blk_frozen BK301.out 4; have hfz22_5 := blk_frozen BK301.out 5) | ((with_reducible refine gate_callee (f := 29) rfl ?_); refine goesL_ (some 23) rfl rfl Try.func29 (by kernel_rfl) rfl #[.agg #[.string a1_0, .int .i8 a1_1, .string a1_2, .string a1_3, .int .i64 a1_4, .int .i64 a1_5], .int .i64 t302] rfl (by (try simp only [List.map_toArray, List.map_cons, List.map_nil]); first | done | rfl | (simp only [List.length_drop, List.length_take]; rfl)) ?_; (with_reducible refine (laws_szLine.calls a1_0 a1_1 a1_2 a1_3 a1_4 a1_5 t302 t303 _ A7.out).mono ?_); rintro e w23 ⟨rfl, hb⟩; refine ⟨_, rfl, ?_⟩; have n0_ := Aside0.mk (blk_below (g := gb301) (o := .cells #[.string a1_0, .int .i8 a1_1, .string a1_2, .string a1_3, .int .i64 a1_4, .int .i64 a1_5] 42 (0, 0)) (by (with_reducible repeat (first | refine blk_drewN ?_ _ | refine blk_drew ?_ | refine blk_alloc ?_ _)); exact BK301.out) hb); have n1_ := Aside0.mk (below_step (by repeat (first | (with_reducible first | exact HB.out | apply below_alloc | apply pw_below_drewN | apply below_drew1 | refine below_set ?_ GE301.out) | exact HB.out)) hb); clear BK301; clear HB; have BK301 := n0_; have HB := n1_; clear n0_ n1_; (try clear hb); (try clear hb2); (try clear hk); (try clear hi)))
   have n0_ := Aside0.mk (blk_drew BK301.out)
   have n1_ := Aside0.mk (below_drew1 HB.out)
   clear BK301
   clear HB
   have BK301 := n0_
   have HB := n1_
   clear n0_ n1_
   refine start_ (n := 10) (S := fun w' => w'.cell? ⟨gb301, 0, none⟩ = some (.string a1_0) ∧ w'.cell? ⟨gb301, 1, none⟩ = some (.int .i8 a1_1) ∧ w'.cell? ⟨gb301, 2, none⟩ = some (.string a1_2) ∧ w'.cell? ⟨gb301, 3, none⟩ = some (.string a1_3) ∧ w'.cell? ⟨gb301, 4, none⟩ = some (.int .i64 a1_4) ∧ w'.cell? ⟨gb301, 5, none⟩ = some (.int .i64 a1_5)) (ds := []) #[false, false, false, false, false, false, false, false, false, false] (by kernel_rfl) rfl rfl ⟨(blk_cell BK301.out 0).trans rfl, (blk_cell BK301.out 1).trans rfl, (blk_cell BK301.out 2).trans rfl, (blk_cell BK301.out 3).trans rfl, (blk_cell BK301.out 4).trans rfl, (blk_cell BK301.out 5).trans rfl⟩ (fun hHeld => ?_); refine with_tabW laws_FnExactWriteLine.tab8 laws_FnExactWriteLine.bits8 (fun HT_ HW_ => ?_)
   generalize w23.drew = w24 at BK301 HB hHeld ⊢
   refine pure_ (i := 0) (N := some 27) (v := ?_) (a' := ?_) #[true, false, false, false, false, false, false, false, false, false] rfl rfl (any_of HT_.out (by kernel_rfl)) (fun _ _ _ h => h) (Or.inl ⟨by rfl, ?_⟩) ?_ ?_
   rotate_left
   ·
    intro w'
    go_simp
    with_reducible rfl
   rotate_left
   ·
    simp only [Act.put, sA_, sB_, sC_, i64_w, i32_w]
    rfl
   refine take_ (i := 2) (N := some 29) (v := ?_) (a' := ?_) #[true, false, true, false, false, false, false, false, false, false] rfl rfl (take_ofW HT_.out HW_.out (by kernel_rfl)) (fun _ _ _ h => h) (Or.inl ⟨by rfl, ?_⟩) hHeld ?_ ?_
   rotate_left
   ·
    rintro w' ⟨s0, s1, s2, s3, s4, s5⟩
    go_simp
    with_reducible rfl
   rotate_left
   ·
    simp only [Act.put, sA_, sB_, sC_, i64_w, i32_w]
    rfl
   refine one_ (i := 1) (N := some 28) #[true, true, true, false, false, false, false, false, false, false] rfl rfl (one_of HT_.out (by kernel_rfl)) (by decide) (fun K hK => ?_)
   refine goes_ Try.func16 (by kernel_rfl) rfl #[.slice A0 l0.length c0] (by rfl) rfl rfl (by (try simp only [List.map_toArray, List.map_cons, List.map_nil]); first | done | rfl | (simp only [List.length_drop, List.length_take]; rfl)) ?_
   with_reducible refine (laws_toLineS.calls k _ _ l0 t304 _ ?side1 ?side2 A13.out).mono ?_
   (case side1 => repeat (first | exact (Kd.C_below HR0.out HB.out) | (with_reducible refine Kd.C_alloc ?_ _) | (with_reducible refine Kd.C_drewN ?_ _) | (with_reducible refine Kd.C_drew ?_)))
   (case side2 => exact HC0.out)
   rintro e w25 ⟨v305, rfl, ho0, hb⟩
   refine ⟨_, rfl, ?_⟩
   have n0_ := Aside0.mk (Kd.R_lower ho0 (below_size (by repeat (first | (with_reducible first | exact HB.out | apply below_alloc | apply pw_below_drewN | apply below_drew1 | refine below_set ?_ GE301.out) | exact HB.out))))
   have n1_ := Aside0.mk (blk_below (g := gb301) (o := .cells #[.string a1_0, .int .i8 a1_1, .string a1_2, .string a1_3, .int .i64 a1_4, .int .i64 a1_5] 42 (0, 0)) (by (with_reducible repeat (first | refine blk_drewN ?_ _ | refine blk_drew ?_ | refine blk_alloc ?_ _)); exact BK301.out) hb)
   have n2_ := Aside0.mk (below_step (by repeat (first | (with_reducible first | exact HB.out | apply below_alloc | apply pw_below_drewN | apply below_drew1 | refine below_set ?_ GE301.out) | exact HB.out)) hb)
   clear BK301
   clear HB
   have HO306 := n0_
   have BK301 := n1_
   have HB := n2_
   clear n0_ n1_ n2_
   (try clear hb)
   (try clear hb2)
   (try clear hk)
   (try clear hi)
   (try clear ho0)
   refine hK.out _ _ ⟨(blk_cell BK301.out 0).trans rfl, (blk_cell BK301.out 1).trans rfl, (blk_cell BK301.out 2).trans rfl, (blk_cell BK301.out 3).trans rfl, (blk_cell BK301.out 4).trans rfl, (blk_cell BK301.out 5).trans rfl⟩ (fun hHeld => ?_)
   clear hK K
   refine norm_ (a' := ?_) ?_ ?_
   rotate_left
   ·
    show Act.put _ (some 28) _ = _
    simp only [Act.put, sA_, sB_, sC_, i64_w, i32_w]
    rfl
   refine one_ (i := 3) (N := some 30) #[true, true, true, true, false, false, false, false, false, false] rfl rfl (one_of HT_.out (by kernel_rfl)) (by decide) (fun K hK => ?_)
   refine goes_ Try.func31 (by kernel_rfl) rfl #[.agg #[.string a1_0, .int .i8 a1_1, .string a1_2, .string a1_3, .int .i64 a1_4, .int .i64 a1_5]] (by rfl) rfl rfl (by (try simp only [List.map_toArray, List.map_cons, List.map_nil]); first | done | rfl | (simp only [List.length_drop, List.length_take]; rfl)) ?_
   with_reducible refine (laws_toLine.calls a1_0 a1_1 a1_2 a1_3 a1_4 a1_5 t307 t308 t309 t310 t311 t312 _ A14.out).mono ?_
   rintro e w26 ⟨rfl, hb⟩
   refine ⟨_, rfl, ?_⟩
   have n0_ := Aside0.mk (Kd.R_below (by (with_reducible repeat (first | apply Kd.R_alloc | apply Kd.R_drewN | apply Kd.R_drew)); exact HO306.out) hb)
   have n1_ := Aside0.mk (blk_below (g := gb301) (o := .cells #[.string a1_0, .int .i8 a1_1, .string a1_2, .string a1_3, .int .i64 a1_4, .int .i64 a1_5] 42 (0, 0)) (by (with_reducible repeat (first | refine blk_drewN ?_ _ | refine blk_drew ?_ | refine blk_alloc ?_ _)); exact BK301.out) hb)
   have n2_ := Aside0.mk (below_step (by repeat (first | (with_reducible first | exact HB.out | apply below_alloc | apply pw_below_drewN | apply below_drew1 | refine below_set ?_ GE301.out) | exact HB.out)) hb)
   clear HO306
   clear BK301
   clear HB
   have HO306 := n0_
   have BK301 := n1_
   have HB := n2_
   clear n0_ n1_ n2_
   (try clear hb)
   (try clear hb2)
   (try clear hk)
   (try clear hi)
   obtain ⟨Ao27, co27, eo27⟩ := Kd.R_slice HO306.out
   (first | subst eo27 | (injection eo27 with f1_ f2_ f3_; have f4_ := f1_.symm; have f5_ := f3_.symm; clear f1_ f2_ f3_; subst f4_; subst f5_))
   refine hK.out _ _ ⟨(blk_cell BK301.out 0).trans rfl, (blk_cell BK301.out 1).trans rfl, (blk_cell BK301.out 2).trans rfl, (blk_cell BK301.out 3).trans rfl, (blk_cell BK301.out 4).trans rfl, (blk_cell BK301.out 5).trans rfl⟩ (fun hHeld => ?_)
   clear hK K
   refine norm_ (a' := ?_) ?_ ?_
   rotate_left
   ·
    show Act.put _ (some 30) _ = _
    simp only [Act.put, sA_, sB_, sC_, i64_w, i32_w]
    rfl
   refine one_ (i := 4) (N := some 31) #[true, true, true, true, true, false, false, false, false, false] rfl rfl (one_of HT_.out (by kernel_rfl)) (by decide) (fun K hK => ?_)
   refine goes_ Try.func30 (by kernel_rfl) rfl #[.slice Ao27 t304.length co27, .agg #[.string t307, .int .i8 t308, .string t309, .string t310, .int .i64 t311, .int .i64 t312]] (by rfl) rfl rfl (by (try simp only [List.map_toArray, List.map_cons, List.map_nil]); first | done | rfl | (simp only [List.length_drop, List.length_take]; rfl)) ?_
   with_reducible refine (spec_WriteLine.calls k _ _ t304 t307 t308 t309 t310 t311 t312 t313 t316 _ ?side1 ?side2 A15.out).mono ?_
   (case side1 => repeat (first | exact (Kd.R_reads' HO306.out).2.2 | (with_reducible refine Kd.C_alloc ?_ _) | (with_reducible refine Kd.C_drewN ?_ _) | (with_reducible refine Kd.C_drew ?_)))
   (case side2 => exact (Kd.R_reads' HO306.out).2.1)
   rintro e w28 ⟨v314, rfl, ho0, hb⟩
   refine ⟨_, rfl, ?_⟩
   have n0_ := Aside0.mk (Kd.R_elder' (by (with_reducible repeat (first | apply Kd.R_alloc | apply Kd.R_drewN | apply Kd.R_drew)); exact HO306.out) (Kd.R_base ho0) hb)
   have n1_ := Aside0.mk (Kd.R_lower (Kd.R_new' ho0 (Kd.R_lt (by (with_reducible repeat (first | apply Kd.R_alloc | apply Kd.R_drewN | apply Kd.R_drew)); exact HO306.out))) (below_size (by repeat (first | (with_reducible first | exact HB.out | apply below_alloc | apply pw_below_drewN | apply below_drew1 | refine below_set ?_ GE301.out) | exact HB.out))))
   have n2_ := Aside0.mk (blk_below (g := gb301) (o := .cells #[.string a1_0, .int .i8 a1_1, .string a1_2, .string a1_3, .int .i64 a1_4, .int .i64 a1_5] 42 (0, 0)) (by (with_reducible repeat (first | refine blk_drewN ?_ _ | refine blk_drew ?_ | refine blk_alloc ?_ _)); exact BK301.out) hb)
   have n3_ := Aside0.mk (below_step (by repeat (first | (with_reducible first | exact HB.out | apply below_alloc | apply pw_below_drewN | apply below_drew1 | refine below_set ?_ GE301.out) | exact HB.out)) hb)
   clear HO306
   clear BK301
   clear HB
   have HO306 := n0_
   have HO315 := n1_
   have BK301 := n2_
   have HB := n3_
   clear n0_ n1_ n2_ n3_
   (try clear hb)
   (try clear hb2)
   (try clear hk)
   (try clear hi)
   (try clear ho0)
   refine hK.out _ _ ⟨(blk_cell BK301.out 0).trans rfl, (blk_cell BK301.out 1).trans rfl, (blk_cell BK301.out 2).trans rfl, (blk_cell BK301.out 3).trans rfl, (blk_cell BK301.out 4).trans rfl, (blk_cell BK301.out 5).trans rfl⟩ (fun hHeld => ?_)
   clear hK K
   refine norm_ (a' := ?_) ?_ ?_
   rotate_left
   ·
    show Act.put _ (some 31) _ = _
    simp only [Act.put, sA_, sB_, sC_, i64_w, i32_w]
    rfl
   refine pure_ (i := 5) (N := some 26) (v := ?_) (a' := ?_) #[true, true, true, true, true, true, false, false, false, false] rfl rfl (any_of HT_.out (by kernel_rfl)) (fun _ _ _ h => h) (Or.inl ⟨by rfl, ?_⟩) ?_ ?_
   rotate_left
   ·
    intro w'
    go_simp
    with_reducible rfl
   rotate_left
   ·
    simp only [Act.put, sA_, sB_, sC_, i64_w, i32_w]
    rfl
   refine pure_ (i := 6) (N := some 32) (v := ?_) (a' := ?_) #[true, true, true, true, true, true, true, false, false, false] rfl rfl (any_of HT_.out (by kernel_rfl)) (fun _ _ _ h => h) (Or.inl ⟨by rfl, ?_⟩) ?_ ?_
   rotate_left
   ·
    intro w'
    go_simp
    with_reducible rfl
   rotate_left
   ·
    simp only [Act.put, sA_, sB_, sC_, i64_w, i32_w]
    rfl
   refine pure_ (i := 7) (N := some 33) (v := ?_) (a' := ?_) #[true, true, true, true, true, true, true, true, false, false] rfl rfl (any_of HT_.out (by kernel_rfl)) (fun _ _ _ h => h) (Or.inl ⟨by rfl, ?_⟩) ?_ ?_
   rotate_left
   ·
    intro w'
    go_simp
    with_reducible rfl
   rotate_left
   ·
    simp only [Act.put, sA_, sB_, sC_, i64_w, i32_w]
    rfl
   refine pure_ (i := 8) (N := some 6) (v := ?_) (a' := ?_) #[true, true, true, true, true, true, true, true, true, false] rfl rfl (any_of HT_.out (by kernel_rfl)) (fun _ _ _ h => h) (Or.inl ⟨by rfl, ?_⟩) ?_ ?_
   rotate_left
   ·
    intro w'
    go_simp
    with_reducible rfl
   rotate_left
   ·
    simp only [Act.put, sA_, sB_, sC_, i64_w, i32_w]
    rfl
   refine pure_ (i := 9) (N := some 7) (v := ?_) (a' := ?_) #[true, true, true, true, true, true, true, true, true, true] rfl rfl (any_of HT_.out (by kernel_rfl)) (fun _ _ _ h => h) (Or.inl ⟨by rfl, ?_⟩) ?_ ?_
   rotate_left
   ·
    intro w'
    go_simp
    with_reducible rfl
   rotate_left
   ·
    simp only [Act.put, sA_, sB_, sC_, i64_w, i32_w]
    rfl
   refine done_ (done_of HT_.out (by kernel_rfl)) ?_
   go_upto_region 11 with (first | ((with_reducible refine gate_callee (f := 16) rfl ?_); refine goesL_ (some 35) rfl rfl Try.func16 (by kernel_rfl) rfl #[.slice A0 l0.length c0] rfl (by (try simp only [List.map_toArray, List.map_cons, List.map_nil]); first | done | rfl | (simp only [List.length_drop, List.length_take]; rfl)) ?_; (with_reducible refine (laws_toLineS.calls k _ _ l0 t317 _ ?side1 ?side2 A16.out).mono ?_); (case side1 => repeat (first | exact (Kd.C_below HR0.out HB.out) | (with_reducible refine Kd.C_alloc ?_ _) | (with_reducible refine Kd.C_drewN ?_ _) | (with_reducible refine Kd.C_drew ?_))); (case side2 => exact HC0.out); rintro e w29 ⟨v318, rfl, ho0, hb⟩; refine ⟨_, rfl, ?_⟩; have n0_ := Aside0.mk (Kd.R_elder' (by (with_reducible repeat (first | apply Kd.R_alloc | apply Kd.R_drewN | apply Kd.R_drew)); exact HO306.out) (Kd.R_base ho0) hb); have n1_ := Aside0.mk (Kd.R_elder' (by (with_reducible repeat (first | apply Kd.R_alloc | apply Kd.R_drewN | apply Kd.R_drew)); exact HO315.out) (Kd.R_base ho0) hb); have n2_ := Aside0.mk (Kd.R_lower (Kd.R_new' (Kd.R_new' ho0 (Kd.R_lt (by (with_reducible repeat (first | apply Kd.R_alloc | apply Kd.R_drewN | apply Kd.R_drew)); exact HO306.out))) (Kd.R_lt (by (with_reducible repeat (first | apply Kd.R_alloc | apply Kd.R_drewN | apply Kd.R_drew)); exact HO315.out))) (below_size (by repeat (first | (with_reducible first | exact HB.out | apply below_alloc | apply pw_below_drewN | apply below_drew1 | refine below_set ?_ GE301.out) | exact HB.out)))); have n3_ := Aside0.mk (blk_below (g := gb301) (o := .cells #[.string a1_0, .int .i8 a1_1, .string a1_2, .string a1_3, .int .i64 a1_4, .int .i64 a1_5] 42 (0, 0)) (by (with_reducible repeat (first | refine blk_drewN ?_ _ | refine blk_drew ?_ | refine blk_alloc ?_ _)); exact BK301.out) hb); have n4_ := Aside0.mk (below_step (by repeat (first | (with_reducible first | exact HB.out | apply below_alloc | apply pw_below_drewN | apply below_drew1 | refine below_set ?_ GE301.out) | exact HB.out)) hb); clear HO306; clear HO315; clear BK301; clear HB; have HO306 := n0_; have HO315 := n1_; have HO319 := n2_; have BK301 := n3_; have HB := n4_; clear n0_ n1_ n2_ n3_ n4_; (try clear hb); (try clear hb2); (try clear hk); (try clear hi); (try clear ho0); have hcz30_0 : w29.cell? ⟨gb301, 0, none⟩ = some (.string a1_0) := (blk_cell BK301.out 0).trans rfl; have hcz30_1 : w29.cell? ⟨gb301, 1, none⟩ = some (.int .i8 a1_1) := (blk_cell BK301.out 1).trans rfl; have hcz30_2 : w29.cell? ⟨gb301, 2, none⟩ = some (.string a1_2) := (blk_cell BK301.out 2).trans rfl; have hcz30_3 : w29.cell? ⟨gb301, 3, none⟩ = some (.string a1_3) := (blk_cell BK301.out 3).trans rfl; have hcz30_4 : w29.cell? ⟨gb301, 4, none⟩ = some (.int .i64 a1_4) := (blk_cell BK301.out 4).trans rfl; have hcz30_5 : w29.cell? ⟨gb301, 5, none⟩ = some (.int .i64 a1_5) := (blk_cell BK301.out 5).trans rfl; have hfz30_0 := blk_frozen BK301.out 0; have hfz30_1 := blk_frozen BK301.out 1; have hfz30_2 := blk_frozen BK301.out 2; have hfz30_3 := blk_frozen BK301.out 3; have hfz30_4 := blk_frozen BK301.out 4; have hfz30_5 := blk_frozen BK301.out 5) | ((with_reducible refine gate_callee (f := 31) rfl ?_); refine goesL_ (some 39) rfl rfl Try.func31 (by kernel_rfl) rfl #[.agg #[.string a1_0, .int .i8 a1_1, .string a1_2, .string a1_3, .int .i64 a1_4, .int .i64 a1_5]] rfl (by (try simp only [List.map_toArray, List.map_cons, List.map_nil]); first | done | rfl | (simp only [List.length_drop, List.length_take]; rfl)) ?_; (with_reducible refine (laws_toLine.calls a1_0 a1_1 a1_2 a1_3 a1_4 a1_5 t320 t321 t322 t323 t324 t325 _ A17.out).mono ?_); rintro e w31 ⟨rfl, hb⟩; refine ⟨_, rfl, ?_⟩; have n0_ := Aside0.mk (Kd.R_below (by (with_reducible repeat (first | apply Kd.R_alloc | apply Kd.R_drewN | apply Kd.R_drew)); exact HO306.out) hb); have n1_ := Aside0.mk (Kd.R_below (by (with_reducible repeat (first | apply Kd.R_alloc | apply Kd.R_drewN | apply Kd.R_drew)); exact HO315.out) hb); have n2_ := Aside0.mk (Kd.R_below (by (with_reducible repeat (first | apply Kd.R_alloc | apply Kd.R_drewN | apply Kd.R_drew)); exact HO319.out) hb); have n3_ := Aside0.mk (blk_below (g := gb301) (o := .cells #[.string a1_0, .int .i8 a1_1, .string a1_2, .string a1_3, .int .i64 a1_4, .int .i64 a1_5] 42 (0, 0)) (by (with_reducible repeat (first | refine blk_drewN ?_ _ | refine blk_drew ?_ | refine blk_alloc ?_ _)); exact BK301.out) hb); have n4_ := Aside0.mk (below_step (by repeat (first | (with_reducible first | exact HB.out | apply below_alloc | apply pw_below_drewN | apply below_drew1 | refine below_set ?_ GE301.out) | exact HB.out)) hb); clear HO306; clear HO315; clear HO319; clear BK301; clear HB; have HO306 := n0_; have HO315 := n1_; have HO319 := n2_; have BK301 := n3_; have HB := n4_; clear n0_ n1_ n2_ n3_ n4_; (try clear hb); (try clear hb2); (try clear hk); (try clear hi); obtain ⟨Ao32, co32, eo32⟩ := Kd.R_slice HO319.out; subst eo32) | ((with_reducible refine gate_callee (f := 32) rfl ?_); refine goesL_ (some 40) rfl rfl Try.func32 (by kernel_rfl) rfl #[.slice Ao32 t317.length co32, .agg #[.string t320, .int .i8 t321, .string t322, .string t323, .int .i64 t324, .int .i64 t325]] rfl (by (try simp only [List.map_toArray, List.map_cons, List.map_nil]); first | done | rfl | (simp only [List.length_drop, List.length_take]; rfl)) ?_; (with_reducible refine (impl_WriteLine.calls k _ _ t317 t320 t321 t322 t323 t324 t325 t326 t329 _ ?side1 ?side2 A18.out).mono ?_); (case side1 => repeat (first | exact (Kd.R_reads' HO319.out).2.2 | (with_reducible refine Kd.C_alloc ?_ _) | (with_reducible refine Kd.C_drewN ?_ _) | (with_reducible refine Kd.C_drew ?_))); (case side2 => exact (Kd.R_reads' HO319.out).2.1); rintro e w33 ⟨v327, rfl, ho0, hb⟩; refine ⟨_, rfl, ?_⟩; have n0_ := Aside0.mk (Kd.R_elder' (by (with_reducible repeat (first | apply Kd.R_alloc | apply Kd.R_drewN | apply Kd.R_drew)); exact HO306.out) (Kd.R_base ho0) hb); have n1_ := Aside0.mk (Kd.R_elder' (by (with_reducible repeat (first | apply Kd.R_alloc | apply Kd.R_drewN | apply Kd.R_drew)); exact HO315.out) (Kd.R_base ho0) hb); have n2_ := Aside0.mk (Kd.R_elder' (by (with_reducible repeat (first | apply Kd.R_alloc | apply Kd.R_drewN | apply Kd.R_drew)); exact HO319.out) (Kd.R_base ho0) hb); have n3_ := Aside0.mk (Kd.R_lower (Kd.R_new' (Kd.R_new' (Kd.R_new' ho0 (Kd.R_lt (by (with_reducible repeat (first | apply Kd.R_alloc | apply Kd.R_drewN | apply Kd.R_drew)); exact HO306.out))) (Kd.R_lt (by (with_reducible repeat (first | apply Kd.R_alloc | apply Kd.R_drewN | apply Kd.R_drew)); exact HO315.out))) (Kd.R_lt (by (with_reducible repeat (first | apply Kd.R_alloc | apply Kd.R_drewN | apply Kd.R_drew)); exact HO319.out))) (below_size (by repeat (first | (with_reducible first | exact HB.out | apply below_alloc | apply pw_below_drewN | apply below_drew1 | refine below_set ?_ GE301.out) | exact HB.out)))); have n4_ := Aside0.mk (blk_below (g := gb301) (o := .cells #[.string a1_0, .int .i8 a1_1, .string a1_2, .string a1_3, .int .i64 a1_4, .int .i64 a1_5] 42 (0, 0)) (by (with_reducible repeat (first | refine blk_drewN ?_ _ | refine blk_drew ?_ | refine blk_alloc ?_ _)); exact BK301.out) hb); have n5_ := Aside0.mk (below_step (by repeat (first | (with_reducible first | exact HB.out | apply below_alloc | apply pw_below_drewN | apply below_drew1 | refine below_set ?_ GE301.out) | exact HB.out)) hb); clear HO306; clear HO315; clear HO319; clear BK301; clear HB; have HO306 := n0_; have HO315 := n1_; have HO319 := n2_; have HO328 := n3_; have BK301 := n4_; have HB := n5_; clear n0_ n1_ n2_ n3_ n4_ n5_; (try clear hb); (try clear hb2); (try clear hk); (try clear hi); (try clear ho0)))
   (try simp only [Act.put, sA_, sB_, sC_])
   go_cut [51] (fun v51 wc => ∃ (kq : Nat) (x51_18 : Bool), v51 = .bool x51_18 ∧ Aside0 (laws_FnExactWriteLine.j0 kq l0 t313 t316 t317 t326 t329 x51_18 a1_0 a1_1 a1_2 a1_3 a1_4 a1_5 = some true) ∧ Aside0 (kq ≤ k) ∧ Aside0 (Kd.R k45 45 wc w.heap.size (fun k_ => some k_ ≠ ((.slice Ao32 t317.length co32) : Value).ownBlock ∧ some k_ ≠ (v327 : Value).ownBlock) v314 t313) ∧ Aside0 (Kd.R k45 45 wc w.heap.size (fun k_ => some k_ ≠ (v314 : Value).ownBlock ∧ some k_ ≠ (v327 : Value).ownBlock) (.slice Ao32 t317.length co32) t317) ∧ Aside0 (Kd.R k45 45 wc w.heap.size (fun k_ => some k_ ≠ (v314 : Value).ownBlock ∧ some k_ ≠ ((.slice Ao32 t317.length co32) : Value).ownBlock) v327 t326) ∧ Aside0 (wc.heap[gb301]? = some (.cells #[.string a1_0, .int .i8 a1_1, .string a1_2, .string a1_3, .int .i64 a1_4, .int .i64 a1_5] 42 (0, 0))) ∧ Aside0 (Below w.heap.size w wc))
   case first =>
    have H := HC19.out
    clear HC19
    replace H := Option.bind_eq_some_iff.mp H
    obtain ⟨t330, A340, H⟩ := H
    replace H : (if t330 = true then (laws_FnExactWriteLine.j0 k l0 t313 t316 t317 t326 t329 (t329 != t316) a1_0 a1_1 a1_2 a1_3 a1_4 a1_5) else (laws_FnExactWriteLine.j0 k l0 t313 t316 t317 t326 t329 true a1_0 a1_1 a1_2 a1_3 a1_4 a1_5)) = some true := H
    have A34 := Aside0.mk A340
    clear A340
    by_cases c35 : t330 = true
    ·
     subst c35
     have H1 : (laws_FnExactWriteLine.j0 k l0 t313 t316 t317 t326 t329 (t329 != t316) a1_0 a1_1 a1_2 a1_3 a1_4 a1_5) = some true := by first | (rw [if_pos rfl] at H; exact H) | rfl
     clear H
     have H := H1
     clear H1
     have H' := Aside0.mk H
     clear H
     obtain ⟨Ao36, co36, eo36⟩ := Kd.R_slice HO328.out
     subst eo36
     obtain ⟨Ao37, co37, eo37⟩ := Kd.R_slice HO315.out
     subst eo37
     go_wp2_with (first | ((with_reducible refine gate_callee (f := 18) rfl ?_); refine goesL_ (some 45) rfl rfl Try.func18 (by kernel_rfl) rfl #[.slice Ao36 t326.length co36, .slice Ao37 t313.length co37] rfl (by (try simp only [List.map_toArray, List.map_cons, List.map_nil]); first | done | rfl | (simp only [List.length_drop, List.length_take]; rfl)) ?_; (with_reducible refine (laws_eqLineS.calls k _ _ t326 _ _ t313 true _ ?side1 ?side2 ?side3 ?side4 A34.out).mono ?_); (case side1 => repeat (first | exact (Kd.R_reads' HO328.out).2.2 | (with_reducible refine Kd.C_alloc ?_ _) | (with_reducible refine Kd.C_drewN ?_ _) | (with_reducible refine Kd.C_drew ?_))); (case side2 => exact (Kd.R_reads' HO328.out).2.1); (case side3 => repeat (first | exact (Kd.R_reads' HO315.out).2.2 | (with_reducible refine Kd.C_alloc ?_ _) | (with_reducible refine Kd.C_drewN ?_ _) | (with_reducible refine Kd.C_drew ?_))); (case side4 => exact (Kd.R_reads' HO315.out).2.1); rintro e w38 ⟨rfl, hb⟩; refine ⟨_, rfl, ?_⟩; have n0_ := Aside0.mk (Kd.R_below (by (with_reducible repeat (first | apply Kd.R_alloc | apply Kd.R_drewN | apply Kd.R_drew)); exact HO306.out) hb); have n1_ := Aside0.mk (Kd.R_below (by (with_reducible repeat (first | apply Kd.R_alloc | apply Kd.R_drewN | apply Kd.R_drew)); exact HO315.out) hb); have n2_ := Aside0.mk (Kd.R_below (by (with_reducible repeat (first | apply Kd.R_alloc | apply Kd.R_drewN | apply Kd.R_drew)); exact HO319.out) hb); have n3_ := Aside0.mk (Kd.R_below (by (with_reducible repeat (first | apply Kd.R_alloc | apply Kd.R_drewN | apply Kd.R_drew)); exact HO328.out) hb); have n4_ := Aside0.mk (blk_below (g := gb301) (o := .cells #[.string a1_0, .int .i8 a1_1, .string a1_2, .string a1_3, .int .i64 a1_4, .int .i64 a1_5] 42 (0, 0)) (by (with_reducible repeat (first | refine blk_drewN ?_ _ | refine blk_drew ?_ | refine blk_alloc ?_ _)); exact BK301.out) hb); have n5_ := Aside0.mk (below_step (by repeat (first | (with_reducible first | exact HB.out | apply below_alloc | apply pw_below_drewN | apply below_drew1 | refine below_set ?_ GE301.out) | exact HB.out)) hb); clear HO306; clear HO315; clear HO319; clear HO328; clear BK301; clear HB; have HO306 := n0_; have HO315 := n1_; have HO319 := n2_; have HO328 := n3_; have BK301 := n4_; have HB := n5_; clear n0_ n1_ n2_ n3_ n4_ n5_; (try clear hb); (try clear hb2); (try clear hk); (try clear hi)))
     go_meet
     case rel => exact ⟨_, ((t329 != t316)), (by first | rfl | (simp; done) | (simp [*]; done) | (simp [isE_]; done)), H', ⟨by first | omega | exact Nat.le_refl _⟩, ⟨by (with_reducible repeat (first | apply Kd.R_alloc | apply Kd.R_drewN | apply Kd.R_drew)); exact Kd.R_mono HO315.out (fun _ hk => ⟨hk.1.2, hk.2⟩)⟩, ⟨by (with_reducible repeat (first | apply Kd.R_alloc | apply Kd.R_drewN | apply Kd.R_drew)); exact Kd.R_mono HO319.out (fun _ hk => ⟨hk.1.2, hk.2⟩)⟩, ⟨by (with_reducible repeat (first | apply Kd.R_alloc | apply Kd.R_drewN | apply Kd.R_drew)); exact Kd.R_mono HO328.out (fun _ hk => ⟨hk.1.2, hk.2⟩)⟩, ⟨by (with_reducible repeat (first | refine blk_drewN ?_ _ | refine blk_drew ?_ | refine blk_alloc ?_ _)); exact BK301.out⟩, ⟨by repeat (first | (with_reducible first | exact HB.out | apply below_alloc | apply pw_below_drewN | apply below_drew1 | refine below_set ?_ GE301.out) | exact HB.out)⟩⟩
    ·
     replace c35 := Bool.eq_false_iff.mpr c35
     subst c35
     have H1 : (laws_FnExactWriteLine.j0 k l0 t313 t316 t317 t326 t329 true a1_0 a1_1 a1_2 a1_3 a1_4 a1_5) = some true := by first | (rw [if_neg (show ¬ (false = true) by decide)] at H; exact H) | rfl
     clear H
     have H := H1
     clear H1
     have H' := Aside0.mk H
     clear H
     obtain ⟨Ao39, co39, eo39⟩ := Kd.R_slice HO328.out
     subst eo39
     obtain ⟨Ao40, co40, eo40⟩ := Kd.R_slice HO315.out
     subst eo40
     go_wp2_with (first | ((with_reducible refine gate_callee (f := 18) rfl ?_); refine goesL_ (some 45) rfl rfl Try.func18 (by kernel_rfl) rfl #[.slice Ao39 t326.length co39, .slice Ao40 t313.length co40] rfl (by (try simp only [List.map_toArray, List.map_cons, List.map_nil]); first | done | rfl | (simp only [List.length_drop, List.length_take]; rfl)) ?_; (with_reducible refine (laws_eqLineS.calls k _ _ t326 _ _ t313 false _ ?side1 ?side2 ?side3 ?side4 A34.out).mono ?_); (case side1 => repeat (first | exact (Kd.R_reads' HO328.out).2.2 | (with_reducible refine Kd.C_alloc ?_ _) | (with_reducible refine Kd.C_drewN ?_ _) | (with_reducible refine Kd.C_drew ?_))); (case side2 => exact (Kd.R_reads' HO328.out).2.1); (case side3 => repeat (first | exact (Kd.R_reads' HO315.out).2.2 | (with_reducible refine Kd.C_alloc ?_ _) | (with_reducible refine Kd.C_drewN ?_ _) | (with_reducible refine Kd.C_drew ?_))); (case side4 => exact (Kd.R_reads' HO315.out).2.1); rintro e w41 ⟨rfl, hb⟩; refine ⟨_, rfl, ?_⟩; have n0_ := Aside0.mk (Kd.R_below (by (with_reducible repeat (first | apply Kd.R_alloc | apply Kd.R_drewN | apply Kd.R_drew)); exact HO306.out) hb); have n1_ := Aside0.mk (Kd.R_below (by (with_reducible repeat (first | apply Kd.R_alloc | apply Kd.R_drewN | apply Kd.R_drew)); exact HO315.out) hb); have n2_ := Aside0.mk (Kd.R_below (by (with_reducible repeat (first | apply Kd.R_alloc | apply Kd.R_drewN | apply Kd.R_drew)); exact HO319.out) hb); have n3_ := Aside0.mk (Kd.R_below (by (with_reducible repeat (first | apply Kd.R_alloc | apply Kd.R_drewN | apply Kd.R_drew)); exact HO328.out) hb); have n4_ := Aside0.mk (blk_below (g := gb301) (o := .cells #[.string a1_0, .int .i8 a1_1, .string a1_2, .string a1_3, .int .i64 a1_4, .int .i64 a1_5] 42 (0, 0)) (by (with_reducible repeat (first | refine blk_drewN ?_ _ | refine blk_drew ?_ | refine blk_alloc ?_ _)); exact BK301.out) hb); have n5_ := Aside0.mk (below_step (by repeat (first | (with_reducible first | exact HB.out | apply below_alloc | apply pw_below_drewN | apply below_drew1 | refine below_set ?_ GE301.out) | exact HB.out)) hb); clear HO306; clear HO315; clear HO319; clear HO328; clear BK301; clear HB; have HO306 := n0_; have HO315 := n1_; have HO319 := n2_; have HO328 := n3_; have BK301 := n4_; have HB := n5_; clear n0_ n1_ n2_ n3_ n4_ n5_; (try clear hb); (try clear hb2); (try clear hk); (try clear hi)))
     go_meet
     case rel => exact ⟨_, (true), (by first | rfl | (simp; done) | (simp [*]; done) | (simp [isE_]; done)), H', ⟨by first | omega | exact Nat.le_refl _⟩, ⟨by (with_reducible repeat (first | apply Kd.R_alloc | apply Kd.R_drewN | apply Kd.R_drew)); exact Kd.R_mono HO315.out (fun _ hk => ⟨hk.1.2, hk.2⟩)⟩, ⟨by (with_reducible repeat (first | apply Kd.R_alloc | apply Kd.R_drewN | apply Kd.R_drew)); exact Kd.R_mono HO319.out (fun _ hk => ⟨hk.1.2, hk.2⟩)⟩, ⟨by (with_reducible repeat (first | apply Kd.R_alloc | apply Kd.R_drewN | apply Kd.R_drew)); exact Kd.R_mono HO328.out (fun _ hk => ⟨hk.1.2, hk.2⟩)⟩, ⟨by (with_reducible repeat (first | refine blk_drewN ?_ _ | refine blk_drew ?_ | refine blk_alloc ?_ _)); exact BK301.out⟩, ⟨by repeat (first | (with_reducible first | exact HB.out | apply below_alloc | apply pw_below_drewN | apply below_drew1 | refine below_set ?_ GE301.out) | exact HB.out)⟩⟩
   case rest =>
    clear HC19
    try clear c1
    try clear c2
    try clear p2
    try clear c3
    try clear c4
    try clear c4b0
    try clear c6
    try clear c8
    try clear c8b0
    try clear c14
    try clear c16
    try clear c18
    try clear c29
    try clear c30
    try clear c31
    try clear c32
    try clear c35
    try clear hcz11_0
    try clear hcz11_1
    try clear hcz11_2
    try clear hcz11_3
    try clear hcz11_4
    try clear hcz11_5
    try clear hcz22_0
    try clear hcz22_1
    try clear hcz22_2
    try clear hcz22_3
    try clear hcz22_4
    try clear hcz22_5
    try clear hcz30_0
    try clear hcz30_1
    try clear hcz30_2
    try clear hcz30_3
    try clear hcz30_4
    try clear hcz30_5
    try clear hfz11_0
    try clear hfz11_1
    try clear hfz11_2
    try clear hfz11_3
    try clear hfz11_4
    try clear hfz11_5
    try clear hfz22_0
    try clear hfz22_1
    try clear hfz22_2
    try clear hfz22_3
    try clear hfz22_4
    try clear hfz22_5
    try clear hfz30_0
    try clear hfz30_1
    try clear hfz30_2
    try clear hfz30_3
    try clear hfz30_4
    try clear hfz30_5
    obtain ⟨kq, x51_18, rfl, HA, HJ18, HO_6, HO_8, HO_9, BK301, HB⟩ := hcut
    cases kq with
    | zero => exact absurd HA.out (by simp [laws_FnExactWriteLine.j0])
    | succ kj18 =>
     have H := HA.out
     clear HA
     simp only [laws_FnExactWriteLine.j0] at H
     by_cases c42 : x51_18 = true
     ·
      subst c42
      have H1 : (some false) = some true := by first | (rw [if_pos rfl] at H; exact H) | rfl
      clear H
      have H := H1
      clear H1
      exact absurd H (by decide)
     ·
      replace c42 := Bool.eq_false_iff.mpr c42
      subst c42
      have H1 : ((laws_toLineS.f kj18 l0).bind fun t331 => ((laws_eqLineS.f kj18 t317 t331).bind fun t334 => (if t334 = true then ((laws_markLineS.f kj18 t317 1).bind fun bt335 => (if bt335.1 < 0 then (laws_FnExactWriteLine.j1 kj18 l0 t313 t316 t326 true a1_0 a1_1 a1_2 a1_3 a1_4 a1_5) else ((laws_eqLineS.f kj18 t326 t313).bind fun t337 => (if t337 = true then (laws_FnExactWriteLine.j1 kj18 l0 t313 t316 t326 (t329 != t316) a1_0 a1_1 a1_2 a1_3 a1_4 a1_5) else (laws_FnExactWriteLine.j1 kj18 l0 t313 t316 t326 true a1_0 a1_1 a1_2 a1_3 a1_4 a1_5))))) else (some false)))) = some true := by first | (rw [if_neg (show ¬ (false = true) by decide)] at H; exact H) | rfl
      clear H
      have H := H1
      clear H1
      replace H := Option.bind_eq_some_iff.mp H
      obtain ⟨t331, A430, H⟩ := H
      replace H : ((laws_eqLineS.f kj18 t317 t331).bind fun t334 => (if t334 = true then ((laws_markLineS.f kj18 t317 1).bind fun bt335 => (if bt335.1 < 0 then (laws_FnExactWriteLine.j1 kj18 l0 t313 t316 t326 true a1_0 a1_1 a1_2 a1_3 a1_4 a1_5) else ((laws_eqLineS.f kj18 t326 t313).bind fun t337 => (if t337 = true then (laws_FnExactWriteLine.j1 kj18 l0 t313 t316 t326 (t329 != t316) a1_0 a1_1 a1_2 a1_3 a1_4 a1_5) else (laws_FnExactWriteLine.j1 kj18 l0 t313 t316 t326 true a1_0 a1_1 a1_2 a1_3 a1_4 a1_5))))) else (some false))) = some true := H
      have A43 := Aside0.mk A430
      clear A430
      replace H := Option.bind_eq_some_iff.mp H
      obtain ⟨t334, A440, H⟩ := H
      replace H : (if t334 = true then ((laws_markLineS.f kj18 t317 1).bind fun bt335 => (if bt335.1 < 0 then (laws_FnExactWriteLine.j1 kj18 l0 t313 t316 t326 true a1_0 a1_1 a1_2 a1_3 a1_4 a1_5) else ((laws_eqLineS.f kj18 t326 t313).bind fun t337 => (if t337 = true then (laws_FnExactWriteLine.j1 kj18 l0 t313 t316 t326 (t329 != t316) a1_0 a1_1 a1_2 a1_3 a1_4 a1_5) else (laws_FnExactWriteLine.j1 kj18 l0 t313 t316 t326 true a1_0 a1_1 a1_2 a1_3 a1_4 a1_5))))) else (some false)) = some true := H
      have A44 := Aside0.mk A440
      clear A440
      by_cases c45 : t334 = true
      ·
       subst c45
       have H1 : ((laws_markLineS.f kj18 t317 1).bind fun bt335 => (if bt335.1 < 0 then (laws_FnExactWriteLine.j1 kj18 l0 t313 t316 t326 true a1_0 a1_1 a1_2 a1_3 a1_4 a1_5) else ((laws_eqLineS.f kj18 t326 t313).bind fun t337 => (if t337 = true then (laws_FnExactWriteLine.j1 kj18 l0 t313 t316 t326 (t329 != t316) a1_0 a1_1 a1_2 a1_3 a1_4 a1_5) else (laws_FnExactWriteLine.j1 kj18 l0 t313 t316 t326 true a1_0 a1_1 a1_2 a1_3 a1_4 a1_5))))) = some true := by first | (rw [if_pos rfl] at H; exact H) | rfl
       clear H
       have H := H1
       clear H1
       replace H := Option.bind_eq_some_iff.mp H
       obtain ⟨⟨t335, t336⟩, A460, H⟩ := H
       replace H : (if t335 < 0 then (laws_FnExactWriteLine.j1 kj18 l0 t313 t316 t326 true a1_0 a1_1 a1_2 a1_3 a1_4 a1_5) else ((laws_eqLineS.f kj18 t326 t313).bind fun t337 => (if t337 = true then (laws_FnExactWriteLine.j1 kj18 l0 t313 t316 t326 (t329 != t316) a1_0 a1_1 a1_2 a1_3 a1_4 a1_5) else (laws_FnExactWriteLine.j1 kj18 l0 t313 t316 t326 true a1_0 a1_1 a1_2 a1_3 a1_4 a1_5)))) = some true := H
       have A46 := Aside0.mk A460
       clear A460
       have HC47 := Aside0.mk H
       clear H
       go_upto_region 17 with (first | ((with_reducible refine gate_callee (f := 16) rfl ?_); refine goesL_ (some 54) rfl rfl Try.func16 (by kernel_rfl) rfl #[.slice A0 l0.length c0] rfl (by (try simp only [List.map_toArray, List.map_cons, List.map_nil]); first | done | rfl | (simp only [List.length_drop, List.length_take]; rfl)) ?_; (with_reducible refine (laws_toLineS.calls kj18 _ _ l0 t331 _ ?side1 ?side2 A43.out).mono ?_); (case side1 => repeat (first | exact (Kd.C_below HR0.out HB.out) | (with_reducible refine Kd.C_alloc ?_ _) | (with_reducible refine Kd.C_drewN ?_ _) | (with_reducible refine Kd.C_drew ?_))); (case side2 => exact HC0.out); rintro e w48 ⟨v332, rfl, ho0, hb⟩; refine ⟨_, rfl, ?_⟩; have n0_ := Aside0.mk (Kd.R_elder' (by (with_reducible repeat (first | apply Kd.R_alloc | apply Kd.R_drewN | apply Kd.R_drew)); exact HO_6.out) (Kd.R_base ho0) hb); have n1_ := Aside0.mk (Kd.R_elder' (by (with_reducible repeat (first | apply Kd.R_alloc | apply Kd.R_drewN | apply Kd.R_drew)); exact HO_8.out) (Kd.R_base ho0) hb); have n2_ := Aside0.mk (Kd.R_elder' (by (with_reducible repeat (first | apply Kd.R_alloc | apply Kd.R_drewN | apply Kd.R_drew)); exact HO_9.out) (Kd.R_base ho0) hb); have n3_ := Aside0.mk (Kd.R_lower (Kd.R_new' (Kd.R_new' (Kd.R_new' ho0 (Kd.R_lt (by (with_reducible repeat (first | apply Kd.R_alloc | apply Kd.R_drewN | apply Kd.R_drew)); exact HO_6.out))) (Kd.R_lt (by (with_reducible repeat (first | apply Kd.R_alloc | apply Kd.R_drewN | apply Kd.R_drew)); exact HO_8.out))) (Kd.R_lt (by (with_reducible repeat (first | apply Kd.R_alloc | apply Kd.R_drewN | apply Kd.R_drew)); exact HO_9.out))) (below_size (by repeat (first | (with_reducible first | exact HB.out | apply below_alloc | apply pw_below_drewN | apply below_drew1 | refine below_set ?_ GE301.out) | exact HB.out)))); have n4_ := Aside0.mk (blk_below (g := gb301) (o := .cells #[.string a1_0, .int .i8 a1_1, .string a1_2, .string a1_3, .int .i64 a1_4, .int .i64 a1_5] 42 (0, 0)) (by (with_reducible repeat (first | refine blk_drewN ?_ _ | refine blk_drew ?_ | refine blk_alloc ?_ _)); exact BK301.out) hb); have n5_ := Aside0.mk (below_step (by repeat (first | (with_reducible first | exact HB.out | apply below_alloc | apply pw_below_drewN | apply below_drew1 | refine below_set ?_ GE301.out) | exact HB.out)) hb); clear HO_6; clear HO_8; clear HO_9; clear BK301; clear HB; have HO_6 := n0_; have HO_8 := n1_; have HO_9 := n2_; have HO333 := n3_; have BK301 := n4_; have HB := n5_; clear n0_ n1_ n2_ n3_ n4_ n5_; (try clear hb); (try clear hb2); (try clear hk); (try clear hi); (try clear ho0); obtain ⟨Ao49, co49, eo49⟩ := Kd.R_slice HO333.out; subst eo49) | ((with_reducible refine gate_callee (f := 18) rfl ?_); refine goesL_ (some 55) rfl rfl Try.func18 (by kernel_rfl) rfl #[.slice Ao32 t317.length co32, .slice Ao49 t331.length co49] rfl (by (try simp only [List.map_toArray, List.map_cons, List.map_nil]); first | done | rfl | (simp only [List.length_drop, List.length_take]; rfl)) ?_; (with_reducible refine (laws_eqLineS.calls kj18 _ _ t317 _ _ t331 true _ ?side1 ?side2 ?side3 ?side4 A44.out).mono ?_); (case side1 => repeat (first | exact (Kd.R_reads' HO_8.out).2.2 | (with_reducible refine Kd.C_alloc ?_ _) | (with_reducible refine Kd.C_drewN ?_ _) | (with_reducible refine Kd.C_drew ?_))); (case side2 => exact (Kd.R_reads' HO_8.out).2.1); (case side3 => repeat (first | exact (Kd.R_reads' HO333.out).2.2 | (with_reducible refine Kd.C_alloc ?_ _) | (with_reducible refine Kd.C_drewN ?_ _) | (with_reducible refine Kd.C_drew ?_))); (case side4 => exact (Kd.R_reads' HO333.out).2.1); rintro e w50 ⟨rfl, hb⟩; refine ⟨_, rfl, ?_⟩; have n0_ := Aside0.mk (Kd.R_below (by (with_reducible repeat (first | apply Kd.R_alloc | apply Kd.R_drewN | apply Kd.R_drew)); exact HO_6.out) hb); have n1_ := Aside0.mk (Kd.R_below (by (with_reducible repeat (first | apply Kd.R_alloc | apply Kd.R_drewN | apply Kd.R_drew)); exact HO_8.out) hb); have n2_ := Aside0.mk (Kd.R_below (by (with_reducible repeat (first | apply Kd.R_alloc | apply Kd.R_drewN | apply Kd.R_drew)); exact HO_9.out) hb); have n3_ := Aside0.mk (Kd.R_below (by (with_reducible repeat (first | apply Kd.R_alloc | apply Kd.R_drewN | apply Kd.R_drew)); exact HO333.out) hb); have n4_ := Aside0.mk (blk_below (g := gb301) (o := .cells #[.string a1_0, .int .i8 a1_1, .string a1_2, .string a1_3, .int .i64 a1_4, .int .i64 a1_5] 42 (0, 0)) (by (with_reducible repeat (first | refine blk_drewN ?_ _ | refine blk_drew ?_ | refine blk_alloc ?_ _)); exact BK301.out) hb); have n5_ := Aside0.mk (below_step (by repeat (first | (with_reducible first | exact HB.out | apply below_alloc | apply pw_below_drewN | apply below_drew1 | refine below_set ?_ GE301.out) | exact HB.out)) hb); clear HO_6; clear HO_8; clear HO_9; clear HO333; clear BK301; clear HB; have HO_6 := n0_; have HO_8 := n1_; have HO_9 := n2_; have HO333 := n3_; have BK301 := n4_; have HB := n5_; clear n0_ n1_ n2_ n3_ n4_ n5_; (try clear hb); (try clear hb2); (try clear hk); (try clear hi)) | ((with_reducible refine gate_callee (f := 27) rfl ?_); refine goesL_ (some 59) rfl rfl Try.func27 (by kernel_rfl) rfl #[.slice Ao32 t317.length co32, .int .i64 1] rfl (by (try simp only [List.map_toArray, List.map_cons, List.map_nil]); first | done | rfl | (simp only [List.length_drop, List.length_take]; rfl)) ?_; (with_reducible refine (laws_markLineS.calls kj18 (fun k_ => some k_ = (.slice Ao32 t317.length co32 : Value).ownBlock) (.slice Ao32 t317.length co32) t317 1 t335 t336 w _ ?side1 ?side2 A46.out).mono ?_); (case side1 => repeat (first | (with_reducible first | exact HB.out | apply below_alloc | apply pw_below_drewN | apply below_drew1 | refine below_set ?_ GE301.out) | exact HB.out)); (case side2 => exact Kd.R_tight rfl HO_8.out); rintro e w51 ⟨rfl, hy0, hb, hkp⟩; refine ⟨_, rfl, ?_⟩; have n0_ := Aside0.mk (Kd.R_mono (ok' := fun k_ => some k_ ≠ (.slice Ao32 t317.length co32 : Value).ownBlock ∧ some k_ ≠ (v327 : Value).ownBlock ∧ some k_ ≠ (.slice Ao49 t331.length co49 : Value).ownBlock) (Kd.R_keptB (HO_6.out) hkp (fun k_ hk_ hs_ => (hk_.1.1) hs_)) (fun k_ hk_ => ⟨hk_.1.1.1, hk_.1.1.2, hk_.1.2⟩)); have n1_ := Aside0.mk (Kd.R_reok rfl hy0 (fun k_ e_ => HO_8.out.1 k_ e_)); have n2_ := Aside0.mk (Kd.R_mono (ok' := fun k_ => some k_ ≠ (v314 : Value).ownBlock ∧ some k_ ≠ (.slice Ao32 t317.length co32 : Value).ownBlock ∧ some k_ ≠ (.slice Ao49 t331.length co49 : Value).ownBlock) (Kd.R_keptB (HO_9.out) hkp (fun k_ hk_ hs_ => (hk_.1.2) hs_)) (fun k_ hk_ => ⟨hk_.1.1.1, hk_.1.1.2, hk_.1.2⟩)); have n3_ := Aside0.mk (blk_kept (by (with_reducible repeat (first | refine blk_drewN ?_ _ | refine blk_drew ?_ | refine blk_alloc ?_ _)); exact BK301.out) hkp (fun hs_ => (fun e_ => (Kd.R_ne HO_8.out BK301.out (by decide)) e_) hs_)); have n4_ := Aside0.mk (Kd.R_mono (ok' := fun k_ => some k_ ≠ (v314 : Value).ownBlock ∧ some k_ ≠ (.slice Ao32 t317.length co32 : Value).ownBlock ∧ some k_ ≠ (v327 : Value).ownBlock) (Kd.R_keptB (HO333.out) hkp (fun k_ hk_ hs_ => (hk_.1.2) hs_)) (fun k_ hk_ => ⟨hk_.1.1.1.2, hk_.1.1.2, hk_.1.2⟩)); have n5_ := Aside0.mk (hb); clear HO_6; clear HO_8; clear HO_9; clear BK301; clear HO333; clear HB; have HO_6 := n0_; have HO_8 := n1_; have HO_9 := n2_; have BK301 := n3_; have HO333 := n4_; have HB := n5_; clear n0_ n1_ n2_ n3_ n4_ n5_; (try clear hb); (try clear hkp); (try clear hy0)))
       (try simp only [Act.put, sA_, sB_, sC_])
       go_cut [72] (fun v72 wc => ∃ (kq : Nat) (x72_46 : Bool), v72 = .bool x72_46 ∧ Aside0 (laws_FnExactWriteLine.j1 kq l0 t313 t316 t326 x72_46 a1_0 a1_1 a1_2 a1_3 a1_4 a1_5 = some true) ∧ Aside0 (kq ≤ kj18) ∧ Aside0 (Kd.R k45 45 wc w.heap.size (fun k_ => some k_ ≠ (v327 : Value).ownBlock) v314 t313) ∧ Aside0 (Kd.R k45 45 wc w.heap.size (fun k_ => some k_ ≠ (v314 : Value).ownBlock) v327 t326) ∧ Aside0 (wc.heap[gb301]? = some (.cells #[.string a1_0, .int .i8 a1_1, .string a1_2, .string a1_3, .int .i64 a1_4, .int .i64 a1_5] 42 (0, 0))) ∧ Aside0 (Below w.heap.size w wc))
       case first =>
        have H := HC47.out
        clear HC47
        by_cases c52 : t335 < 0
        ·
         rw [if_pos c52] at H
         have c52b0 : decide (t335 < 0) = true := decide_eq_true c52
         clear c52
         (first | rw [c52b0] | (simp only [i64_w, i32_w]; rw [c52b0]) | skip)
         have H' := Aside0.mk H
         clear H
         go_wp2
         go_meet
         case rel => exact ⟨_, (true), (by first | rfl | (simp; done) | (simp [*]; done) | (simp [isE_]; done)), H', ⟨by have := HJ18.out; first | omega | exact Nat.le_refl _⟩, ⟨by (with_reducible repeat (first | apply Kd.R_alloc | apply Kd.R_drewN | apply Kd.R_drew)); exact Kd.R_mono HO_6.out (fun _ hk => hk.2.1)⟩, ⟨by (with_reducible repeat (first | apply Kd.R_alloc | apply Kd.R_drewN | apply Kd.R_drew)); exact Kd.R_mono HO_9.out (fun _ hk => hk.1)⟩, ⟨by (with_reducible repeat (first | refine blk_drewN ?_ _ | refine blk_drew ?_ | refine blk_alloc ?_ _)); exact BK301.out⟩, ⟨by repeat (first | (with_reducible first | exact HB.out | apply below_alloc | apply pw_below_drewN | apply below_drew1 | refine below_set ?_ GE301.out) | exact HB.out)⟩⟩
        ·
         rw [if_neg c52] at H
         have c52b0 : decide (t335 < 0) = false := decide_eq_false c52
         clear c52
         (first | rw [c52b0] | (simp only [i64_w, i32_w]; rw [c52b0]) | skip)
         replace H := Option.bind_eq_some_iff.mp H
         obtain ⟨t337, A530, H⟩ := H
         replace H : (if t337 = true then (laws_FnExactWriteLine.j1 kj18 l0 t313 t316 t326 (t329 != t316) a1_0 a1_1 a1_2 a1_3 a1_4 a1_5) else (laws_FnExactWriteLine.j1 kj18 l0 t313 t316 t326 true a1_0 a1_1 a1_2 a1_3 a1_4 a1_5)) = some true := H
         have A53 := Aside0.mk A530
         clear A530
         by_cases c54 : t337 = true
         ·
          subst c54
          have H1 : (laws_FnExactWriteLine.j1 kj18 l0 t313 t316 t326 (t329 != t316) a1_0 a1_1 a1_2 a1_3 a1_4 a1_5) = some true := by first | (rw [if_pos rfl] at H; exact H) | rfl
          clear H
          have H := H1
          clear H1
          have H' := Aside0.mk H
          clear H
          obtain ⟨Ao55, co55, eo55⟩ := Kd.R_slice HO_9.out
          subst eo55
          obtain ⟨Ao56, co56, eo56⟩ := Kd.R_slice HO_6.out
          subst eo56
          go_wp2_with (first | (go_at_call 18; (with_reducible refine (laws_eqLineS.calls kj18 _ _ t326 _ _ t313 true _ ?side1 ?side2 ?side3 ?side4 A53.out).mono ?_); (case side1 => repeat (first | exact (Kd.R_reads' HO_9.out).2.2 | (with_reducible refine Kd.C_alloc ?_ _) | (with_reducible refine Kd.C_drewN ?_ _) | (with_reducible refine Kd.C_drew ?_))); (case side2 => exact (Kd.R_reads' HO_9.out).2.1); (case side3 => repeat (first | exact (Kd.R_reads' HO_6.out).2.2 | (with_reducible refine Kd.C_alloc ?_ _) | (with_reducible refine Kd.C_drewN ?_ _) | (with_reducible refine Kd.C_drew ?_))); (case side4 => exact (Kd.R_reads' HO_6.out).2.1); rintro e w57 ⟨rfl, hb⟩; have n0_ := Aside0.mk (Kd.R_below (by (with_reducible repeat (first | apply Kd.R_alloc | apply Kd.R_drewN | apply Kd.R_drew)); exact HO_6.out) hb); have n1_ := Aside0.mk (Kd.R_below (by (with_reducible repeat (first | apply Kd.R_alloc | apply Kd.R_drewN | apply Kd.R_drew)); exact HO_8.out) hb); have n2_ := Aside0.mk (Kd.R_below (by (with_reducible repeat (first | apply Kd.R_alloc | apply Kd.R_drewN | apply Kd.R_drew)); exact HO_9.out) hb); have n3_ := Aside0.mk (Kd.R_below (by (with_reducible repeat (first | apply Kd.R_alloc | apply Kd.R_drewN | apply Kd.R_drew)); exact HO333.out) hb); have n4_ := Aside0.mk (blk_below (g := gb301) (o := .cells #[.string a1_0, .int .i8 a1_1, .string a1_2, .string a1_3, .int .i64 a1_4, .int .i64 a1_5] 42 (0, 0)) (by (with_reducible repeat (first | refine blk_drewN ?_ _ | refine blk_drew ?_ | refine blk_alloc ?_ _)); exact BK301.out) hb); have n5_ := Aside0.mk (below_step (by repeat (first | (with_reducible first | exact HB.out | apply below_alloc | apply pw_below_drewN | apply below_drew1 | refine below_set ?_ GE301.out) | exact HB.out)) hb); clear HO_6; clear HO_8; clear HO_9; clear HO333; clear BK301; clear HB; have HO_6 := n0_; have HO_8 := n1_; have HO_9 := n2_; have HO333 := n3_; have BK301 := n4_; have HB := n5_; clear n0_ n1_ n2_ n3_ n4_ n5_; (try clear hb); (try clear hb2); (try clear hk); (try clear hi)))
          go_meet
          case rel => exact ⟨_, ((t329 != t316)), (by first | rfl | (simp; done) | (simp [*]; done) | (simp [isE_]; done)), H', ⟨by have := HJ18.out; first | omega | exact Nat.le_refl _⟩, ⟨by (with_reducible repeat (first | apply Kd.R_alloc | apply Kd.R_drewN | apply Kd.R_drew)); exact Kd.R_mono HO_6.out (fun _ hk => hk.2.1)⟩, ⟨by (with_reducible repeat (first | apply Kd.R_alloc | apply Kd.R_drewN | apply Kd.R_drew)); exact Kd.R_mono HO_9.out (fun _ hk => hk.1)⟩, ⟨by (with_reducible repeat (first | refine blk_drewN ?_ _ | refine blk_drew ?_ | refine blk_alloc ?_ _)); exact BK301.out⟩, ⟨by repeat (first | (with_reducible first | exact HB.out | apply below_alloc | apply pw_below_drewN | apply below_drew1 | refine below_set ?_ GE301.out) | exact HB.out)⟩⟩
         ·
          replace c54 := Bool.eq_false_iff.mpr c54
          subst c54
          have H1 : (laws_FnExactWriteLine.j1 kj18 l0 t313 t316 t326 true a1_0 a1_1 a1_2 a1_3 a1_4 a1_5) = some true := by first | (rw [if_neg (show ¬ (false = true) by decide)] at H; exact H) | rfl
          clear H
          have H := H1
          clear H1
          have H' := Aside0.mk H
          clear H
          obtain ⟨Ao58, co58, eo58⟩ := Kd.R_slice HO_9.out
          subst eo58
          obtain ⟨Ao59, co59, eo59⟩ := Kd.R_slice HO_6.out
          subst eo59
          go_wp2_with (first | (go_at_call 18; (with_reducible refine (laws_eqLineS.calls kj18 _ _ t326 _ _ t313 false _ ?side1 ?side2 ?side3 ?side4 A53.out).mono ?_); (case side1 => repeat (first | exact (Kd.R_reads' HO_9.out).2.2 | (with_reducible refine Kd.C_alloc ?_ _) | (with_reducible refine Kd.C_drewN ?_ _) | (with_reducible refine Kd.C_drew ?_))); (case side2 => exact (Kd.R_reads' HO_9.out).2.1); (case side3 => repeat (first | exact (Kd.R_reads' HO_6.out).2.2 | (with_reducible refine Kd.C_alloc ?_ _) | (with_reducible refine Kd.C_drewN ?_ _) | (with_reducible refine Kd.C_drew ?_))); (case side4 => exact (Kd.R_reads' HO_6.out).2.1); rintro e w60 ⟨rfl, hb⟩; have n0_ := Aside0.mk (Kd.R_below (by (with_reducible repeat (first | apply Kd.R_alloc | apply Kd.R_drewN | apply Kd.R_drew)); exact HO_6.out) hb); have n1_ := Aside0.mk (Kd.R_below (by (with_reducible repeat (first | apply Kd.R_alloc | apply Kd.R_drewN | apply Kd.R_drew)); exact HO_8.out) hb); have n2_ := Aside0.mk (Kd.R_below (by (with_reducible repeat (first | apply Kd.R_alloc | apply Kd.R_drewN | apply Kd.R_drew)); exact HO_9.out) hb); have n3_ := Aside0.mk (Kd.R_below (by (with_reducible repeat (first | apply Kd.R_alloc | apply Kd.R_drewN | apply Kd.R_drew)); exact HO333.out) hb); have n4_ := Aside0.mk (blk_below (g := gb301) (o := .cells #[.string a1_0, .int .i8 a1_1, .string a1_2, .string a1_3, .int .i64 a1_4, .int .i64 a1_5] 42 (0, 0)) (by (with_reducible repeat (first | refine blk_drewN ?_ _ | refine blk_drew ?_ | refine blk_alloc ?_ _)); exact BK301.out) hb); have n5_ := Aside0.mk (below_step (by repeat (first | (with_reducible first | exact HB.out | apply below_alloc | apply pw_below_drewN | apply below_drew1 | refine below_set ?_ GE301.out) | exact HB.out)) hb); clear HO_6; clear HO_8; clear HO_9; clear HO333; clear BK301; clear HB; have HO_6 := n0_; have HO_8 := n1_; have HO_9 := n2_; have HO333 := n3_; have BK301 := n4_; have HB := n5_; clear n0_ n1_ n2_ n3_ n4_ n5_; (try clear hb); (try clear hb2); (try clear hk); (try clear hi)))
          go_meet
          case rel => exact ⟨_, (true), (by first | rfl | (simp; done) | (simp [*]; done) | (simp [isE_]; done)), H', ⟨by have := HJ18.out; first | omega | exact Nat.le_refl _⟩, ⟨by (with_reducible repeat (first | apply Kd.R_alloc | apply Kd.R_drewN | apply Kd.R_drew)); exact Kd.R_mono HO_6.out (fun _ hk => hk.2.1)⟩, ⟨by (with_reducible repeat (first | apply Kd.R_alloc | apply Kd.R_drewN | apply Kd.R_drew)); exact Kd.R_mono HO_9.out (fun _ hk => hk.1)⟩, ⟨by (with_reducible repeat (first | refine blk_drewN ?_ _ | refine blk_drew ?_ | refine blk_alloc ?_ _)); exact BK301.out⟩, ⟨by repeat (first | (with_reducible first | exact HB.out | apply below_alloc | apply pw_below_drewN | apply below_drew1 | refine below_set ?_ GE301.out) | exact HB.out)⟩⟩
       case rest =>
        clear HC47
        try clear c1
        try clear c2
        try clear p2
        try clear c3
        try clear c4
        try clear c4b0
        try clear c5
        try clear c6
        try clear c8
        try clear c8b0
        try clear c14
        try clear c16
        try clear c18
        try clear c27
        try clear c29
        try clear c30
        try clear c31
        try clear c32
        try clear c35
        try clear c42
        try clear c45
        try clear c52
        try clear c52b0
        try clear c54
        try clear hcz11_0
        try clear hcz11_1
        try clear hcz11_2
        try clear hcz11_3
        try clear hcz11_4
        try clear hcz11_5
        try clear hcz22_0
        try clear hcz22_1
        try clear hcz22_2
        try clear hcz22_3
        try clear hcz22_4
        try clear hcz22_5
        try clear hcz30_0
        try clear hcz30_1
        try clear hcz30_2
        try clear hcz30_3
        try clear hcz30_4
        try clear hcz30_5
        try clear hfz11_0
        try clear hfz11_1
        try clear hfz11_2
        try clear hfz11_3
        try clear hfz11_4
        try clear hfz11_5
        try clear hfz22_0
        try clear hfz22_1
        try clear hfz22_2
        try clear hfz22_3
        try clear hfz22_4
        try clear hfz22_5
        try clear hfz30_0
        try clear hfz30_1
        try clear hfz30_2
        try clear hfz30_3
        try clear hfz30_4
        try clear hfz30_5
        try clear p2
        obtain ⟨kq, x72_46, rfl, HA, HJ46, HO_6, HO_9, BK301, HB⟩ := hcut
        cases kq with
        | zero => exact absurd HA.out (by simp [laws_FnExactWriteLine.j1])
        | succ kj46 =>
         have H := HA.out
         clear HA
         simp only [laws_FnExactWriteLine.j1] at H
         by_cases c61 : x72_46 = true
         ·
          subst c61
          have H1 : (some false) = some true := by first | (rw [if_pos rfl] at H; exact H) | rfl
          clear H
          have H := H1
          clear H1
          exact absurd H (by decide)
         ·
          replace c61 := Bool.eq_false_iff.mpr c61
          subst c61
          have H1 : ((laws_markLineS.f kj46 t326 1).bind fun bt338 => ((laws_heldLineS.f kj46 bt338.2 1).bind fun t340 => (if t340 < 0 then (some false) else (if t340 = bt338.1 then ((laws_toLineS.f kj46 l0).bind fun t341 => ((laws_toLine.f a1_0 a1_1 a1_2 a1_3 a1_4 a1_5).bind fun bt344 => ((impl_WriteLine.f kj46 t341 bt344.1 bt344.2.1 bt344.2.2.1 bt344.2.2.2.1 bt344.2.2.2.2.1 bt344.2.2.2.2.2).bind fun bt350 => ((laws_eqLineS.f kj46 bt350.1 t313).bind fun t354 => (if t354 = true then (laws_FnExactWriteLine.j2 kj46 bt338.2 bt338.1 (bt350.2 != t316)) else (laws_FnExactWriteLine.j2 kj46 bt338.2 bt338.1 true)))))) else (some false))))) = some true := by first | (rw [if_neg (show ¬ (false = true) by decide)] at H; exact H) | rfl
          clear H
          have H := H1
          clear H1
          replace H := Option.bind_eq_some_iff.mp H
          obtain ⟨⟨t338, t339⟩, A620, H⟩ := H
          replace H : ((laws_heldLineS.f kj46 t339 1).bind fun t340 => (if t340 < 0 then (some false) else (if t340 = t338 then ((laws_toLineS.f kj46 l0).bind fun t341 => ((laws_toLine.f a1_0 a1_1 a1_2 a1_3 a1_4 a1_5).bind fun bt344 => ((impl_WriteLine.f kj46 t341 bt344.1 bt344.2.1 bt344.2.2.1 bt344.2.2.2.1 bt344.2.2.2.2.1 bt344.2.2.2.2.2).bind fun bt350 => ((laws_eqLineS.f kj46 bt350.1 t313).bind fun t354 => (if t354 = true then (laws_FnExactWriteLine.j2 kj46 t339 t338 (bt350.2 != t316)) else (laws_FnExactWriteLine.j2 kj46 t339 t338 true)))))) else (some false)))) = some true := H
          have A62 := Aside0.mk A620
          clear A620
          replace H := Option.bind_eq_some_iff.mp H
          obtain ⟨t340, A630, H⟩ := H
          replace H : (if t340 < 0 then (some false) else (if t340 = t338 then ((laws_toLineS.f kj46 l0).bind fun t341 => ((laws_toLine.f a1_0 a1_1 a1_2 a1_3 a1_4 a1_5).bind fun bt344 => ((impl_WriteLine.f kj46 t341 bt344.1 bt344.2.1 bt344.2.2.1 bt344.2.2.2.1 bt344.2.2.2.2.1 bt344.2.2.2.2.2).bind fun bt350 => ((laws_eqLineS.f kj46 bt350.1 t313).bind fun t354 => (if t354 = true then (laws_FnExactWriteLine.j2 kj46 t339 t338 (bt350.2 != t316)) else (laws_FnExactWriteLine.j2 kj46 t339 t338 true)))))) else (some false))) = some true := H
          have A63 := Aside0.mk A630
          clear A630
          by_cases c64 : t340 < 0
          ·
           rw [if_pos c64] at H
           have c64b0 : decide (t340 < 0) = true := decide_eq_true c64
           clear c64
           exact absurd H (by decide)
          ·
           rw [if_neg c64] at H
           have c64b0 : decide (t340 < 0) = false := decide_eq_false c64
           clear c64
           by_cases c65 : t340 = t338
           ·
            rw [if_pos c65] at H
            have c65b0 : (t340 == t338) = true := beq_iff_eq.mpr c65
            have c65b1 : (t340 != t338) = false := bne_eq_false_iff_eq.mpr c65
            clear c65
            replace H := Option.bind_eq_some_iff.mp H
            obtain ⟨t341, A660, H⟩ := H
            replace H : ((laws_toLine.f a1_0 a1_1 a1_2 a1_3 a1_4 a1_5).bind fun bt344 => ((impl_WriteLine.f kj46 t341 bt344.1 bt344.2.1 bt344.2.2.1 bt344.2.2.2.1 bt344.2.2.2.2.1 bt344.2.2.2.2.2).bind fun bt350 => ((laws_eqLineS.f kj46 bt350.1 t313).bind fun t354 => (if t354 = true then (laws_FnExactWriteLine.j2 kj46 t339 t338 (bt350.2 != t316)) else (laws_FnExactWriteLine.j2 kj46 t339 t338 true))))) = some true := H
            have A66 := Aside0.mk A660
            clear A660
            replace H := Option.bind_eq_some_iff.mp H
            obtain ⟨⟨t344, t345, t346, t347, t348, t349⟩, A670, H⟩ := H
            replace H : ((impl_WriteLine.f kj46 t341 t344 t345 t346 t347 t348 t349).bind fun bt350 => ((laws_eqLineS.f kj46 bt350.1 t313).bind fun t354 => (if t354 = true then (laws_FnExactWriteLine.j2 kj46 t339 t338 (bt350.2 != t316)) else (laws_FnExactWriteLine.j2 kj46 t339 t338 true)))) = some true := H
            have A67 := Aside0.mk A670
            clear A670
            replace H := Option.bind_eq_some_iff.mp H
            obtain ⟨⟨t350, t353⟩, A680, H⟩ := H
            replace H : ((laws_eqLineS.f kj46 t350 t313).bind fun t354 => (if t354 = true then (laws_FnExactWriteLine.j2 kj46 t339 t338 (t353 != t316)) else (laws_FnExactWriteLine.j2 kj46 t339 t338 true))) = some true := H
            have A68 := Aside0.mk A680
            clear A680
            have HC69 := Aside0.mk H
            clear H
            obtain ⟨Ao70, co70, eo70⟩ := Kd.R_slice HO_9.out
            subst eo70
            try go_wp2_with (first | ((with_reducible refine gate_callee (f := 27) rfl ?_); refine goesL_ (some 75) rfl rfl Try.func27 (by kernel_rfl) rfl #[.slice Ao70 t326.length co70, .int .i64 1] rfl (by (try simp only [List.map_toArray, List.map_cons, List.map_nil]); first | done | rfl | (simp only [List.length_drop, List.length_take]; rfl)) ?_; (with_reducible refine (laws_markLineS.calls kj46 (fun k_ => some k_ = (.slice Ao70 t326.length co70 : Value).ownBlock) (.slice Ao70 t326.length co70) t326 1 t338 t339 w _ ?side1 ?side2 A62.out).mono ?_); (case side1 => repeat (first | (with_reducible first | exact HB.out | apply below_alloc | apply pw_below_drewN | apply below_drew1 | refine below_set ?_ GE301.out) | exact HB.out)); (case side2 => exact Kd.R_tight rfl HO_9.out); rintro e w71 ⟨rfl, hy0, hb, hkp⟩; refine ⟨_, rfl, ?_⟩; have n0_ := Aside0.mk (Kd.R_mono (ok' := fun k_ => some k_ ≠ (.slice Ao70 t326.length co70 : Value).ownBlock) (Kd.R_keptB (HO_6.out) hkp (fun k_ hk_ hs_ => (hk_) hs_)) (fun k_ hk_ => hk_.1)); have n1_ := Aside0.mk (Kd.R_reok rfl hy0 (fun k_ e_ => HO_9.out.1 k_ e_)); have n2_ := Aside0.mk (blk_kept (by (with_reducible repeat (first | refine blk_drewN ?_ _ | refine blk_drew ?_ | refine blk_alloc ?_ _)); exact BK301.out) hkp (fun hs_ => (fun e_ => (Kd.R_ne HO_9.out BK301.out (by decide)) e_) hs_)); have n3_ := Aside0.mk (hb); clear HO_6; clear HO_9; clear BK301; clear HB; have HO_6 := n0_; have HO_9 := n1_; have BK301 := n2_; have HB := n3_; clear n0_ n1_ n2_ n3_; (try clear hb); (try clear hkp); (try clear hy0)) | ((with_reducible refine gate_callee (f := 28) rfl ?_); refine goesL_ (some 78) rfl rfl Try.func28 (by kernel_rfl) rfl #[.slice Ao70 t339.length co70, .int .i64 1] rfl (by (try simp only [List.map_toArray, List.map_cons, List.map_nil]); first | done | (rw [show t339.length = t326.length from (Kd.R_reads' HO_9.out).1.symm] <;> rfl) | rfl | (simp only [List.length_drop, List.length_take]; rfl)) ?_; (with_reducible refine (laws_heldLineS.calls kj46 _ _ t339 1 t340 _ ?side1 ?side2 A63.out).mono ?_); (case side1 => repeat (first | exact (Kd.R_reads' HO_9.out).2.2 | (with_reducible refine Kd.C_alloc ?_ _) | (with_reducible refine Kd.C_drewN ?_ _) | (with_reducible refine Kd.C_drew ?_))); (case side2 => rw [show t339.length = t326.length from (Kd.R_reads' HO_9.out).1.symm]; exact (Kd.R_reads' HO_9.out).2.1); rintro e w72 ⟨rfl, hb⟩; refine ⟨_, rfl, ?_⟩; have n0_ := Aside0.mk (Kd.R_below (by (with_reducible repeat (first | apply Kd.R_alloc | apply Kd.R_drewN | apply Kd.R_drew)); exact HO_6.out) hb); have n1_ := Aside0.mk (Kd.R_below (by (with_reducible repeat (first | apply Kd.R_alloc | apply Kd.R_drewN | apply Kd.R_drew)); exact HO_9.out) hb); have n2_ := Aside0.mk (blk_below (g := gb301) (o := .cells #[.string a1_0, .int .i8 a1_1, .string a1_2, .string a1_3, .int .i64 a1_4, .int .i64 a1_5] 42 (0, 0)) (by (with_reducible repeat (first | refine blk_drewN ?_ _ | refine blk_drew ?_ | refine blk_alloc ?_ _)); exact BK301.out) hb); have n3_ := Aside0.mk (below_step (by repeat (first | (with_reducible first | exact HB.out | apply below_alloc | apply pw_below_drewN | apply below_drew1 | refine below_set ?_ GE301.out) | exact HB.out)) hb); clear HO_6; clear HO_9; clear BK301; clear HB; have HO_6 := n0_; have HO_9 := n1_; have BK301 := n2_; have HB := n3_; clear n0_ n1_ n2_ n3_; (try clear hb); (try clear hb2); (try clear hk); (try clear hi)))
            have n0_ := Aside0.mk (Kd.R_drew HO_6.out)
            have n1_ := Aside0.mk (Kd.R_drew HO_9.out)
            have n2_ := Aside0.mk (blk_drew BK301.out)
            have n3_ := Aside0.mk (below_drew1 HB.out)
            clear HO_6
            clear HO_9
            clear BK301
            clear HB
            have HO_6 := n0_
            have HO_9 := n1_
            have BK301 := n2_
            have HB := n3_
            clear n0_ n1_ n2_ n3_
            refine start_ (n := 10) (S := fun w' => w'.cell? ⟨gb301, 0, none⟩ = some (.string a1_0) ∧ w'.cell? ⟨gb301, 1, none⟩ = some (.int .i8 a1_1) ∧ w'.cell? ⟨gb301, 2, none⟩ = some (.string a1_2) ∧ w'.cell? ⟨gb301, 3, none⟩ = some (.string a1_3) ∧ w'.cell? ⟨gb301, 4, none⟩ = some (.int .i64 a1_4) ∧ w'.cell? ⟨gb301, 5, none⟩ = some (.int .i64 a1_5)) (ds := []) #[false, false, false, false, false, false, false, false, false, false] (by kernel_rfl) rfl rfl ⟨(blk_cell BK301.out 0).trans rfl, (blk_cell BK301.out 1).trans rfl, (blk_cell BK301.out 2).trans rfl, (blk_cell BK301.out 3).trans rfl, (blk_cell BK301.out 4).trans rfl, (blk_cell BK301.out 5).trans rfl⟩ (fun hHeld => ?_); refine with_tabW laws_FnExactWriteLine.tab27 laws_FnExactWriteLine.bits27 (fun HT_ HW_ => ?_)
            generalize w72.drew = w73 at HO_6 HO_9 BK301 HB hHeld ⊢
            refine pure_ (i := 0) (N := some 85) (v := ?_) (a' := ?_) #[true, false, false, false, false, false, false, false, false, false] rfl rfl (any_of HT_.out (by kernel_rfl)) (fun _ _ _ h => h) (Or.inl ⟨by rfl, ?_⟩) ?_ ?_
            rotate_left
            ·
             intro w'
             go_simp
             with_reducible rfl
            rotate_left
            ·
             simp only [Act.put, sA_, sB_, sC_, i64_w, i32_w]
             rfl
            refine take_ (i := 2) (N := some 87) (v := ?_) (a' := ?_) #[true, false, true, false, false, false, false, false, false, false] rfl rfl (take_ofW HT_.out HW_.out (by kernel_rfl)) (fun _ _ _ h => h) (Or.inl ⟨by rfl, ?_⟩) hHeld ?_ ?_
            rotate_left
            ·
             rintro w' ⟨s0, s1, s2, s3, s4, s5⟩
             go_simp
             with_reducible rfl
            rotate_left
            ·
             simp only [Act.put, sA_, sB_, sC_, i64_w, i32_w]
             rfl
            refine one_ (i := 1) (N := some 86) #[true, true, true, false, false, false, false, false, false, false] rfl rfl (one_of HT_.out (by kernel_rfl)) (by decide) (fun K hK => ?_)
            refine goes_ Try.func16 (by kernel_rfl) rfl #[.slice A0 l0.length c0] (by rfl) rfl rfl (by (try simp only [List.map_toArray, List.map_cons, List.map_nil]); first | done | rfl | (simp only [List.length_drop, List.length_take]; rfl)) ?_
            with_reducible refine (laws_toLineS.calls kj46 _ _ l0 t341 _ ?side1 ?side2 A66.out).mono ?_
            (case side1 => repeat (first | exact (Kd.C_below HR0.out HB.out) | (with_reducible refine Kd.C_alloc ?_ _) | (with_reducible refine Kd.C_drewN ?_ _) | (with_reducible refine Kd.C_drew ?_)))
            (case side2 => exact HC0.out)
            rintro e w74 ⟨v342, rfl, ho0, hb⟩
            refine ⟨_, rfl, ?_⟩
            have n0_ := Aside0.mk (Kd.R_elder' (by (with_reducible repeat (first | apply Kd.R_alloc | apply Kd.R_drewN | apply Kd.R_drew)); exact HO_6.out) (Kd.R_base ho0) hb)
            have n1_ := Aside0.mk (Kd.R_elder' (by (with_reducible repeat (first | apply Kd.R_alloc | apply Kd.R_drewN | apply Kd.R_drew)); exact HO_9.out) (Kd.R_base ho0) hb)
            have n2_ := Aside0.mk (Kd.R_lower (Kd.R_new' (Kd.R_new' ho0 (Kd.R_lt (by (with_reducible repeat (first | apply Kd.R_alloc | apply Kd.R_drewN | apply Kd.R_drew)); exact HO_6.out))) (Kd.R_lt (by (with_reducible repeat (first | apply Kd.R_alloc | apply Kd.R_drewN | apply Kd.R_drew)); exact HO_9.out))) (below_size (by repeat (first | (with_reducible first | exact HB.out | apply below_alloc | apply pw_below_drewN | apply below_drew1 | refine below_set ?_ GE301.out) | exact HB.out))))
            have n3_ := Aside0.mk (blk_below (g := gb301) (o := .cells #[.string a1_0, .int .i8 a1_1, .string a1_2, .string a1_3, .int .i64 a1_4, .int .i64 a1_5] 42 (0, 0)) (by (with_reducible repeat (first | refine blk_drewN ?_ _ | refine blk_drew ?_ | refine blk_alloc ?_ _)); exact BK301.out) hb)
            have n4_ := Aside0.mk (below_step (by repeat (first | (with_reducible first | exact HB.out | apply below_alloc | apply pw_below_drewN | apply below_drew1 | refine below_set ?_ GE301.out) | exact HB.out)) hb)
            clear HO_6
            clear HO_9
            clear BK301
            clear HB
            have HO_6 := n0_
            have HO_9 := n1_
            have HO343 := n2_
            have BK301 := n3_
            have HB := n4_
            clear n0_ n1_ n2_ n3_ n4_
            (try clear hb)
            (try clear hb2)
            (try clear hk)
            (try clear hi)
            (try clear ho0)
            refine hK.out _ _ ⟨(blk_cell BK301.out 0).trans rfl, (blk_cell BK301.out 1).trans rfl, (blk_cell BK301.out 2).trans rfl, (blk_cell BK301.out 3).trans rfl, (blk_cell BK301.out 4).trans rfl, (blk_cell BK301.out 5).trans rfl⟩ (fun hHeld => ?_)
            clear hK K
            refine norm_ (a' := ?_) ?_ ?_
            rotate_left
            ·
             show Act.put _ (some 86) _ = _
             simp only [Act.put, sA_, sB_, sC_, i64_w, i32_w]
             rfl
            refine one_ (i := 3) (N := some 88) #[true, true, true, true, false, false, false, false, false, false] rfl rfl (one_of HT_.out (by kernel_rfl)) (by decide) (fun K hK => ?_)
            refine goes_ Try.func31 (by kernel_rfl) rfl #[.agg #[.string a1_0, .int .i8 a1_1, .string a1_2, .string a1_3, .int .i64 a1_4, .int .i64 a1_5]] (by rfl) rfl rfl (by (try simp only [List.map_toArray, List.map_cons, List.map_nil]); first | done | rfl | (simp only [List.length_drop, List.length_take]; rfl)) ?_
            with_reducible refine (laws_toLine.calls a1_0 a1_1 a1_2 a1_3 a1_4 a1_5 t344 t345 t346 t347 t348 t349 _ A67.out).mono ?_
            rintro e w75 ⟨rfl, hb⟩
            refine ⟨_, rfl, ?_⟩
            have n0_ := Aside0.mk (Kd.R_below (by (with_reducible repeat (first | apply Kd.R_alloc | apply Kd.R_drewN | apply Kd.R_drew)); exact HO_6.out) hb)
            have n1_ := Aside0.mk (Kd.R_below (by (with_reducible repeat (first | apply Kd.R_alloc | apply Kd.R_drewN | apply Kd.R_drew)); exact HO_9.out) hb)
            have n2_ := Aside0.mk (Kd.R_below (by (with_reducible repeat (first | apply Kd.R_alloc | apply Kd.R_drewN | apply Kd.R_drew)); exact HO343.out) hb)
            have n3_ := Aside0.mk (blk_below (g := gb301) (o := .cells #[.string a1_0, .int .i8 a1_1, .string a1_2, .string a1_3, .int .i64 a1_4, .int .i64 a1_5] 42 (0, 0)) (by (with_reducible repeat (first | refine blk_drewN ?_ _ | refine blk_drew ?_ | refine blk_alloc ?_ _)); exact BK301.out) hb)
            have n4_ := Aside0.mk (below_step (by repeat (first | (with_reducible first | exact HB.out | apply below_alloc | apply pw_below_drewN | apply below_drew1 | refine below_set ?_ GE301.out) | exact HB.out)) hb)
            clear HO_6
            clear HO_9
            clear HO343
            clear BK301
            clear HB
            have HO_6 := n0_
            have HO_9 := n1_
            have HO343 := n2_
            have BK301 := n3_
            have HB := n4_
            clear n0_ n1_ n2_ n3_ n4_
            (try clear hb)
            (try clear hb2)
            (try clear hk)
            (try clear hi)
            obtain ⟨Ao76, co76, eo76⟩ := Kd.R_slice HO343.out
            (first | subst eo76 | (injection eo76 with f1_ f2_ f3_; have f4_ := f1_.symm; have f5_ := f3_.symm; clear f1_ f2_ f3_; subst f4_; subst f5_))
            refine hK.out _ _ ⟨(blk_cell BK301.out 0).trans rfl, (blk_cell BK301.out 1).trans rfl, (blk_cell BK301.out 2).trans rfl, (blk_cell BK301.out 3).trans rfl, (blk_cell BK301.out 4).trans rfl, (blk_cell BK301.out 5).trans rfl⟩ (fun hHeld => ?_)
            clear hK K
            refine norm_ (a' := ?_) ?_ ?_
            rotate_left
            ·
             show Act.put _ (some 88) _ = _
             simp only [Act.put, sA_, sB_, sC_, i64_w, i32_w]
             rfl
            refine one_ (i := 4) (N := some 89) #[true, true, true, true, true, false, false, false, false, false] rfl rfl (one_of HT_.out (by kernel_rfl)) (by decide) (fun K hK => ?_)
            refine goes_ Try.func32 (by kernel_rfl) rfl #[.slice Ao76 t341.length co76, .agg #[.string t344, .int .i8 t345, .string t346, .string t347, .int .i64 t348, .int .i64 t349]] (by rfl) rfl rfl (by (try simp only [List.map_toArray, List.map_cons, List.map_nil]); first | done | rfl | (simp only [List.length_drop, List.length_take]; rfl)) ?_
            with_reducible refine (impl_WriteLine.calls kj46 _ _ t341 t344 t345 t346 t347 t348 t349 t350 t353 _ ?side1 ?side2 A68.out).mono ?_
            (case side1 => repeat (first | exact (Kd.R_reads' HO343.out).2.2 | (with_reducible refine Kd.C_alloc ?_ _) | (with_reducible refine Kd.C_drewN ?_ _) | (with_reducible refine Kd.C_drew ?_)))
            (case side2 => exact (Kd.R_reads' HO343.out).2.1)
            rintro e w77 ⟨v351, rfl, ho0, hb⟩
            refine ⟨_, rfl, ?_⟩
            have n0_ := Aside0.mk (Kd.R_elder' (by (with_reducible repeat (first | apply Kd.R_alloc | apply Kd.R_drewN | apply Kd.R_drew)); exact HO_6.out) (Kd.R_base ho0) hb)
            have n1_ := Aside0.mk (Kd.R_elder' (by (with_reducible repeat (first | apply Kd.R_alloc | apply Kd.R_drewN | apply Kd.R_drew)); exact HO_9.out) (Kd.R_base ho0) hb)
            have n2_ := Aside0.mk (Kd.R_elder' (by (with_reducible repeat (first | apply Kd.R_alloc | apply Kd.R_drewN | apply Kd.R_drew)); exact HO343.out) (Kd.R_base ho0) hb)
            have n3_ := Aside0.mk (Kd.R_lower (Kd.R_new' (Kd.R_new' (Kd.R_new' ho0 (Kd.R_lt (by (with_reducible repeat (first | apply Kd.R_alloc | apply Kd.R_drewN | apply Kd.R_drew)); exact HO_6.out))) (Kd.R_lt (by (with_reducible repeat (first | apply Kd.R_alloc | apply Kd.R_drewN | apply Kd.R_drew)); exact HO_9.out))) (Kd.R_lt (by (with_reducible repeat (first | apply Kd.R_alloc | apply Kd.R_drewN | apply Kd.R_drew)); exact HO343.out))) (below_size (by repeat (first | (with_reducible first | exact HB.out | apply below_alloc | apply pw_below_drewN | apply below_drew1 | refine below_set ?_ GE301.out) | exact HB.out))))
            have n4_ := Aside0.mk (blk_below (g := gb301) (o := .cells #[.string a1_0, .int .i8 a1_1, .string a1_2, .string a1_3, .int .i64 a1_4, .int .i64 a1_5] 42 (0, 0)) (by (with_reducible repeat (first | refine blk_drewN ?_ _ | refine blk_drew ?_ | refine blk_alloc ?_ _)); exact BK301.out) hb)
            have n5_ := Aside0.mk (below_step (by repeat (first | (with_reducible first | exact HB.out | apply below_alloc | apply pw_below_drewN | apply below_drew1 | refine below_set ?_ GE301.out) | exact HB.out)) hb)
            clear HO_6
            clear HO_9
            clear HO343
            clear BK301
            clear HB
            have HO_6 := n0_
            have HO_9 := n1_
            have HO343 := n2_
            have HO352 := n3_
            have BK301 := n4_
            have HB := n5_
            clear n0_ n1_ n2_ n3_ n4_ n5_
            (try clear hb)
            (try clear hb2)
            (try clear hk)
            (try clear hi)
            (try clear ho0)
            refine hK.out _ _ ⟨(blk_cell BK301.out 0).trans rfl, (blk_cell BK301.out 1).trans rfl, (blk_cell BK301.out 2).trans rfl, (blk_cell BK301.out 3).trans rfl, (blk_cell BK301.out 4).trans rfl, (blk_cell BK301.out 5).trans rfl⟩ (fun hHeld => ?_)
            clear hK K
            refine norm_ (a' := ?_) ?_ ?_
            rotate_left
            ·
             show Act.put _ (some 89) _ = _
             simp only [Act.put, sA_, sB_, sC_, i64_w, i32_w]
             rfl
            refine pure_ (i := 5) (N := some 84) (v := ?_) (a' := ?_) #[true, true, true, true, true, true, false, false, false, false] rfl rfl (any_of HT_.out (by kernel_rfl)) (fun _ _ _ h => h) (Or.inl ⟨by rfl, ?_⟩) ?_ ?_
            rotate_left
            ·
             intro w'
             go_simp
             with_reducible rfl
            rotate_left
            ·
             simp only [Act.put, sA_, sB_, sC_, i64_w, i32_w]
             rfl
            refine pure_ (i := 6) (N := some 90) (v := ?_) (a' := ?_) #[true, true, true, true, true, true, true, false, false, false] rfl rfl (any_of HT_.out (by kernel_rfl)) (fun _ _ _ h => h) (Or.inl ⟨by rfl, ?_⟩) ?_ ?_
            rotate_left
            ·
             intro w'
             go_simp
             with_reducible rfl
            rotate_left
            ·
             simp only [Act.put, sA_, sB_, sC_, i64_w, i32_w]
             rfl
            refine pure_ (i := 7) (N := some 91) (v := ?_) (a' := ?_) #[true, true, true, true, true, true, true, true, false, false] rfl rfl (any_of HT_.out (by kernel_rfl)) (fun _ _ _ h => h) (Or.inl ⟨by rfl, ?_⟩) ?_ ?_
            rotate_left
            ·
             intro w'
             go_simp
             with_reducible rfl
            rotate_left
            ·
             simp only [Act.put, sA_, sB_, sC_, i64_w, i32_w]
             rfl
            refine pure_ (i := 8) (N := some 14) (v := ?_) (a' := ?_) #[true, true, true, true, true, true, true, true, true, false] rfl rfl (any_of HT_.out (by kernel_rfl)) (fun _ _ _ h => h) (Or.inl ⟨by rfl, ?_⟩) ?_ ?_
            rotate_left
            ·
             intro w'
             go_simp
             with_reducible rfl
            rotate_left
            ·
             simp only [Act.put, sA_, sB_, sC_, i64_w, i32_w]
             rfl
            refine pure_ (i := 9) (N := some 15) (v := ?_) (a' := ?_) #[true, true, true, true, true, true, true, true, true, true] rfl rfl (any_of HT_.out (by kernel_rfl)) (fun _ _ _ h => h) (Or.inl ⟨by rfl, ?_⟩) ?_ ?_
            rotate_left
            ·
             intro w'
             go_simp
             with_reducible rfl
            rotate_left
            ·
             simp only [Act.put, sA_, sB_, sC_, i64_w, i32_w]
             rfl
            refine done_ (done_of HT_.out (by kernel_rfl)) ?_
            go_upto_region 28 with (fail)
            go_cut [100] (fun v100 wc => ∃ (kq : Nat) (x100_68 : Bool), v100 = .bool x100_68 ∧ Aside0 (laws_FnExactWriteLine.j2 kq t339 t338 x100_68 = some true) ∧ Aside0 (kq ≤ kj46) ∧ Aside0 (Kd.R k45 45 wc w.heap.size (fun _ => True) (.slice Ao70 t326.length co70) t339) ∧ Aside0 (wc.heap[gb301]? = some (.cells #[.string a1_0, .int .i8 a1_1, .string a1_2, .string a1_3, .int .i64 a1_4, .int .i64 a1_5] 42 (0, 0))) ∧ Aside0 (Below w.heap.size w wc))
            case first =>
             have H := HC69.out
             clear HC69
             replace H := Option.bind_eq_some_iff.mp H
             obtain ⟨t354, A780, H⟩ := H
             replace H : (if t354 = true then (laws_FnExactWriteLine.j2 kj46 t339 t338 (t353 != t316)) else (laws_FnExactWriteLine.j2 kj46 t339 t338 true)) = some true := H
             have A78 := Aside0.mk A780
             clear A780
             by_cases c79 : t354 = true
             ·
              subst c79
              have H1 : (laws_FnExactWriteLine.j2 kj46 t339 t338 (t353 != t316)) = some true := by first | (rw [if_pos rfl] at H; exact H) | rfl
              clear H
              have H := H1
              clear H1
              have H' := Aside0.mk H
              clear H
              obtain ⟨Ao80, co80, eo80⟩ := Kd.R_slice HO352.out
              subst eo80
              obtain ⟨Ao81, co81, eo81⟩ := Kd.R_slice HO_6.out
              subst eo81
              go_wp2_with (first | ((with_reducible refine gate_callee (f := 18) rfl ?_); refine goesL_ (some 94) rfl rfl Try.func18 (by kernel_rfl) rfl #[.slice Ao80 t350.length co80, .slice Ao81 t313.length co81] rfl (by (try simp only [List.map_toArray, List.map_cons, List.map_nil]); first | done | rfl | (simp only [List.length_drop, List.length_take]; rfl)) ?_; (with_reducible refine (laws_eqLineS.calls kj46 _ _ t350 _ _ t313 true _ ?side1 ?side2 ?side3 ?side4 A78.out).mono ?_); (case side1 => repeat (first | exact (Kd.R_reads' HO352.out).2.2 | (with_reducible refine Kd.C_alloc ?_ _) | (with_reducible refine Kd.C_drewN ?_ _) | (with_reducible refine Kd.C_drew ?_))); (case side2 => exact (Kd.R_reads' HO352.out).2.1); (case side3 => repeat (first | exact (Kd.R_reads' HO_6.out).2.2 | (with_reducible refine Kd.C_alloc ?_ _) | (with_reducible refine Kd.C_drewN ?_ _) | (with_reducible refine Kd.C_drew ?_))); (case side4 => exact (Kd.R_reads' HO_6.out).2.1); rintro e w82 ⟨rfl, hb⟩; refine ⟨_, rfl, ?_⟩; have n0_ := Aside0.mk (Kd.R_below (by (with_reducible repeat (first | apply Kd.R_alloc | apply Kd.R_drewN | apply Kd.R_drew)); exact HO_6.out) hb); have n1_ := Aside0.mk (Kd.R_below (by (with_reducible repeat (first | apply Kd.R_alloc | apply Kd.R_drewN | apply Kd.R_drew)); exact HO_9.out) hb); have n2_ := Aside0.mk (Kd.R_below (by (with_reducible repeat (first | apply Kd.R_alloc | apply Kd.R_drewN | apply Kd.R_drew)); exact HO343.out) hb); have n3_ := Aside0.mk (Kd.R_below (by (with_reducible repeat (first | apply Kd.R_alloc | apply Kd.R_drewN | apply Kd.R_drew)); exact HO352.out) hb); have n4_ := Aside0.mk (blk_below (g := gb301) (o := .cells #[.string a1_0, .int .i8 a1_1, .string a1_2, .string a1_3, .int .i64 a1_4, .int .i64 a1_5] 42 (0, 0)) (by (with_reducible repeat (first | refine blk_drewN ?_ _ | refine blk_drew ?_ | refine blk_alloc ?_ _)); exact BK301.out) hb); have n5_ := Aside0.mk (below_step (by repeat (first | (with_reducible first | exact HB.out | apply below_alloc | apply pw_below_drewN | apply below_drew1 | refine below_set ?_ GE301.out) | exact HB.out)) hb); clear HO_6; clear HO_9; clear HO343; clear HO352; clear BK301; clear HB; have HO_6 := n0_; have HO_9 := n1_; have HO343 := n2_; have HO352 := n3_; have BK301 := n4_; have HB := n5_; clear n0_ n1_ n2_ n3_ n4_ n5_; (try clear hb); (try clear hb2); (try clear hk); (try clear hi)))
              go_meet
              case rel => exact ⟨_, ((t353 != t316)), (by first | rfl | (simp; done) | (simp [*]; done) | (simp [isE_]; done)), H', ⟨by have := HJ18.out; have := HJ46.out; first | omega | exact Nat.le_refl _⟩, ⟨by (with_reducible repeat (first | apply Kd.R_alloc | apply Kd.R_drewN | apply Kd.R_drew)); exact Kd.R_mono HO_9.out (fun _ hk => trivial)⟩, ⟨by (with_reducible repeat (first | refine blk_drewN ?_ _ | refine blk_drew ?_ | refine blk_alloc ?_ _)); exact BK301.out⟩, ⟨by repeat (first | (with_reducible first | exact HB.out | apply below_alloc | apply pw_below_drewN | apply below_drew1 | refine below_set ?_ GE301.out) | exact HB.out)⟩⟩
             ·
              replace c79 := Bool.eq_false_iff.mpr c79
              subst c79
              have H1 : (laws_FnExactWriteLine.j2 kj46 t339 t338 true) = some true := by first | (rw [if_neg (show ¬ (false = true) by decide)] at H; exact H) | rfl
              clear H
              have H := H1
              clear H1
              have H' := Aside0.mk H
              clear H
              obtain ⟨Ao83, co83, eo83⟩ := Kd.R_slice HO352.out
              subst eo83
              obtain ⟨Ao84, co84, eo84⟩ := Kd.R_slice HO_6.out
              subst eo84
              go_wp2_with (first | ((with_reducible refine gate_callee (f := 18) rfl ?_); refine goesL_ (some 94) rfl rfl Try.func18 (by kernel_rfl) rfl #[.slice Ao83 t350.length co83, .slice Ao84 t313.length co84] rfl (by (try simp only [List.map_toArray, List.map_cons, List.map_nil]); first | done | rfl | (simp only [List.length_drop, List.length_take]; rfl)) ?_; (with_reducible refine (laws_eqLineS.calls kj46 _ _ t350 _ _ t313 false _ ?side1 ?side2 ?side3 ?side4 A78.out).mono ?_); (case side1 => repeat (first | exact (Kd.R_reads' HO352.out).2.2 | (with_reducible refine Kd.C_alloc ?_ _) | (with_reducible refine Kd.C_drewN ?_ _) | (with_reducible refine Kd.C_drew ?_))); (case side2 => exact (Kd.R_reads' HO352.out).2.1); (case side3 => repeat (first | exact (Kd.R_reads' HO_6.out).2.2 | (with_reducible refine Kd.C_alloc ?_ _) | (with_reducible refine Kd.C_drewN ?_ _) | (with_reducible refine Kd.C_drew ?_))); (case side4 => exact (Kd.R_reads' HO_6.out).2.1); rintro e w85 ⟨rfl, hb⟩; refine ⟨_, rfl, ?_⟩; have n0_ := Aside0.mk (Kd.R_below (by (with_reducible repeat (first | apply Kd.R_alloc | apply Kd.R_drewN | apply Kd.R_drew)); exact HO_6.out) hb); have n1_ := Aside0.mk (Kd.R_below (by (with_reducible repeat (first | apply Kd.R_alloc | apply Kd.R_drewN | apply Kd.R_drew)); exact HO_9.out) hb); have n2_ := Aside0.mk (Kd.R_below (by (with_reducible repeat (first | apply Kd.R_alloc | apply Kd.R_drewN | apply Kd.R_drew)); exact HO343.out) hb); have n3_ := Aside0.mk (Kd.R_below (by (with_reducible repeat (first | apply Kd.R_alloc | apply Kd.R_drewN | apply Kd.R_drew)); exact HO352.out) hb); have n4_ := Aside0.mk (blk_below (g := gb301) (o := .cells #[.string a1_0, .int .i8 a1_1, .string a1_2, .string a1_3, .int .i64 a1_4, .int .i64 a1_5] 42 (0, 0)) (by (with_reducible repeat (first | refine blk_drewN ?_ _ | refine blk_drew ?_ | refine blk_alloc ?_ _)); exact BK301.out) hb); have n5_ := Aside0.mk (below_step (by repeat (first | (with_reducible first | exact HB.out | apply below_alloc | apply pw_below_drewN | apply below_drew1 | refine below_set ?_ GE301.out) | exact HB.out)) hb); clear HO_6; clear HO_9; clear HO343; clear HO352; clear BK301; clear HB; have HO_6 := n0_; have HO_9 := n1_; have HO343 := n2_; have HO352 := n3_; have BK301 := n4_; have HB := n5_; clear n0_ n1_ n2_ n3_ n4_ n5_; (try clear hb); (try clear hb2); (try clear hk); (try clear hi)))
              go_meet
              case rel => exact ⟨_, (true), (by first | rfl | (simp; done) | (simp [*]; done) | (simp [isE_]; done)), H', ⟨by have := HJ18.out; have := HJ46.out; first | omega | exact Nat.le_refl _⟩, ⟨by (with_reducible repeat (first | apply Kd.R_alloc | apply Kd.R_drewN | apply Kd.R_drew)); exact Kd.R_mono HO_9.out (fun _ hk => trivial)⟩, ⟨by (with_reducible repeat (first | refine blk_drewN ?_ _ | refine blk_drew ?_ | refine blk_alloc ?_ _)); exact BK301.out⟩, ⟨by repeat (first | (with_reducible first | exact HB.out | apply below_alloc | apply pw_below_drewN | apply below_drew1 | refine below_set ?_ GE301.out) | exact HB.out)⟩⟩
            case rest =>
             clear HC69
             try clear c1
             try clear c2
             try clear p2
             try clear c3
             try clear c4
             try clear c4b0
             try clear c5
             try clear c6
             try clear c7
             try clear c8
             try clear c8b0
             try clear c14
             try clear c16
             try clear c18
             try clear c27
             try clear c28
             try clear c29
             try clear c30
             try clear c31
             try clear c32
             try clear c35
             try clear c42
             try clear c45
             try clear c52
             try clear c52b0
             try clear c54
             try clear c61
             try clear c64
             try clear c64b0
             try clear c65
             try clear c65b0
             try clear c65b1
             try clear c79
             try clear hcz11_0
             try clear hcz11_1
             try clear hcz11_2
             try clear hcz11_3
             try clear hcz11_4
             try clear hcz11_5
             try clear hcz22_0
             try clear hcz22_1
             try clear hcz22_2
             try clear hcz22_3
             try clear hcz22_4
             try clear hcz22_5
             try clear hcz30_0
             try clear hcz30_1
             try clear hcz30_2
             try clear hcz30_3
             try clear hcz30_4
             try clear hcz30_5
             try clear hfz11_0
             try clear hfz11_1
             try clear hfz11_2
             try clear hfz11_3
             try clear hfz11_4
             try clear hfz11_5
             try clear hfz22_0
             try clear hfz22_1
             try clear hfz22_2
             try clear hfz22_3
             try clear hfz22_4
             try clear hfz22_5
             try clear hfz30_0
             try clear hfz30_1
             try clear hfz30_2
             try clear hfz30_3
             try clear hfz30_4
             try clear hfz30_5
             try clear p2
             obtain ⟨kq, x100_68, rfl, HA, HJ68, HO_9, BK301, HB⟩ := hcut
             have hl9_68 := (Kd.R_reads' HO_9.out).1
             rw [hl9_68] at HO_9
             (try simp only [hl9_68])
             (try simp only [hl9_68] at BK301)
             cases kq with
             | zero => exact absurd HA.out (by simp [laws_FnExactWriteLine.j2])
             | succ kj68 =>
              have H := HA.out
              clear HA
              simp only [laws_FnExactWriteLine.j2] at H
              by_cases c86 : x100_68 = true
              ·
               subst c86
               have H1 : (some false) = some true := by first | (rw [if_pos rfl] at H; exact H) | rfl
               clear H
               have H := H1
               clear H1
               exact absurd H (by decide)
              ·
               replace c86 := Bool.eq_false_iff.mpr c86
               subst c86
               have H1 : ((laws_heldLineS.f kj68 t339 1).bind fun t355 => (if t355 < 0 then (some false) else (if t355 = t338 then (some true) else (some false)))) = some true := by first | (rw [if_neg (show ¬ (false = true) by decide)] at H; exact H) | rfl
               clear H
               have H := H1
               clear H1
               replace H := Option.bind_eq_some_iff.mp H
               obtain ⟨t355, A870, H⟩ := H
               replace H : (if t355 < 0 then (some false) else (if t355 = t338 then (some true) else (some false))) = some true := H
               have A87 := Aside0.mk A870
               clear A870
               by_cases c88 : t355 < 0
               ·
                rw [if_pos c88] at H
                have c88b0 : decide (t355 < 0) = true := decide_eq_true c88
                clear c88
                exact absurd H (by decide)
               ·
                rw [if_neg c88] at H
                have c88b0 : decide (t355 < 0) = false := decide_eq_false c88
                clear c88
                by_cases c89 : t355 = t338
                ·
                 rw [if_pos c89] at H
                 have c89b0 : (t355 == t338) = true := beq_iff_eq.mpr c89
                 have c89b1 : (t355 != t338) = false := bne_eq_false_iff_eq.mpr c89
                 clear c89
                 clear H
                 go_wp2_with (first | ((with_reducible refine gate_callee (f := 28) rfl ?_); refine goesL_ (some 103) rfl rfl Try.func28 (by kernel_rfl) rfl #[.slice Ao70 t339.length co70, .int .i64 1] rfl (by (try simp only [List.map_toArray, List.map_cons, List.map_nil]); first | done | rfl | (simp only [List.length_drop, List.length_take]; rfl)) ?_; (with_reducible refine (laws_heldLineS.calls kj68 _ _ t339 1 t355 _ ?side1 ?side2 A87.out).mono ?_); (case side1 => repeat (first | exact (Kd.R_reads' HO_9.out).2.2 | (with_reducible refine Kd.C_alloc ?_ _) | (with_reducible refine Kd.C_drewN ?_ _) | (with_reducible refine Kd.C_drew ?_))); (case side2 => exact (Kd.R_reads' HO_9.out).2.1); rintro e w90 ⟨rfl, hb⟩; refine ⟨_, rfl, ?_⟩; have n0_ := Aside0.mk (Kd.R_below (by (with_reducible repeat (first | apply Kd.R_alloc | apply Kd.R_drewN | apply Kd.R_drew)); exact HO_9.out) hb); have n1_ := Aside0.mk (blk_below (g := gb301) (o := .cells #[.string a1_0, .int .i8 a1_1, .string a1_2, .string a1_3, .int .i64 a1_4, .int .i64 a1_5] 42 (0, 0)) (by (with_reducible repeat (first | refine blk_drewN ?_ _ | refine blk_drew ?_ | refine blk_alloc ?_ _)); exact BK301.out) hb); have n2_ := Aside0.mk (below_step (by repeat (first | (with_reducible first | exact HB.out | apply below_alloc | apply pw_below_drewN | apply below_drew1 | refine below_set ?_ GE301.out) | exact HB.out)) hb); clear HO_9; clear BK301; clear HB; have HO_9 := n0_; have BK301 := n1_; have HB := n2_; clear n0_ n1_ n2_; (try clear hb); (try clear hb2); (try clear hk); (try clear hi)))
                 go_ret
                 exact ⟨by first | rfl | (simp [errW_none, errW_some] <;> rfl) | (simp [*, errW_none, errW_some] <;> rfl), by repeat (first | (with_reducible first | exact HB.out | apply below_alloc | apply pw_below_drewN | apply below_drew1 | refine below_set ?_ GE301.out) | exact HB.out)⟩
                ·
                 rw [if_neg c89] at H
                 have c89b0 : (t355 == t338) = false := beq_eq_false_iff_ne.mpr c89
                 have c89b1 : (t355 != t338) = true := bne_iff_ne.mpr c89
                 exact absurd H (by decide)
           ·
            rw [if_neg c65] at H
            have c65b0 : (t340 == t338) = false := beq_eq_false_iff_ne.mpr c65
            have c65b1 : (t340 != t338) = true := bne_iff_ne.mpr c65
            exact absurd H (by decide)
      ·
       replace c45 := Bool.eq_false_iff.mpr c45
       subst c45
       have H1 : (some false) = some true := by first | (rw [if_neg (show ¬ (false = true) by decide)] at H; exact H) | rfl
       clear H
       have H := H1
       clear H1
       exact absurd H (by decide)
end Go.Proofs.Ytenhgmddpkiliaa.PB

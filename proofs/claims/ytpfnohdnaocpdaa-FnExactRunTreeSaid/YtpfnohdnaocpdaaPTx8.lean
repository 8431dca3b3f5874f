-- Written by a program (xprint.py) out of the translation's own print; Lean checks it.
import Derived.Test.YtpfnohdnaocpdaaPTx0
import Derived.Test.YtpfnohdnaocpdaaPTx1
import Derived.Test.YtpfnohdnaocpdaaPTx2
import Derived.Test.YtpfnohdnaocpdaaPTx3
import Derived.Test.YtpfnohdnaocpdaaPTx5
import Derived.Test.YtpfnohdnaocpdaaPTx6
import Derived.Test.YtpfnohdnaocpdaaPTx7
namespace Go.Proofs.Ytpfnohdnaocpdaa.PT
open Go.RowKit Go.Proofs.YtpfnohdnaocpdaaW.PrintWords Go.Proofs.YtpfnohdnaocpdaaW.PrintLast Go.Proofs.YtpfnohdnaocpdaaW.PrintMore Go.Proofs.YtpfnohdnaocpdaaRP
attribute [local go_sem] max2_int min2_int max_two min_two max_three min_three max_four min_four Go.Proofs.YtpfnohdnaocpdaaRP.max_eight   -- for this text's walks alone
set_option linter.unusedVariables false
set_option linter.unusedSimpArgs false
/-! ### laws_FnExactRunTree: function 3 -/
mutual
def laws_FnExactRunTree.j0 : Nat → Int → List Int → Int → Int → List Int → Int → Int → Bool → List (S158) → List Int → List Int → List (S89) → List Int → List Int → Option (Bool)
 | 0, _, _, _, _, _, _, _, _, _, _, _, _, _, _ => none
 | k + 1, x2, x8, x9, x10, x13, x14, x15, x67, x254000, x255000, x255001, x275000, x282000, x282001 => if x67 = true then (some false) else ((laws_toTree.f k x254000).bind fun t288 => ((laws_eqTree.f k x275000 t288).bind fun t291 => (if t291 = true then ((laws_toStream.f k x255000 x255001).bind fun bt292 => ((laws_eqStream.f k x282000 x282001 bt292.1 bt292.2).bind fun t298 => (if t298 = true then ((laws_markTree.f k x275000 1).bind fun bt299 => ((laws_markStream.f k x282000 x282001 bt299.1).bind fun bt301 => (if bt301.1 < 0 then (laws_FnExactRunTree.j1 k x2 x8 x9 x10 x13 true x254000 x255000 x255001) else ((laws_eqInt8S.f k x13 x8).bind fun t304 => (if t304 = true then (if x14 = x9 then (laws_FnExactRunTree.j1 k x2 x8 x9 x10 x13 (x15 != x10) x254000 x255000 x255001) else (laws_FnExactRunTree.j1 k x2 x8 x9 x10 x13 true x254000 x255000 x255001)) else (laws_FnExactRunTree.j1 k x2 x8 x9 x10 x13 true x254000 x255000 x255001)))))) else (some false)))) else (some false))))
def laws_FnExactRunTree.j1 : Nat → Int → List Int → Int → Int → List Int → Bool → List (S158) → List Int → List Int → Option (Bool)
 | 0, _, _, _, _, _, _, _, _, _ => none
 | k + 1, x2, x8, x9, x10, x13, x101, x254000, x255000, x255001 => if x101 = true then (some false) else ((laws_markInt8S.f k x13 1).bind fun bt305 => ((laws_heldInt8S.f k bt305.2 1).bind fun t307 => (if t307 < 0 then (some false) else (if t307 = bt305.1 then ((laws_toTree.f k x254000).bind fun t308 => ((laws_toStream.f k x255000 x255001).bind fun bt311 => ((impl_RunTree.f k t308 bt311.1 bt311.2 x2).bind fun bt317 => ((laws_eqInt8S.f k bt317.1 x8).bind fun t322 => (if t322 = true then (if bt317.2.1 = x9 then (laws_FnExactRunTree.j2 k bt305.2 bt305.1 (bt317.2.2 != x10)) else (laws_FnExactRunTree.j2 k bt305.2 bt305.1 true)) else (laws_FnExactRunTree.j2 k bt305.2 bt305.1 true)))))) else (some false)))))
def laws_FnExactRunTree.j2 : Nat → List Int → Int → Bool → Option (Bool)
 | 0, _, _, _ => none
 | k + 1, x13, x17, x136 => if x136 = true then (some false) else ((laws_heldInt8S.f k x13 1).bind fun t323 => (if t323 < 0 then (some false) else (if t323 = x17 then (some true) else (some false))))
end
def laws_FnExactRunTree.f (k : Nat) (l0_0 : List (S158)) (l1_0 : List Int) (l1_1 : List Int) (a2 : Int) : Option (Bool) := (laws_szTree.f l0_0 1048576).bind fun t255 => (if t255 < 0 then (some true) else ((laws_szStream.f l1_0 l1_1 t255).bind fun t256 => (if t256 < 0 then (some true) else ((laws_toTree.f k l0_0).bind fun t257 => ((laws_toStream.f k l1_0 l1_1).bind fun bt260 => ((spec_RunTree.f k t257 bt260.1 bt260.2 a2).bind fun bt266 => ((laws_toTree.f k l0_0).bind fun t271 => ((laws_toStream.f k l1_0 l1_1).bind fun bt275 => ((impl_RunTree.f k t271 bt275.1 bt275.2 a2).bind fun bt282 => ((laws_eqInt8S.f k bt282.1 bt266.1).bind fun t287 => (if t287 = true then (if bt282.2.1 = bt266.2.1 then (laws_FnExactRunTree.j0 k a2 bt266.1 bt266.2.1 bt266.2.2 bt282.1 bt282.2.1 bt282.2.2 (bt282.2.2 != bt266.2.2) l0_0 l1_0 l1_1 t271 bt275.1 bt275.2) else (laws_FnExactRunTree.j0 k a2 bt266.1 bt266.2.1 bt266.2.2 bt282.1 bt282.2.1 bt282.2.2 true l0_0 l1_0 l1_1 t271 bt275.1 bt275.2)) else (laws_FnExactRunTree.j0 k a2 bt266.1 bt266.2.1 bt266.2.2 bt282.1 bt282.2.1 bt282.2.2 true l0_0 l1_0 l1_1 t271 bt275.1 bt275.2))))))))))))
theorem laws_FnExactRunTree.mono_l : ∀ k, (∀ y0 y1 y2 y3 y4 y5 y6 y7 y8 y9 y10 y11 y12 y13, LeO (laws_FnExactRunTree.j0 k y0 y1 y2 y3 y4 y5 y6 y7 y8 y9 y10 y11 y12 y13) (laws_FnExactRunTree.j0 (k + 1) y0 y1 y2 y3 y4 y5 y6 y7 y8 y9 y10 y11 y12 y13)) ∧ (∀ y0 y1 y2 y3 y4 y5 y6 y7 y8, LeO (laws_FnExactRunTree.j1 k y0 y1 y2 y3 y4 y5 y6 y7 y8) (laws_FnExactRunTree.j1 (k + 1) y0 y1 y2 y3 y4 y5 y6 y7 y8)) ∧ (∀ y0 y1 y2, LeO (laws_FnExactRunTree.j2 k y0 y1 y2) (laws_FnExactRunTree.j2 (k + 1) y0 y1 y2))
 | 0 => ⟨fun _ _ _ _ _ _ _ _ _ _ _ _ _ _ r h => by simp [laws_FnExactRunTree.j0] at h, fun _ _ _ _ _ _ _ _ _ r h => by simp [laws_FnExactRunTree.j1] at h, fun _ _ _ r h => by simp [laws_FnExactRunTree.j2] at h⟩
 | k + 1 => by
  obtain ⟨ih0, ih1, ih2⟩ := laws_FnExactRunTree.mono_l k
  refine ⟨?_, ?_, ?_⟩
  ·
   intro y0 y1 y2 y3 y4 y5 y6 y7 y8 y9 y10 y11 y12 y13
   unfold laws_FnExactRunTree.j0
   repeat' first
   | (with_reducible exact ih0 _ _ _ _ _ _ _ _ _ _ _ _ _ _)
   | (with_reducible exact ih1 _ _ _ _ _ _ _ _ _)
   | (with_reducible exact ih2 _ _ _)
   | (with_reducible exact impl_RunTree.mono _ _ _ _ _)
   | (with_reducible exact laws_eqInt8S.mono _ _ _)
   | (with_reducible exact laws_eqStream.mono _ _ _ _ _)
   | (with_reducible exact laws_eqTree.mono _ _ _)
   | (with_reducible exact laws_heldInt8S.mono _ _ _)
   | (with_reducible exact laws_markInt8S.mono _ _ _)
   | (with_reducible exact laws_markStream.mono _ _ _ _)
   | (with_reducible exact laws_markTree.mono _ _ _)
   | (with_reducible exact laws_toStream.mono _ _ _)
   | (with_reducible exact laws_toTree.mono _ _)
   | (with_reducible exact spec_RunTree.mono _ _ _ _ _)
   | (with_reducible exact LeO.refl _)
   | (with_reducible exact LeO.none _)
   | (with_reducible refine LeO.ite ?_ ?_)
   | (with_reducible refine LeO.bind ?_ (fun _ => ?_))
   | exact ih0 _ _ _ _ _ _ _ _ _ _ _ _ _ _
   | exact ih1 _ _ _ _ _ _ _ _ _
   | exact ih2 _ _ _
   | exact LeO.none _
   | refine LeO.ite ?_ ?_
   | refine LeO.bind ?_ (fun _ => ?_)
  ·
   intro y0 y1 y2 y3 y4 y5 y6 y7 y8
   unfold laws_FnExactRunTree.j1
   repeat' first
   | (with_reducible exact ih0 _ _ _ _ _ _ _ _ _ _ _ _ _ _)
   | (with_reducible exact ih1 _ _ _ _ _ _ _ _ _)
   | (with_reducible exact ih2 _ _ _)
   | (with_reducible exact impl_RunTree.mono _ _ _ _ _)
   | (with_reducible exact laws_eqInt8S.mono _ _ _)
   | (with_reducible exact laws_eqStream.mono _ _ _ _ _)
   | (with_reducible exact laws_eqTree.mono _ _ _)
   | (with_reducible exact laws_heldInt8S.mono _ _ _)
   | (with_reducible exact laws_markInt8S.mono _ _ _)
   | (with_reducible exact laws_markStream.mono _ _ _ _)
   | (with_reducible exact laws_markTree.mono _ _ _)
   | (with_reducible exact laws_toStream.mono _ _ _)
   | (with_reducible exact laws_toTree.mono _ _)
   | (with_reducible exact spec_RunTree.mono _ _ _ _ _)
   | (with_reducible exact LeO.refl _)
   | (with_reducible exact LeO.none _)
   | (with_reducible refine LeO.ite ?_ ?_)
   | (with_reducible refine LeO.bind ?_ (fun _ => ?_))
   | exact ih0 _ _ _ _ _ _ _ _ _ _ _ _ _ _
   | exact ih1 _ _ _ _ _ _ _ _ _
   | exact ih2 _ _ _
   | exact LeO.none _
   | refine LeO.ite ?_ ?_
   | refine LeO.bind ?_ (fun _ => ?_)
  ·
   intro y0 y1 y2
   unfold laws_FnExactRunTree.j2
   repeat' first
   | (with_reducible exact ih0 _ _ _ _ _ _ _ _ _ _ _ _ _ _)
   | (with_reducible exact ih1 _ _ _ _ _ _ _ _ _)
   | (with_reducible exact ih2 _ _ _)
   | (with_reducible exact impl_RunTree.mono _ _ _ _ _)
   | (with_reducible exact laws_eqInt8S.mono _ _ _)
   | (with_reducible exact laws_eqStream.mono _ _ _ _ _)
   | (with_reducible exact laws_eqTree.mono _ _ _)
   | (with_reducible exact laws_heldInt8S.mono _ _ _)
   | (with_reducible exact laws_markInt8S.mono _ _ _)
   | (with_reducible exact laws_markStream.mono _ _ _ _)
   | (with_reducible exact laws_markTree.mono _ _ _)
   | (with_reducible exact laws_toStream.mono _ _ _)
   | (with_reducible exact laws_toTree.mono _ _)
   | (with_reducible exact spec_RunTree.mono _ _ _ _ _)
   | (with_reducible exact LeO.refl _)
   | (with_reducible exact LeO.none _)
   | (with_reducible refine LeO.ite ?_ ?_)
   | (with_reducible refine LeO.bind ?_ (fun _ => ?_))
   | exact ih0 _ _ _ _ _ _ _ _ _ _ _ _ _ _
   | exact ih1 _ _ _ _ _ _ _ _ _
   | exact ih2 _ _ _
   | exact LeO.none _
   | refine LeO.ite ?_ ?_
   | refine LeO.bind ?_ (fun _ => ?_)
theorem laws_FnExactRunTree.mono : ∀ a0 a1 a2 a3 k, LeO (laws_FnExactRunTree.f k a0 a1 a2 a3) (laws_FnExactRunTree.f (k + 1) a0 a1 a2 a3) := by
 intro a0 a1 a2 a3 k
 obtain ⟨ih0, ih1, ih2⟩ := laws_FnExactRunTree.mono_l k
 unfold laws_FnExactRunTree.f
 repeat' first
   | (with_reducible exact ih0 _ _ _ _ _ _ _ _ _ _ _ _ _ _)
   | (with_reducible exact ih1 _ _ _ _ _ _ _ _ _)
   | (with_reducible exact ih2 _ _ _)
   | (with_reducible exact impl_RunTree.mono _ _ _ _ _)
   | (with_reducible exact laws_eqInt8S.mono _ _ _)
   | (with_reducible exact laws_eqStream.mono _ _ _ _ _)
   | (with_reducible exact laws_eqTree.mono _ _ _)
   | (with_reducible exact laws_heldInt8S.mono _ _ _)
   | (with_reducible exact laws_markInt8S.mono _ _ _)
   | (with_reducible exact laws_markStream.mono _ _ _ _)
   | (with_reducible exact laws_markTree.mono _ _ _)
   | (with_reducible exact laws_toStream.mono _ _ _)
   | (with_reducible exact laws_toTree.mono _ _)
   | (with_reducible exact spec_RunTree.mono _ _ _ _ _)
   | (with_reducible exact LeO.refl _)
   | (with_reducible exact LeO.none _)
   | (with_reducible refine LeO.ite ?_ ?_)
   | (with_reducible refine LeO.bind ?_ (fun _ => ?_))
   | exact ih0 _ _ _ _ _ _ _ _ _ _ _ _ _ _
   | exact ih1 _ _ _ _ _ _ _ _ _
   | exact ih2 _ _ _
   | exact LeO.none _
   | refine LeO.ite ?_ ?_
   | refine LeO.bind ?_ (fun _ => ?_)
def laws_FnExactRunTree.T8 : Bool × List (List Nat × List Nat) := (true, [([], []), ([0], [0]), ([], []), ([2, 1], [2]), ([], []), ([1, 3, 4, 3], [1, 3, 4]), ([5], [5]), ([6], [6]), ([6], [6]), ([6], [6]), ([7, 5, 0, 1, 2, 3, 4, 5, 6, 7], [7]), ([8, 10, 0, 1, 2, 3, 4, 5, 6, 7, 8, 10], [8]), ([9, 11, 0, 1, 2, 3, 4, 5, 6, 7, 8, 9, 10, 11], [9])])
def laws_FnExactRunTree.B8 : List Nat := [0, 1, 0, 7, 0, 31, 63, 127, 127, 127, 255, 1535, 4095]
theorem laws_FnExactRunTree.tab8 : rtab .any (opsOf Try.f3 8) = laws_FnExactRunTree.T8 := by kernel_rfl
theorem laws_FnExactRunTree.bits8 : waitsOk laws_FnExactRunTree.T8.2 laws_FnExactRunTree.B8 = true := by kernel_rfl
def laws_FnExactRunTree.T31 : Bool × List (List Nat × List Nat) := (true, [([], []), ([0], [0]), ([], []), ([2, 1], [2]), ([], []), ([1, 3, 4, 3], [1, 3, 4]), ([5], [5]), ([6], [6]), ([6], [6]), ([6], [6]), ([7, 5, 0, 1, 2, 3, 4, 5, 6, 7], [7]), ([8, 10, 0, 1, 2, 3, 4, 5, 6, 7, 8, 10], [8]), ([9, 11, 0, 1, 2, 3, 4, 5, 6, 7, 8, 9, 10, 11], [9])])
def laws_FnExactRunTree.B31 : List Nat := [0, 1, 0, 7, 0, 31, 63, 127, 127, 127, 255, 1535, 4095]
theorem laws_FnExactRunTree.tab31 : rtab .any (opsOf Try.f3 31) = laws_FnExactRunTree.T31 := by kernel_rfl
theorem laws_FnExactRunTree.bits31 : waitsOk laws_FnExactRunTree.T31.2 laws_FnExactRunTree.B31 = true := by kernel_rfl
set_option maxHeartbeats 8000000 in
set_option maxRecDepth 100000 in
theorem laws_FnExactRunTree.calls (k : Nat) (A0_0 : Option Addr) (c0_0 : Nat) (l0_0 : List (S158)) (A1_0 : Option Addr) (c1_0 : Nat) (l1_0 : List Int) (A1_1 : Option Addr) (c1_1 : Nat) (l1_1 : List Int) (a2 : Int) (w : World) (hr0_0 : Kd.C k158 w A0_0 l0_0.length l0_0) (hc0_0 : l0_0.length ≤ c0_0) (hr1_0 : Kd.C (Kd.int .i8) w A1_0 l1_0.length l1_0) (hc1_0 : l1_0.length ≤ c1_0) (hr1_1 : Kd.C (Kd.int .i8) w A1_1 l1_1.length l1_1) (hc1_1 : l1_1.length ≤ c1_1) (h : laws_FnExactRunTree.f k l0_0 l1_0 l1_1 a2 = some true) :
  Calls Try.prog 3 #[.agg #[.slice A0_0 l0_0.length c0_0], .agg #[.slice A1_0 l1_0.length c1_0, .slice A1_1 l1_1.length c1_1], .int .i64 a2] w fun e w' => e = .returned (.bool true) ∧ Below w.heap.size w w' := by
 have hu24 := Try.underlying24
 have hu27 := Try.underlying27
 have hu34 := Try.underlying34
 have hu36 := Try.underlying36
 have HR0_0 := Aside0.mk hr0_0
 have HC0_0 := Aside0.mk hc0_0
 clear hr0_0 hc0_0
 have HR1_0 := Aside0.mk hr1_0
 have HC1_0 := Aside0.mk hc1_0
 clear hr1_0 hc1_0
 have HR1_1 := Aside0.mk hr1_1
 have HC1_1 := Aside0.mk hc1_1
 clear hr1_1 hc1_1
 have HB := Aside0.mk (Below.refl w.heap.size w)
 have H : ((laws_szTree.f l0_0 1048576).bind fun t255 => (if t255 < 0 then (some true) else ((laws_szStream.f l1_0 l1_1 t255).bind fun t256 => (if t256 < 0 then (some true) else ((laws_toTree.f k l0_0).bind fun t257 => ((laws_toStream.f k l1_0 l1_1).bind fun bt260 => ((spec_RunTree.f k t257 bt260.1 bt260.2 a2).bind fun bt266 => ((laws_toTree.f k l0_0).bind fun t271 => ((laws_toStream.f k l1_0 l1_1).bind fun bt275 => ((impl_RunTree.f k t271 bt275.1 bt275.2 a2).bind fun bt282 => ((laws_eqInt8S.f k bt282.1 bt266.1).bind fun t287 => (if t287 = true then (if bt282.2.1 = bt266.2.1 then (laws_FnExactRunTree.j0 k a2 bt266.1 bt266.2.1 bt266.2.2 bt282.1 bt282.2.1 bt282.2.2 (bt282.2.2 != bt266.2.2) l0_0 l1_0 l1_1 t271 bt275.1 bt275.2) else (laws_FnExactRunTree.j0 k a2 bt266.1 bt266.2.1 bt266.2.2 bt282.1 bt282.2.1 bt282.2.2 true l0_0 l1_0 l1_1 t271 bt275.1 bt275.2)) else (laws_FnExactRunTree.j0 k a2 bt266.1 bt266.2.1 bt266.2.2 bt282.1 bt282.2.1 bt282.2.2 true l0_0 l1_0 l1_1 t271 bt275.1 bt275.2))))))))))))) = some true := h
 clear h
 replace H := Option.bind_eq_some_iff.mp H
 obtain ⟨t255, A40, H⟩ := H
 replace H : (if t255 < 0 then (some true) else ((laws_szStream.f l1_0 l1_1 t255).bind fun t256 => (if t256 < 0 then (some true) else ((laws_toTree.f k l0_0).bind fun t257 => ((laws_toStream.f k l1_0 l1_1).bind fun bt260 => ((spec_RunTree.f k t257 bt260.1 bt260.2 a2).bind fun bt266 => ((laws_toTree.f k l0_0).bind fun t271 => ((laws_toStream.f k l1_0 l1_1).bind fun bt275 => ((impl_RunTree.f k t271 bt275.1 bt275.2 a2).bind fun bt282 => ((laws_eqInt8S.f k bt282.1 bt266.1).bind fun t287 => (if t287 = true then (if bt282.2.1 = bt266.2.1 then (laws_FnExactRunTree.j0 k a2 bt266.1 bt266.2.1 bt266.2.2 bt282.1 bt282.2.1 bt282.2.2 (bt282.2.2 != bt266.2.2) l0_0 l1_0 l1_1 t271 bt275.1 bt275.2) else (laws_FnExactRunTree.j0 k a2 bt266.1 bt266.2.1 bt266.2.2 bt282.1 bt282.2.1 bt282.2.2 true l0_0 l1_0 l1_1 t271 bt275.1 bt275.2)) else (laws_FnExactRunTree.j0 k a2 bt266.1 bt266.2.1 bt266.2.2 bt282.1 bt282.2.1 bt282.2.2 true l0_0 l1_0 l1_1 t271 bt275.1 bt275.2)))))))))))) = some true := H
 have A4 := Aside0.mk A40
 clear A40
 by_cases c5 : t255 < 0
 ·
  rw [if_pos c5] at H
  have c5b0 : decide (t255 < 0) = true := decide_eq_true c5
  clear c5
  clear H
  go_enter Try.func3, Try.ntmps3
  go_wp2_with (first | ((with_reducible refine gate_dst (N := 3) rfl ?_); refine box_event ?hg (N := 3) ?hd (cs := #[.slice A0_0 l0_0.length c0_0]) (t := 24) ?hr ?_; (case hd => rfl); (case hg => rfl); (case hr => first | (go_simp; done) | (go_simp; rfl)); intro gb253 hg w6 hbox hb; have n0_ := Aside0.mk (below_step (by repeat (first | (with_reducible first | exact HB.out | apply below_alloc | apply pw_below_drewN | apply below_drew1) | exact HB.out)) hb); have n1_ := Aside0.mk (hbox); have n2_ := Aside0.mk ((by rw [hg]; exact (below_size (by repeat (first | (with_reducible first | exact HB.out | apply below_alloc | apply pw_below_drewN | apply below_drew1) | exact HB.out))) : w.heap.size ≤ gb253)); have n3_ := Aside0.mk ((by rw [hg]; exact (below_size (by repeat (first | (with_reducible first | exact HB.out | apply below_alloc | apply pw_below_drewN | apply below_drew1) | exact HB.out))) : w.heap.size ≤ gb253)); clear HB; have HB := n0_; have BK253 := n1_; have GW253 := n2_; have GE253 := n3_; clear n0_ n1_ n2_ n3_; clear hb hbox hg) | ((with_reducible refine gate_dst (N := 4) rfl ?_); refine box_event ?hg (N := 4) ?hd (cs := #[.slice A1_0 l1_0.length c1_0, .slice A1_1 l1_1.length c1_1]) (t := 27) ?hr ?_; (case hd => rfl); (case hg => rfl); (case hr => first | (go_simp; done) | (go_simp; rfl)); intro gb254 hg w7 hbox hb; have n0_ := Aside0.mk (blk_below (g := gb253) (o := .cells #[.slice A0_0 l0_0.length c0_0] 24 (0, 0)) (by (with_reducible repeat (first | refine blk_drewN ?_ _ | refine blk_drew ?_ | refine blk_alloc ?_ _)); exact BK253.out) hb); have n1_ := Aside0.mk (below_step (by repeat (first | (with_reducible first | exact HB.out | apply below_alloc | apply pw_below_drewN | apply below_drew1 | refine below_set ?_ GE253.out) | exact HB.out)) hb); have n2_ := Aside0.mk (hbox); have n3_ := Aside0.mk ((by rw [hg]; exact (below_size (by repeat (first | (with_reducible first | exact HB.out | apply below_alloc | apply pw_below_drewN | apply below_drew1 | refine below_set ?_ GE253.out) | exact HB.out))) : w.heap.size ≤ gb254)); have n4_ := Aside0.mk ((by rw [hg]; exact (below_size (by repeat (first | (with_reducible first | exact HB.out | apply below_alloc | apply pw_below_drewN | apply below_drew1 | refine below_set ?_ GE253.out) | exact HB.out))) : w.heap.size ≤ gb254)); have n5_ := Aside0.mk ((by rw [hg]; exact Nat.ne_of_lt (blk_lt (g := gb253) (o := .cells #[.slice A0_0 l0_0.length c0_0] 24 (0, 0)) (by (with_reducible repeat (first | refine blk_drewN ?_ _ | refine blk_drew ?_ | refine blk_alloc ?_ _)); exact BK253.out)) : gb253 ≠ gb254)); have n6_ := Aside0.mk ((by rw [hg]; exact Nat.ne_of_gt (blk_lt (g := gb253) (o := .cells #[.slice A0_0 l0_0.length c0_0] 24 (0, 0)) (by (with_reducible repeat (first | refine blk_drewN ?_ _ | refine blk_drew ?_ | refine blk_alloc ?_ _)); exact BK253.out)) : gb254 ≠ gb253)); clear BK253; clear HB; have BK253 := n0_; have HB := n1_; have BK254 := n2_; have GW254 := n3_; have GE254 := n4_; have NB253_254 := n5_; have NB254_253 := n6_; clear n0_ n1_ n2_ n3_ n4_ n5_ n6_; clear hb hbox hg; have hnb8 := NB253_254.out; have hnc8 := NB254_253.out; have hcz9_0 : w7.cell? ⟨gb253, 0, none⟩ = some (.slice A0_0 l0_0.length c0_0) := (blk_cell BK253.out 0).trans rfl; have hfz9_0 := blk_frozen BK253.out 0) | ((with_reducible refine gate_callee (f := 14) rfl ?_); refine goesL_ (some 24) rfl rfl Try.func14 (by kernel_rfl) rfl #[.agg #[.slice A0_0 l0_0.length c0_0], .int .i64 1048576] rfl (by (try simp only [List.map_toArray, List.map_cons, List.map_nil]); first | done | rfl | (simp only [List.length_drop, List.length_take]; rfl)) ?_; (with_reducible refine (laws_szTree.calls _ _ l0_0 1048576 t255 _ ?side1 ?side2 A4.out).mono ?_); (case side1 => repeat (first | exact (Kd.C_below HR0_0.out HB.out) | (with_reducible refine Kd.C_alloc ?_ _) | (with_reducible refine Kd.C_drewN ?_ _) | (with_reducible refine Kd.C_drew ?_))); (case side2 => exact HC0_0.out); rintro e w10 ⟨rfl, hb⟩; refine ⟨_, rfl, ?_⟩; have n0_ := Aside0.mk (blk_below (g := gb253) (o := .cells #[.slice A0_0 l0_0.length c0_0] 24 (0, 0)) (by (with_reducible repeat (first | refine blk_drewN ?_ _ | refine blk_drew ?_ | refine blk_alloc ?_ _)); exact BK253.out) hb); have n1_ := Aside0.mk (blk_below (g := gb254) (o := .cells #[.slice A1_0 l1_0.length c1_0, .slice A1_1 l1_1.length c1_1] 27 (0, 0)) (by (with_reducible repeat (first | refine blk_drewN ?_ _ | refine blk_drew ?_ | refine blk_alloc ?_ _)); exact BK254.out) hb); have n2_ := Aside0.mk (below_step (by repeat (first | (with_reducible first | exact HB.out | apply below_alloc | apply pw_below_drewN | apply below_drew1 | refine below_set ?_ GE253.out | refine below_set ?_ GE254.out) | exact HB.out)) hb); clear BK253; clear BK254; clear HB; have BK253 := n0_; have BK254 := n1_; have HB := n2_; clear n0_ n1_ n2_; (try clear hb); (try clear hb2); (try clear hk); (try clear hi)))
  go_ret
  exact ⟨by first | rfl | (simp [errW_none, errW_some] <;> rfl) | (simp [*, errW_none, errW_some] <;> rfl), by repeat (first | (with_reducible first | exact HB.out | apply below_alloc | apply pw_below_drewN | apply below_drew1 | refine below_set ?_ GE253.out | refine below_set ?_ GE254.out) | exact HB.out)⟩
 ·
  rw [if_neg c5] at H
  have c5b0 : decide (t255 < 0) = false := decide_eq_false c5
  clear c5
  replace H := Option.bind_eq_some_iff.mp H
  obtain ⟨t256, A110, H⟩ := H
  replace H : (if t256 < 0 then (some true) else ((laws_toTree.f k l0_0).bind fun t257 => ((laws_toStream.f k l1_0 l1_1).bind fun bt260 => ((spec_RunTree.f k t257 bt260.1 bt260.2 a2).bind fun bt266 => ((laws_toTree.f k l0_0).bind fun t271 => ((laws_toStream.f k l1_0 l1_1).bind fun bt275 => ((impl_RunTree.f k t271 bt275.1 bt275.2 a2).bind fun bt282 => ((laws_eqInt8S.f k bt282.1 bt266.1).bind fun t287 => (if t287 = true then (if bt282.2.1 = bt266.2.1 then (laws_FnExactRunTree.j0 k a2 bt266.1 bt266.2.1 bt266.2.2 bt282.1 bt282.2.1 bt282.2.2 (bt282.2.2 != bt266.2.2) l0_0 l1_0 l1_1 t271 bt275.1 bt275.2) else (laws_FnExactRunTree.j0 k a2 bt266.1 bt266.2.1 bt266.2.2 bt282.1 bt282.2.1 bt282.2.2 true l0_0 l1_0 l1_1 t271 bt275.1 bt275.2)) else (laws_FnExactRunTree.j0 k a2 bt266.1 bt266.2.1 bt266.2.2 bt282.1 bt282.2.1 bt282.2.2 true l0_0 l1_0 l1_1 t271 bt275.1 bt275.2)))))))))) = some true := H
  have A11 := Aside0.mk A110
  clear A110
  by_cases c12 : t256 < 0
  ·
   rw [if_pos c12] at H
   have c12b0 : decide (t256 < 0) = true := decide_eq_true c12
   clear c12
   clear H
   go_enter Try.func3, Try.ntmps3
   go_wp2_with (first | ((with_reducible refine gate_dst (N := 3) rfl ?_); refine box_event ?hg (N := 3) ?hd (cs := #[.slice A0_0 l0_0.length c0_0]) (t := 24) ?hr ?_; (case hd => rfl); (case hg => rfl); (case hr => first | (go_simp; done) | (go_simp; rfl)); intro gb253 hg w13 hbox hb; have n0_ := Aside0.mk (below_step (by repeat (first | (with_reducible first | exact HB.out | apply below_alloc | apply pw_below_drewN | apply below_drew1) | exact HB.out)) hb); have n1_ := Aside0.mk (hbox); have n2_ := Aside0.mk ((by rw [hg]; exact (below_size (by repeat (first | (with_reducible first | exact HB.out | apply below_alloc | apply pw_below_drewN | apply below_drew1) | exact HB.out))) : w.heap.size ≤ gb253)); have n3_ := Aside0.mk ((by rw [hg]; exact (below_size (by repeat (first | (with_reducible first | exact HB.out | apply below_alloc | apply pw_below_drewN | apply below_drew1) | exact HB.out))) : w.heap.size ≤ gb253)); clear HB; have HB := n0_; have BK253 := n1_; have GW253 := n2_; have GE253 := n3_; clear n0_ n1_ n2_ n3_; clear hb hbox hg) | ((with_reducible refine gate_dst (N := 4) rfl ?_); refine box_event ?hg (N := 4) ?hd (cs := #[.slice A1_0 l1_0.length c1_0, .slice A1_1 l1_1.length c1_1]) (t := 27) ?hr ?_; (case hd => rfl); (case hg => rfl); (case hr => first | (go_simp; done) | (go_simp; rfl)); intro gb254 hg w14 hbox hb; have n0_ := Aside0.mk (blk_below (g := gb253) (o := .cells #[.slice A0_0 l0_0.length c0_0] 24 (0, 0)) (by (with_reducible repeat (first | refine blk_drewN ?_ _ | refine blk_drew ?_ | refine blk_alloc ?_ _)); exact BK253.out) hb); have n1_ := Aside0.mk (below_step (by repeat (first | (with_reducible first | exact HB.out | apply below_alloc | apply pw_below_drewN | apply below_drew1 | refine below_set ?_ GE253.out) | exact HB.out)) hb); have n2_ := Aside0.mk (hbox); have n3_ := Aside0.mk ((by rw [hg]; exact (below_size (by repeat (first | (with_reducible first | exact HB.out | apply below_alloc | apply pw_below_drewN | apply below_drew1 | refine below_set ?_ GE253.out) | exact HB.out))) : w.heap.size ≤ gb254)); have n4_ := Aside0.mk ((by rw [hg]; exact (below_size (by repeat (first | (with_reducible first | exact HB.out | apply below_alloc | apply pw_below_drewN | apply below_drew1 | refine below_set ?_ GE253.out) | exact HB.out))) : w.heap.size ≤ gb254)); have n5_ := Aside0.mk ((by rw [hg]; exact Nat.ne_of_lt (blk_lt (g := gb253) (o := .cells #[.slice A0_0 l0_0.length c0_0] 24 (0, 0)) (by (with_reducible repeat (first | refine blk_drewN ?_ _ | refine blk_drew ?_ | refine blk_alloc ?_ _)); exact BK253.out)) : gb253 ≠ gb254)); have n6_ := Aside0.mk ((by rw [hg]; exact Nat.ne_of_gt (blk_lt (g := gb253) (o := .cells #[.slice A0_0 l0_0.length c0_0] 24 (0, 0)) (by (with_reducible repeat (first | refine blk_drewN ?_ _ | refine blk_drew ?_ | refine blk_alloc ?_ _)); exact BK253.out)) : gb254 ≠ gb253)); clear BK253; clear HB; have BK253 := n0_; have HB := n1_; have BK254 := n2_; have GW254 := n3_; have GE254 := n4_; have NB253_254 := n5_; have NB254_253 := n6_; clear n0_ n1_ n2_ n3_ n4_ n5_ n6_; clear hb hbox hg; have hnb15 := NB253_254.out; have hnc15 := NB254_253.out; have hcz16_0 : w14.cell? ⟨gb253, 0, none⟩ = some (.slice A0_0 l0_0.length c0_0) := (blk_cell BK253.out 0).trans rfl; have hfz16_0 := blk_frozen BK253.out 0) | ((with_reducible refine gate_callee (f := 14) rfl ?_); refine goesL_ (some 24) rfl rfl Try.func14 (by kernel_rfl) rfl #[.agg #[.slice A0_0 l0_0.length c0_0], .int .i64 1048576] rfl (by (try simp only [List.map_toArray, List.map_cons, List.map_nil]); first | done | rfl | (simp only [List.length_drop, List.length_take]; rfl)) ?_; (with_reducible refine (laws_szTree.calls _ _ l0_0 1048576 t255 _ ?side1 ?side2 A4.out).mono ?_); (case side1 => repeat (first | exact (Kd.C_below HR0_0.out HB.out) | (with_reducible refine Kd.C_alloc ?_ _) | (with_reducible refine Kd.C_drewN ?_ _) | (with_reducible refine Kd.C_drew ?_))); (case side2 => exact HC0_0.out); rintro e w17 ⟨rfl, hb⟩; refine ⟨_, rfl, ?_⟩; have n0_ := Aside0.mk (blk_below (g := gb253) (o := .cells #[.slice A0_0 l0_0.length c0_0] 24 (0, 0)) (by (with_reducible repeat (first | refine blk_drewN ?_ _ | refine blk_drew ?_ | refine blk_alloc ?_ _)); exact BK253.out) hb); have n1_ := Aside0.mk (blk_below (g := gb254) (o := .cells #[.slice A1_0 l1_0.length c1_0, .slice A1_1 l1_1.length c1_1] 27 (0, 0)) (by (with_reducible repeat (first | refine blk_drewN ?_ _ | refine blk_drew ?_ | refine blk_alloc ?_ _)); exact BK254.out) hb); have n2_ := Aside0.mk (below_step (by repeat (first | (with_reducible first | exact HB.out | apply below_alloc | apply pw_below_drewN | apply below_drew1 | refine below_set ?_ GE253.out | refine below_set ?_ GE254.out) | exact HB.out)) hb); clear BK253; clear BK254; clear HB; have BK253 := n0_; have BK254 := n1_; have HB := n2_; clear n0_ n1_ n2_; (try clear hb); (try clear hb2); (try clear hk); (try clear hi); have hcz18_0 : w17.cell? ⟨gb254, 0, none⟩ = some (.slice A1_0 l1_0.length c1_0) := (blk_cell BK254.out 0).trans rfl; have hcz18_1 : w17.cell? ⟨gb254, 1, none⟩ = some (.slice A1_1 l1_1.length c1_1) := (blk_cell BK254.out 1).trans rfl; have hfz18_0 := blk_frozen BK254.out 0; have hfz18_1 := blk_frozen BK254.out 1) | ((with_reducible refine gate_callee (f := 15) rfl ?_); refine goesL_ (some 29) rfl rfl Try.func15 (by kernel_rfl) rfl #[.agg #[.slice A1_0 l1_0.length c1_0, .slice A1_1 l1_1.length c1_1], .int .i64 t255] rfl (by (try simp only [List.map_toArray, List.map_cons, List.map_nil]); first | done | rfl | (simp only [List.length_drop, List.length_take]; rfl)) ?_; (with_reducible refine (laws_szStream.calls _ _ l1_0 _ _ l1_1 t255 t256 _ ?side1 ?side2 ?side3 ?side4 A11.out).mono ?_); (case side1 => repeat (first | exact (Kd.C_below HR1_0.out HB.out) | (with_reducible refine Kd.C_alloc ?_ _) | (with_reducible refine Kd.C_drewN ?_ _) | (with_reducible refine Kd.C_drew ?_))); (case side2 => exact HC1_0.out); (case side3 => repeat (first | exact (Kd.C_below HR1_1.out HB.out) | (with_reducible refine Kd.C_alloc ?_ _) | (with_reducible refine Kd.C_drewN ?_ _) | (with_reducible refine Kd.C_drew ?_))); (case side4 => exact HC1_1.out); rintro e w19 ⟨rfl, hb⟩; refine ⟨_, rfl, ?_⟩; have n0_ := Aside0.mk (blk_below (g := gb253) (o := .cells #[.slice A0_0 l0_0.length c0_0] 24 (0, 0)) (by (with_reducible repeat (first | refine blk_drewN ?_ _ | refine blk_drew ?_ | refine blk_alloc ?_ _)); exact BK253.out) hb); have n1_ := Aside0.mk (blk_below (g := gb254) (o := .cells #[.slice A1_0 l1_0.length c1_0, .slice A1_1 l1_1.length c1_1] 27 (0, 0)) (by (with_reducible repeat (first | refine blk_drewN ?_ _ | refine blk_drew ?_ | refine blk_alloc ?_ _)); exact BK254.out) hb); have n2_ := Aside0.mk (below_step (by repeat (first | (with_reducible first | exact HB.out | apply below_alloc | apply pw_below_drewN | apply below_drew1 | refine below_set ?_ GE253.out | refine below_set ?_ GE254.out) | exact HB.out)) hb); clear BK253; clear BK254; clear HB; have BK253 := n0_; have BK254 := n1_; have HB := n2_; clear n0_ n1_ n2_; (try clear hb); (try clear hb2); (try clear hk); (try clear hi)))
   go_ret
   exact ⟨by first | rfl | (simp [errW_none, errW_some] <;> rfl) | (simp [*, errW_none, errW_some] <;> rfl), by repeat (first | (with_reducible first | exact HB.out | apply below_alloc | apply pw_below_drewN | apply below_drew1 | refine below_set ?_ GE253.out | refine below_set ?_ GE254.out) | exact HB.out)⟩
  ·
   rw [if_neg c12] at H
   have c12b0 : decide (t256 < 0) = false := decide_eq_false c12
   clear c12
   replace H := Option.bind_eq_some_iff.mp H
   obtain ⟨t257, A200, H⟩ := H
   replace H : ((laws_toStream.f k l1_0 l1_1).bind fun bt260 => ((spec_RunTree.f k t257 bt260.1 bt260.2 a2).bind fun bt266 => ((laws_toTree.f k l0_0).bind fun t271 => ((laws_toStream.f k l1_0 l1_1).bind fun bt275 => ((impl_RunTree.f k t271 bt275.1 bt275.2 a2).bind fun bt282 => ((laws_eqInt8S.f k bt282.1 bt266.1).bind fun t287 => (if t287 = true then (if bt282.2.1 = bt266.2.1 then (laws_FnExactRunTree.j0 k a2 bt266.1 bt266.2.1 bt266.2.2 bt282.1 bt282.2.1 bt282.2.2 (bt282.2.2 != bt266.2.2) l0_0 l1_0 l1_1 t271 bt275.1 bt275.2) else (laws_FnExactRunTree.j0 k a2 bt266.1 bt266.2.1 bt266.2.2 bt282.1 bt282.2.1 bt282.2.2 true l0_0 l1_0 l1_1 t271 bt275.1 bt275.2)) else (laws_FnExactRunTree.j0 k a2 bt266.1 bt266.2.1 bt266.2.2 bt282.1 bt282.2.1 bt282.2.2 true l0_0 l1_0 l1_1 t271 bt275.1 bt275.2)))))))) = some true := H
   have A20 := Aside0.mk A200
   clear A200
   replace H := Option.bind_eq_some_iff.mp H
   obtain ⟨⟨t260, t263⟩, A210, H⟩ := H
   replace H : ((spec_RunTree.f k t257 t260 t263 a2).bind fun bt266 => ((laws_toTree.f k l0_0).bind fun t271 => ((laws_toStream.f k l1_0 l1_1).bind fun bt275 => ((impl_RunTree.f k t271 bt275.1 bt275.2 a2).bind fun bt282 => ((laws_eqInt8S.f k bt282.1 bt266.1).bind fun t287 => (if t287 = true then (if bt282.2.1 = bt266.2.1 then (laws_FnExactRunTree.j0 k a2 bt266.1 bt266.2.1 bt266.2.2 bt282.1 bt282.2.1 bt282.2.2 (bt282.2.2 != bt266.2.2) l0_0 l1_0 l1_1 t271 bt275.1 bt275.2) else (laws_FnExactRunTree.j0 k a2 bt266.1 bt266.2.1 bt266.2.2 bt282.1 bt282.2.1 bt282.2.2 true l0_0 l1_0 l1_1 t271 bt275.1 bt275.2)) else (laws_FnExactRunTree.j0 k a2 bt266.1 bt266.2.1 bt266.2.2 bt282.1 bt282.2.1 bt282.2.2 true l0_0 l1_0 l1_1 t271 bt275.1 bt275.2))))))) = some true := H
   have A21 := Aside0.mk A210
   clear A210
   replace H := Option.bind_eq_some_iff.mp H
   obtain ⟨⟨t266, t269, t270⟩, A220, H⟩ := H
   replace H : ((laws_toTree.f k l0_0).bind fun t271 => ((laws_toStream.f k l1_0 l1_1).bind fun bt275 => ((impl_RunTree.f k t271 bt275.1 bt275.2 a2).bind fun bt282 => ((laws_eqInt8S.f k bt282.1 t266).bind fun t287 => (if t287 = true then (if bt282.2.1 = t269 then (laws_FnExactRunTree.j0 k a2 t266 t269 t270 bt282.1 bt282.2.1 bt282.2.2 (bt282.2.2 != t270) l0_0 l1_0 l1_1 t271 bt275.1 bt275.2) else (laws_FnExactRunTree.j0 k a2 t266 t269 t270 bt282.1 bt282.2.1 bt282.2.2 true l0_0 l1_0 l1_1 t271 bt275.1 bt275.2)) else (laws_FnExactRunTree.j0 k a2 t266 t269 t270 bt282.1 bt282.2.1 bt282.2.2 true l0_0 l1_0 l1_1 t271 bt275.1 bt275.2)))))) = some true := H
   have A22 := Aside0.mk A220
   clear A220
   replace H := Option.bind_eq_some_iff.mp H
   obtain ⟨t271, A230, H⟩ := H
   replace H : ((laws_toStream.f k l1_0 l1_1).bind fun bt275 => ((impl_RunTree.f k t271 bt275.1 bt275.2 a2).bind fun bt282 => ((laws_eqInt8S.f k bt282.1 t266).bind fun t287 => (if t287 = true then (if bt282.2.1 = t269 then (laws_FnExactRunTree.j0 k a2 t266 t269 t270 bt282.1 bt282.2.1 bt282.2.2 (bt282.2.2 != t270) l0_0 l1_0 l1_1 t271 bt275.1 bt275.2) else (laws_FnExactRunTree.j0 k a2 t266 t269 t270 bt282.1 bt282.2.1 bt282.2.2 true l0_0 l1_0 l1_1 t271 bt275.1 bt275.2)) else (laws_FnExactRunTree.j0 k a2 t266 t269 t270 bt282.1 bt282.2.1 bt282.2.2 true l0_0 l1_0 l1_1 t271 bt275.1 bt275.2))))) = some true := H
   have A23 := Aside0.mk A230
   clear A230
   replace H := Option.bind_eq_some_iff.mp H
   obtain ⟨⟨t275, t278⟩, A240, H⟩ := H
   replace H : ((impl_RunTree.f k t271 t275 t278 a2).bind fun bt282 => ((laws_eqInt8S.f k bt282.1 t266).bind fun t287 => (if t287 = true then (if bt282.2.1 = t269 then (laws_FnExactRunTree.j0 k a2 t266 t269 t270 bt282.1 bt282.2.1 bt282.2.2 (bt282.2.2 != t270) l0_0 l1_0 l1_1 t271 t275 t278) else (laws_FnExactRunTree.j0 k a2 t266 t269 t270 bt282.1 bt282.2.1 bt282.2.2 true l0_0 l1_0 l1_1 t271 t275 t278)) else (laws_FnExactRunTree.j0 k a2 t266 t269 t270 bt282.1 bt282.2.1 bt282.2.2 true l0_0 l1_0 l1_1 t271 t275 t278)))) = some true := H
   have A24 := Aside0.mk A240
   clear A240
   replace H := Option.bind_eq_some_iff.mp H
   obtain ⟨⟨t282, t285, t286⟩, A250, H⟩ := H
   replace H : ((laws_eqInt8S.f k t282 t266).bind fun t287 => (if t287 = true then (if t285 = t269 then (laws_FnExactRunTree.j0 k a2 t266 t269 t270 t282 t285 t286 (t286 != t270) l0_0 l1_0 l1_1 t271 t275 t278) else (laws_FnExactRunTree.j0 k a2 t266 t269 t270 t282 t285 t286 true l0_0 l1_0 l1_1 t271 t275 t278)) else (laws_FnExactRunTree.j0 k a2 t266 t269 t270 t282 t285 t286 true l0_0 l1_0 l1_1 t271 t275 t278))) = some true := H
   have A25 := Aside0.mk A250
   clear A250
   have HC26 := Aside0.mk H
   clear H
   go_enter Try.func3, Try.ntmps3
   try go_wp2_with (first | ((with_reducible refine gate_dst (N := 3) rfl ?_); refine box_event ?hg (N := 3) ?hd (cs := #[.slice A0_0 l0_0.length c0_0]) (t := 24) ?hr ?_; (case hd => rfl); (case hg => rfl); (case hr => first | (go_simp; done) | (go_simp; rfl)); intro gb253 hg w27 hbox hb; have n0_ := Aside0.mk (below_step (by repeat (first | (with_reducible first | exact HB.out | apply below_alloc | apply pw_below_drewN | apply below_drew1) | exact HB.out)) hb); have n1_ := Aside0.mk (hbox); have n2_ := Aside0.mk ((by rw [hg]; exact (below_size (by repeat (first | (with_reducible first | exact HB.out | apply below_alloc | apply pw_below_drewN | apply below_drew1) | exact HB.out))) : w.heap.size ≤ gb253)); have n3_ := Aside0.mk ((by rw [hg]; exact (below_size (by repeat (first | (with_reducible first | exact HB.out | apply below_alloc | apply pw_below_drewN | apply below_drew1) | exact HB.out))) : w.heap.size ≤ gb253)); clear HB; have HB := n0_; have BK253 := n1_; have GW253 := n2_; have GE253 := n3_; clear n0_ n1_ n2_ n3_; clear hb hbox hg) | ((with_reducible refine gate_dst (N := 4) rfl ?_); refine box_event ?hg (N := 4) ?hd (cs := #[.slice A1_0 l1_0.length c1_0, .slice A1_1 l1_1.length c1_1]) (t := 27) ?hr ?_; (case hd => rfl); (case hg => rfl); (case hr => first | (go_simp; done) | (go_simp; rfl)); intro gb254 hg w28 hbox hb; have n0_ := Aside0.mk (blk_below (g := gb253) (o := .cells #[.slice A0_0 l0_0.length c0_0] 24 (0, 0)) (by (with_reducible repeat (first | refine blk_drewN ?_ _ | refine blk_drew ?_ | refine blk_alloc ?_ _)); exact BK253.out) hb); have n1_ := Aside0.mk (below_step (by repeat (first | (with_reducible first | exact HB.out | apply below_alloc | apply pw_below_drewN | apply below_drew1 | refine below_set ?_ GE253.out) | exact HB.out)) hb); have n2_ := Aside0.mk (hbox); have n3_ := Aside0.mk ((by rw [hg]; exact (below_size (by repeat (first | (with_reducible first | exact HB.out | apply below_alloc | apply pw_below_drewN | apply below_drew1 | refine below_set ?_ GE253.out) | exact HB.out))) : w.heap.size ≤ gb254)); have n4_ := Aside0.mk ((by rw [hg]; exact (below_size (by repeat (first | (with_reducible first | exact HB.out | apply below_alloc | apply pw_below_drewN | apply below_drew1 | refine below_set ?_ GE253.out) | exact HB.out))) : w.heap.size ≤ gb254)); have n5_ := Aside0.mk ((by rw [hg]; exact Nat.ne_of_lt (blk_lt (g := gb253) (o := .cells #[.slice A0_0 l0_0.length c0_0] 24 (0, 0)) (by (with_reducible repeat (first | refine blk_drewN ?_ _ | refine blk_drew ?_ | refine blk_alloc ?_ _)); exact BK253.out)) : gb253 ≠ gb254)); have n6_ := Aside0.mk ((by rw [hg]; exact Nat.ne_of_gt (blk_lt (g := gb253) (o := .cells #[.slice A0_0 l0_0.length c0_0] 24 (0, 0)) (by (with_reducible repeat (first | refine blk_drewN ?_ _ | refine blk_drew ?_ | refine blk_alloc ?_ _)); exact BK253.out)) : gb254 ≠ gb253)); clear BK253; clear HB; have BK253 := n0_; have HB := n1_; have BK254 := n2_; have GW254 := n3_; have GE254 := n4_; have NB253_254 := n5_; have NB254_253 := n6_; clear n0_ n1_ n2_ n3_ n4_ n5_ n6_; clear hb hbox hg; have hnb29 := NB253_254.out; have hnc29 := NB254_253.out; have hcz30_0 : w28.cell? ⟨gb253, 0, none⟩ = some (.slice A0_0 l0_0.length c0_0) := (blk_cell BK253.out 0).trans rfl; have hfz30_0 := blk_frozen BK253.out 0) | ((with_reducible refine gate_callee (f := 14) rfl ?_); refine goesL_ (some 24) rfl rfl Try.func14 (by kernel_rfl) rfl #[.agg #[.slice A0_0 l0_0.length c0_0], .int .i64 1048576] rfl (by (try simp only [List.map_toArray, List.map_cons, List.map_nil]); first | done | rfl | (simp only [List.length_drop, List.length_take]; rfl)) ?_; (with_reducible refine (laws_szTree.calls _ _ l0_0 1048576 t255 _ ?side1 ?side2 A4.out).mono ?_); (case side1 => repeat (first | exact (Kd.C_below HR0_0.out HB.out) | (with_reducible refine Kd.C_alloc ?_ _) | (with_reducible refine Kd.C_drewN ?_ _) | (with_reducible refine Kd.C_drew ?_))); (case side2 => exact HC0_0.out); rintro e w31 ⟨rfl, hb⟩; refine ⟨_, rfl, ?_⟩; have n0_ := Aside0.mk (blk_below (g := gb253) (o := .cells #[.slice A0_0 l0_0.length c0_0] 24 (0, 0)) (by (with_reducible repeat (first | refine blk_drewN ?_ _ | refine blk_drew ?_ | refine blk_alloc ?_ _)); exact BK253.out) hb); have n1_ := Aside0.mk (blk_below (g := gb254) (o := .cells #[.slice A1_0 l1_0.length c1_0, .slice A1_1 l1_1.length c1_1] 27 (0, 0)) (by (with_reducible repeat (first | refine blk_drewN ?_ _ | refine blk_drew ?_ | refine blk_alloc ?_ _)); exact BK254.out) hb); have n2_ := Aside0.mk (below_step (by repeat (first | (with_reducible first | exact HB.out | apply below_alloc | apply pw_below_drewN | apply below_drew1 | refine below_set ?_ GE253.out | refine below_set ?_ GE254.out) | exact HB.out)) hb); clear BK253; clear BK254; clear HB; have BK253 := n0_; have BK254 := n1_; have HB := n2_; clear n0_ n1_ n2_; (try clear hb); (try clear hb2); (try clear hk); (try clear hi); have hcz32_0 : w31.cell? ⟨gb254, 0, none⟩ = some (.slice A1_0 l1_0.length c1_0) := (blk_cell BK254.out 0).trans rfl; have hcz32_1 : w31.cell? ⟨gb254, 1, none⟩ = some (.slice A1_1 l1_1.length c1_1) := (blk_cell BK254.out 1).trans rfl; have hfz32_0 := blk_frozen BK254.out 0; have hfz32_1 := blk_frozen BK254.out 1) | ((with_reducible refine gate_callee (f := 15) rfl ?_); refine goesL_ (some 29) rfl rfl Try.func15 (by kernel_rfl) rfl #[.agg #[.slice A1_0 l1_0.length c1_0, .slice A1_1 l1_1.length c1_1], .int .i64 t255] rfl (by (try simp only [List.map_toArray, List.map_cons, List.map_nil]); first | done | rfl | (simp only [List.length_drop, List.length_take]; rfl)) ?_; (with_reducible refine (laws_szStream.calls _ _ l1_0 _ _ l1_1 t255 t256 _ ?side1 ?side2 ?side3 ?side4 A11.out).mono ?_); (case side1 => repeat (first | exact (Kd.C_below HR1_0.out HB.out) | (with_reducible refine Kd.C_alloc ?_ _) | (with_reducible refine Kd.C_drewN ?_ _) | (with_reducible refine Kd.C_drew ?_))); (case side2 => exact HC1_0.out); (case side3 => repeat (first | exact (Kd.C_below HR1_1.out HB.out) | (with_reducible refine Kd.C_alloc ?_ _) | (with_reducible refine Kd.C_drewN ?_ _) | (with_reducible refine Kd.C_drew ?_))); (case side4 => exact HC1_1.out); rintro e w33 ⟨rfl, hb⟩; refine ⟨_, rfl, ?_⟩; have n0_ := Aside0.mk (blk_below (g := gb253) (o := .cells #[.slice A0_0 l0_0.length c0_0] 24 (0, 0)) (by (with_reducible repeat (first | refine blk_drewN ?_ _ | refine blk_drew ?_ | refine blk_alloc ?_ _)); exact BK253.out) hb); have n1_ := Aside0.mk (blk_below (g := gb254) (o := .cells #[.slice A1_0 l1_0.length c1_0, .slice A1_1 l1_1.length c1_1] 27 (0, 0)) (by (with_reducible repeat (first | refine blk_drewN ?_ _ | refine blk_drew ?_ | refine blk_alloc ?_ _)); exact BK254.out) hb); have n2_ := Aside0.mk (below_step (by repeat (first | (with_reducible first | exact HB.out | apply below_alloc | apply pw_below_drewN | apply below_drew1 | refine below_set ?_ GE253.out | refine below_set ?_ GE254.out) | exact HB.out)) hb); clear BK253; clear BK254; clear HB; have BK253 := n0_; have BK254 := n1_; have HB := n2_; clear n0_ n1_ n2_; (try clear hb); (try clear hb2); (try clear hk); (try clear hi)))
   have n0_ := Aside0.mk (blk_drew BK253.out)
   have n1_ := Aside0.mk (blk_drew BK254.out)
   have n2_ := Aside0.mk (below_drew1 HB.out)
   clear BK253
   clear BK254
   clear HB
   have BK253 := n0_
   have BK254 := n1_
   have HB := n2_
   clear n0_ n1_ n2_
   refine start_ (n := 13) (S := fun w' => w'.cell? ⟨gb253, 0, none⟩ = some (.slice A0_0 l0_0.length c0_0) ∧ w'.cell? ⟨gb254, 0, none⟩ = some (.slice A1_0 l1_0.length c1_0) ∧ w'.cell? ⟨gb254, 1, none⟩ = some (.slice A1_1 l1_1.length c1_1)) (ds := []) #[false, false, false, false, false, false, false, false, false, false, false, false, false] (by kernel_rfl) rfl rfl ⟨(blk_cell BK253.out 0).trans rfl, (blk_cell BK254.out 0).trans rfl, (blk_cell BK254.out 1).trans rfl⟩ (fun hHeld => ?_); refine with_tabW laws_FnExactRunTree.tab8 laws_FnExactRunTree.bits8 (fun HT_ HW_ => ?_)
   generalize w33.drew = w34 at BK253 BK254 HB hHeld ⊢
   refine pure_ (i := 4) (N := some 37) (v := ?_) (a' := ?_) #[false, false, false, false, true, false, false, false, false, false, false, false, false] rfl rfl (any_of HT_.out (by kernel_rfl)) (fun _ _ _ h => h) (Or.inl ⟨by rfl, ?_⟩) ?_ ?_
   rotate_left
   ·
    intro w'
    go_simp
    with_reducible rfl
   rotate_left
   ·
    simp only [Act.put, sA_, sB_, sC_, i64_w, i32_w]
    rfl
   refine take_ (i := 0) (N := some 33) (v := ?_) (a' := ?_) #[true, false, false, false, true, false, false, false, false, false, false, false, false] rfl rfl (take_ofW HT_.out HW_.out (by kernel_rfl)) (fun _ _ _ h => h) (Or.inl ⟨by rfl, ?_⟩) hHeld ?_ ?_
   rotate_left
   ·
    rintro w' ⟨s0, s1, s2⟩
    go_simp
    with_reducible rfl
   rotate_left
   ·
    simp only [Act.put, sA_, sB_, sC_, i64_w, i32_w]
    rfl
   refine take_ (i := 2) (N := some 35) (v := ?_) (a' := ?_) #[true, false, true, false, true, false, false, false, false, false, false, false, false] rfl rfl (take_ofW HT_.out HW_.out (by kernel_rfl)) (fun _ _ _ h => h) (Or.inl ⟨by rfl, ?_⟩) hHeld ?_ ?_
   rotate_left
   ·
    rintro w' ⟨s0, s1, s2⟩
    go_simp
    with_reducible rfl
   rotate_left
   ·
    simp only [Act.put, sA_, sB_, sC_, i64_w, i32_w]
    rfl
   refine one_ (i := 1) (N := some 34) #[true, true, true, false, true, false, false, false, false, false, false, false, false] rfl rfl (one_of HT_.out (by kernel_rfl)) (by decide) (fun K hK => ?_)
   refine goes_ Try.func17 (by kernel_rfl) rfl #[.agg #[.slice A0_0 l0_0.length c0_0]] (by rfl) rfl rfl (by (try simp only [List.map_toArray, List.map_cons, List.map_nil]); first | done | rfl | (simp only [List.length_drop, List.length_take]; rfl)) ?_
   with_reducible refine (laws_toTree.calls k _ _ l0_0 t257 _ ?side1 ?side2 A20.out).mono ?_
   (case side1 => repeat (first | exact (Kd.C_below HR0_0.out HB.out) | (with_reducible refine Kd.C_alloc ?_ _) | (with_reducible refine Kd.C_drewN ?_ _) | (with_reducible refine Kd.C_drew ?_)))
   (case side2 => exact HC0_0.out)
   rintro e w35 ⟨v258, rfl, ho0, hb⟩
   refine ⟨_, rfl, ?_⟩
   have n0_ := Aside0.mk (Kd.R_lower ho0 (below_size (by repeat (first | (with_reducible first | exact HB.out | apply below_alloc | apply pw_below_drewN | apply below_drew1 | refine below_set ?_ GE253.out | refine below_set ?_ GE254.out) | exact HB.out))))
   have n1_ := Aside0.mk (blk_below (g := gb253) (o := .cells #[.slice A0_0 l0_0.length c0_0] 24 (0, 0)) (by (with_reducible repeat (first | refine blk_drewN ?_ _ | refine blk_drew ?_ | refine blk_alloc ?_ _)); exact BK253.out) hb)
   have n2_ := Aside0.mk (blk_below (g := gb254) (o := .cells #[.slice A1_0 l1_0.length c1_0, .slice A1_1 l1_1.length c1_1] 27 (0, 0)) (by (with_reducible repeat (first | refine blk_drewN ?_ _ | refine blk_drew ?_ | refine blk_alloc ?_ _)); exact BK254.out) hb)
   have n3_ := Aside0.mk (below_step (by repeat (first | (with_reducible first | exact HB.out | apply below_alloc | apply pw_below_drewN | apply below_drew1 | refine below_set ?_ GE253.out | refine below_set ?_ GE254.out) | exact HB.out)) hb)
   clear BK253
   clear BK254
   clear HB
   have HO259 := n0_
   have BK253 := n1_
   have BK254 := n2_
   have HB := n3_
   clear n0_ n1_ n2_ n3_
   (try clear hb)
   (try clear hb2)
   (try clear hk)
   (try clear hi)
   (try clear ho0)
   refine hK.out _ _ ⟨(blk_cell BK253.out 0).trans rfl, (blk_cell BK254.out 0).trans rfl, (blk_cell BK254.out 1).trans rfl⟩ (fun hHeld => ?_)
   clear hK K
   refine norm_ (a' := ?_) ?_ ?_
   rotate_left
   ·
    show Act.put _ (some 34) _ = _
    simp only [Act.put, sA_, sB_, sC_, i64_w, i32_w]
    rfl
   refine one_ (i := 3) (N := some 36) #[true, true, true, true, true, false, false, false, false, false, false, false, false] rfl rfl (one_of HT_.out (by kernel_rfl)) (by decide) (fun K hK => ?_)
   refine goes_ Try.func18 (by kernel_rfl) rfl #[.agg #[.slice A1_0 l1_0.length c1_0, .slice A1_1 l1_1.length c1_1]] (by rfl) rfl rfl (by (try simp only [List.map_toArray, List.map_cons, List.map_nil]); first | done | rfl | (simp only [List.length_drop, List.length_take]; rfl)) ?_
   with_reducible refine (laws_toStream.calls k _ _ l1_0 _ _ l1_1 t260 t263 _ ?side1 ?side2 ?side3 ?side4 A21.out).mono ?_
   (case side1 => repeat (first | exact (Kd.C_below HR1_0.out HB.out) | (with_reducible refine Kd.C_alloc ?_ _) | (with_reducible refine Kd.C_drewN ?_ _) | (with_reducible refine Kd.C_drew ?_)))
   (case side2 => exact HC1_0.out)
   (case side3 => repeat (first | exact (Kd.C_below HR1_1.out HB.out) | (with_reducible refine Kd.C_alloc ?_ _) | (with_reducible refine Kd.C_drewN ?_ _) | (with_reducible refine Kd.C_drew ?_)))
   (case side4 => exact HC1_1.out)
   rintro e w36 ⟨v261, v264, rfl, ho0, ho1, hb⟩
   refine ⟨_, rfl, ?_⟩
   have n0_ := Aside0.mk (Kd.R_below (by (with_reducible repeat (first | apply Kd.R_alloc | apply Kd.R_drewN | apply Kd.R_drew)); exact HO259.out) hb)
   have n1_ := Aside0.mk (Kd.R_lower ho0 (below_size (by repeat (first | (with_reducible first | exact HB.out | apply below_alloc | apply pw_below_drewN | apply below_drew1 | refine below_set ?_ GE253.out | refine below_set ?_ GE254.out) | exact HB.out))))
   have n2_ := Aside0.mk (Kd.R_lower ho1 (below_size (by repeat (first | (with_reducible first | exact HB.out | apply below_alloc | apply pw_below_drewN | apply below_drew1 | refine below_set ?_ GE253.out | refine below_set ?_ GE254.out) | exact HB.out))))
   have n3_ := Aside0.mk (blk_below (g := gb253) (o := .cells #[.slice A0_0 l0_0.length c0_0] 24 (0, 0)) (by (with_reducible repeat (first | refine blk_drewN ?_ _ | refine blk_drew ?_ | refine blk_alloc ?_ _)); exact BK253.out) hb)
   have n4_ := Aside0.mk (blk_below (g := gb254) (o := .cells #[.slice A1_0 l1_0.length c1_0, .slice A1_1 l1_1.length c1_1] 27 (0, 0)) (by (with_reducible repeat (first | refine blk_drewN ?_ _ | refine blk_drew ?_ | refine blk_alloc ?_ _)); exact BK254.out) hb)
   have n5_ := Aside0.mk (below_step (by repeat (first | (with_reducible first | exact HB.out | apply below_alloc | apply pw_below_drewN | apply below_drew1 | refine below_set ?_ GE253.out | refine below_set ?_ GE254.out) | exact HB.out)) hb)
   clear HO259
   clear BK253
   clear BK254
   clear HB
   have HO259 := n0_
   have HO262 := n1_
   have HO265 := n2_
   have BK253 := n3_
   have BK254 := n4_
   have HB := n5_
   clear n0_ n1_ n2_ n3_ n4_ n5_
   (try clear hb)
   (try clear hb2)
   (try clear hk)
   (try clear hi)
   (try clear ho0)
   (try clear ho1)
   obtain ⟨Ao37, co37, eo37⟩ := Kd.R_slice HO259.out
   (first | subst eo37 | (injection eo37 with f1_ f2_ f3_; have f4_ := f1_.symm; have f5_ := f3_.symm; clear f1_ f2_ f3_; subst f4_; subst f5_))
   obtain ⟨Ao38, co38, eo38⟩ := Kd.R_slice HO262.out
   (first | subst eo38 | (injection eo38 with f1_ f2_ f3_; have f4_ := f1_.symm; have f5_ := f3_.symm; clear f1_ f2_ f3_; subst f4_; subst f5_))
   obtain ⟨Ao39, co39, eo39⟩ := Kd.R_slice HO265.out
   (first | subst eo39 | (injection eo39 with f1_ f2_ f3_; have f4_ := f1_.symm; have f5_ := f3_.symm; clear f1_ f2_ f3_; subst f4_; subst f5_))
   refine hK.out _ _ ⟨(blk_cell BK253.out 0).trans rfl, (blk_cell BK254.out 0).trans rfl, (blk_cell BK254.out 1).trans rfl⟩ (fun hHeld => ?_)
   clear hK K
   refine norm_ (a' := ?_) ?_ ?_
   rotate_left
   ·
    show Act.put _ (some 36) _ = _
    simp only [Act.put, sA_, sB_, sC_, i64_w, i32_w]
    rfl
   refine one_ (i := 5) (N := some 38) #[true, true, true, true, true, true, false, false, false, false, false, false, false] rfl rfl (one_of HT_.out (by kernel_rfl)) (by decide) (fun K hK => ?_)
   refine goes_ Try.func16 (by kernel_rfl) rfl #[.agg #[.slice Ao37 t257.length co37], .agg #[.slice Ao38 t260.length co38, .slice Ao39 t263.length co39], .int .i64 a2] (by rfl) rfl rfl (by (try simp only [List.map_toArray, List.map_cons, List.map_nil]); first | done | rfl | (simp only [List.length_drop, List.length_take]; rfl)) ?_
   with_reducible refine (spec_RunTree.calls k _ _ t257 _ _ t260 _ _ t263 a2 t266 t269 t270 _ ?side1 ?side2 ?side3 ?side4 ?side5 ?side6 A22.out).mono ?_
   (case side1 => repeat (first | exact (Kd.R_reads' HO259.out).2.2 | (with_reducible refine Kd.C_alloc ?_ _) | (with_reducible refine Kd.C_drewN ?_ _) | (with_reducible refine Kd.C_drew ?_)))
   (case side2 => exact (Kd.R_reads' HO259.out).2.1)
   (case side3 => repeat (first | exact (Kd.R_reads' HO262.out).2.2 | (with_reducible refine Kd.C_alloc ?_ _) | (with_reducible refine Kd.C_drewN ?_ _) | (with_reducible refine Kd.C_drew ?_)))
   (case side4 => exact (Kd.R_reads' HO262.out).2.1)
   (case side5 => repeat (first | exact (Kd.R_reads' HO265.out).2.2 | (with_reducible refine Kd.C_alloc ?_ _) | (with_reducible refine Kd.C_drewN ?_ _) | (with_reducible refine Kd.C_drew ?_)))
   (case side6 => exact (Kd.R_reads' HO265.out).2.1)
   rintro e w40 ⟨v267, rfl, ho0, hb⟩
   refine ⟨_, rfl, ?_⟩
   have n0_ := Aside0.mk (Kd.R_below (by (with_reducible repeat (first | apply Kd.R_alloc | apply Kd.R_drewN | apply Kd.R_drew)); exact HO259.out) hb)
   have n1_ := Aside0.mk (Kd.R_elder' (by (with_reducible repeat (first | apply Kd.R_alloc | apply Kd.R_drewN | apply Kd.R_drew)); exact HO262.out) (Kd.R_base ho0) hb)
   have n2_ := Aside0.mk (Kd.R_elder' (by (with_reducible repeat (first | apply Kd.R_alloc | apply Kd.R_drewN | apply Kd.R_drew)); exact HO265.out) (Kd.R_base ho0) hb)
   have n3_ := Aside0.mk (Kd.R_lower (Kd.R_new' (Kd.R_new' ho0 (Kd.R_lt (by (with_reducible repeat (first | apply Kd.R_alloc | apply Kd.R_drewN | apply Kd.R_drew)); exact HO262.out))) (Kd.R_lt (by (with_reducible repeat (first | apply Kd.R_alloc | apply Kd.R_drewN | apply Kd.R_drew)); exact HO265.out))) (below_size (by repeat (first | (with_reducible first | exact HB.out | apply below_alloc | apply pw_below_drewN | apply below_drew1 | refine below_set ?_ GE253.out | refine below_set ?_ GE254.out) | exact HB.out))))
   have n4_ := Aside0.mk (blk_below (g := gb253) (o := .cells #[.slice A0_0 l0_0.length c0_0] 24 (0, 0)) (by (with_reducible repeat (first | refine blk_drewN ?_ _ | refine blk_drew ?_ | refine blk_alloc ?_ _)); exact BK253.out) hb)
   have n5_ := Aside0.mk (blk_below (g := gb254) (o := .cells #[.slice A1_0 l1_0.length c1_0, .slice A1_1 l1_1.length c1_1] 27 (0, 0)) (by (with_reducible repeat (first | refine blk_drewN ?_ _ | refine blk_drew ?_ | refine blk_alloc ?_ _)); exact BK254.out) hb)
   have n6_ := Aside0.mk (below_step (by repeat (first | (with_reducible first | exact HB.out | apply below_alloc | apply pw_below_drewN | apply below_drew1 | refine below_set ?_ GE253.out | refine below_set ?_ GE254.out) | exact HB.out)) hb)
   clear HO259
   clear HO262
   clear HO265
   clear BK253
   clear BK254
   clear HB
   have HO259 := n0_
   have HO262 := n1_
   have HO265 := n2_
   have HO268 := n3_
   have BK253 := n4_
   have BK254 := n5_
   have HB := n6_
   clear n0_ n1_ n2_ n3_ n4_ n5_ n6_
   (try clear hb)
   (try clear hb2)
   (try clear hk)
   (try clear hi)
   (try clear ho0)
   refine hK.out _ _ ⟨(blk_cell BK253.out 0).trans rfl, (blk_cell BK254.out 0).trans rfl, (blk_cell BK254.out 1).trans rfl⟩ (fun hHeld => ?_)
   clear hK K
   refine norm_ (a' := ?_) ?_ ?_
   rotate_left
   ·
    show Act.put _ (some 38) _ = _
    simp only [Act.put, sA_, sB_, sC_, i64_w, i32_w]
    rfl
   refine pure_ (i := 6) (N := some 32) (v := ?_) (a' := ?_) #[true, true, true, true, true, true, true, false, false, false, false, false, false] rfl rfl (any_of HT_.out (by kernel_rfl)) (fun _ _ _ h => h) (Or.inl ⟨by rfl, ?_⟩) ?_ ?_
   rotate_left
   ·
    intro w'
    go_simp
    with_reducible rfl
   rotate_left
   ·
    simp only [Act.put, sA_, sB_, sC_, i64_w, i32_w]
    rfl
   refine pure_ (i := 7) (N := some 39) (v := ?_) (a' := ?_) #[true, true, true, true, true, true, true, true, false, false, false, false, false] rfl rfl (any_of HT_.out (by kernel_rfl)) (fun _ _ _ h => h) (Or.inl ⟨by rfl, ?_⟩) ?_ ?_
   rotate_left
   ·
    intro w'
    go_simp
    with_reducible rfl
   rotate_left
   ·
    simp only [Act.put, sA_, sB_, sC_, i64_w, i32_w]
    rfl
   refine pure_ (i := 8) (N := some 40) (v := ?_) (a' := ?_) #[true, true, true, true, true, true, true, true, true, false, false, false, false] rfl rfl (any_of HT_.out (by kernel_rfl)) (fun _ _ _ h => h) (Or.inl ⟨by rfl, ?_⟩) ?_ ?_
   rotate_left
   ·
    intro w'
    go_simp
    with_reducible rfl
   rotate_left
   ·
    simp only [Act.put, sA_, sB_, sC_, i64_w, i32_w]
    rfl
   refine pure_ (i := 9) (N := some 41) (v := ?_) (a' := ?_) #[true, true, true, true, true, true, true, true, true, true, false, false, false] rfl rfl (any_of HT_.out (by kernel_rfl)) (fun _ _ _ h => h) (Or.inl ⟨by rfl, ?_⟩) ?_ ?_
   rotate_left
   ·
    intro w'
    go_simp
    with_reducible rfl
   rotate_left
   ·
    simp only [Act.put, sA_, sB_, sC_, i64_w, i32_w]
    rfl
   refine pure_ (i := 10) (N := some 8) (v := ?_) (a' := ?_) #[true, true, true, true, true, true, true, true, true, true, true, false, false] rfl rfl (any_of HT_.out (by kernel_rfl)) (fun _ _ _ h => h) (Or.inl ⟨by rfl, ?_⟩) ?_ ?_
   rotate_left
   ·
    intro w'
    go_simp
    with_reducible rfl
   rotate_left
   ·
    simp only [Act.put, sA_, sB_, sC_, i64_w, i32_w]
    rfl
   refine pure_ (i := 11) (N := some 9) (v := ?_) (a' := ?_) #[true, true, true, true, true, true, true, true, true, true, true, true, false] rfl rfl (any_of HT_.out (by kernel_rfl)) (fun _ _ _ h => h) (Or.inl ⟨by rfl, ?_⟩) ?_ ?_
   rotate_left
   ·
    intro w'
    go_simp
    with_reducible rfl
   rotate_left
   ·
    simp only [Act.put, sA_, sB_, sC_, i64_w, i32_w]
    rfl
   refine pure_ (i := 12) (N := some 10) (v := ?_) (a' := ?_) #[true, true, true, true, true, true, true, true, true, true, true, true, true] rfl rfl (any_of HT_.out (by kernel_rfl)) (fun _ _ _ h => h) (Or.inl ⟨by rfl, ?_⟩) ?_ ?_
   rotate_left
   ·
    intro w'
    go_simp
    with_reducible rfl
   rotate_left
   ·
    simp only [Act.put, sA_, sB_, sC_, i64_w, i32_w]
    rfl
   refine done_ (done_of HT_.out (by kernel_rfl)) ?_
   have hcz41_0 : w40.cell? ⟨gb253, 0, none⟩ = some (.slice A0_0 l0_0.length c0_0) := (blk_cell BK253.out 0).trans rfl
   have hfz41_0 := blk_frozen BK253.out 0
   go_upto_region 12 with (first | ((with_reducible refine gate_callee (f := 17) rfl ?_); refine goesL_ (some 43) rfl rfl Try.func17 (by kernel_rfl) rfl #[.agg #[.slice A0_0 l0_0.length c0_0]] rfl (by (try simp only [List.map_toArray, List.map_cons, List.map_nil]); first | done | rfl | (simp only [List.length_drop, List.length_take]; rfl)) ?_; (with_reducible refine (laws_toTree.calls k _ _ l0_0 t271 _ ?side1 ?side2 A23.out).mono ?_); (case side1 => repeat (first | exact (Kd.C_below HR0_0.out HB.out) | (with_reducible refine Kd.C_alloc ?_ _) | (with_reducible refine Kd.C_drewN ?_ _) | (with_reducible refine Kd.C_drew ?_))); (case side2 => exact HC0_0.out); rintro e w42 ⟨v272, rfl, ho0, hb⟩; refine ⟨_, rfl, ?_⟩; have n0_ := Aside0.mk (Kd.R_elder' (by (with_reducible repeat (first | apply Kd.R_alloc | apply Kd.R_drewN | apply Kd.R_drew)); exact HO259.out) (Kd.R_base ho0) hb); have n1_ := Aside0.mk (Kd.R_below (by (with_reducible repeat (first | apply Kd.R_alloc | apply Kd.R_drewN | apply Kd.R_drew)); exact HO262.out) hb); have n2_ := Aside0.mk (Kd.R_below (by (with_reducible repeat (first | apply Kd.R_alloc | apply Kd.R_drewN | apply Kd.R_drew)); exact HO265.out) hb); have n3_ := Aside0.mk (Kd.R_below (by (with_reducible repeat (first | apply Kd.R_alloc | apply Kd.R_drewN | apply Kd.R_drew)); exact HO268.out) hb); have n4_ := Aside0.mk (Kd.R_lower (Kd.R_new' ho0 (Kd.R_lt (by (with_reducible repeat (first | apply Kd.R_alloc | apply Kd.R_drewN | apply Kd.R_drew)); exact HO259.out))) (below_size (by repeat (first | (with_reducible first | exact HB.out | apply below_alloc | apply pw_below_drewN | apply below_drew1 | refine below_set ?_ GE253.out | refine below_set ?_ GE254.out) | exact HB.out)))); have n5_ := Aside0.mk (blk_below (g := gb253) (o := .cells #[.slice A0_0 l0_0.length c0_0] 24 (0, 0)) (by (with_reducible repeat (first | refine blk_drewN ?_ _ | refine blk_drew ?_ | refine blk_alloc ?_ _)); exact BK253.out) hb); have n6_ := Aside0.mk (blk_below (g := gb254) (o := .cells #[.slice A1_0 l1_0.length c1_0, .slice A1_1 l1_1.length c1_1] 27 (0, 0)) (by (with_reducible repeat (first | refine blk_drewN ?_ _ | refine blk_drew ?_ | refine blk_alloc ?_ _)); exact BK254.out) hb); have n7_ := Aside0.mk (below_step (by repeat (first | (with_reducible first | exact HB.out | apply below_alloc | apply pw_below_drewN | apply below_drew1 | refine below_set ?_ GE253.out | refine below_set ?_ GE254.out) | exact HB.out)) hb); clear HO259; clear HO262; clear HO265; clear HO268; clear BK253; clear BK254; clear HB; have HO259 := n0_; have HO262 := n1_; have HO265 := n2_; have HO268 := n3_; have HO273 := n4_; have BK253 := n5_; have BK254 := n6_; have HB := n7_; clear n0_ n1_ n2_ n3_ n4_ n5_ n6_ n7_; (try clear hb); (try clear hb2); (try clear hk); (try clear hi); (try clear ho0)) | ((with_reducible refine gate_dst (N := 11) rfl ?_); refine box_event ?hg (N := 11) ?hd (cs := #[.slice none 0 0]) (t := 34) ?hr ?_; (case hd => rfl); (case hg => rfl); (case hr => first | (go_simp; done) | (go_simp; rfl)); intro gb274 hg w43 hbox hb; have n0_ := Aside0.mk (Kd.R_below (by (with_reducible repeat (first | apply Kd.R_alloc | apply Kd.R_drewN | apply Kd.R_drew)); exact HO259.out) hb); have n1_ := Aside0.mk (Kd.R_below (by (with_reducible repeat (first | apply Kd.R_alloc | apply Kd.R_drewN | apply Kd.R_drew)); exact HO262.out) hb); have n2_ := Aside0.mk (Kd.R_below (by (with_reducible repeat (first | apply Kd.R_alloc | apply Kd.R_drewN | apply Kd.R_drew)); exact HO265.out) hb); have n3_ := Aside0.mk (Kd.R_below (by (with_reducible repeat (first | apply Kd.R_alloc | apply Kd.R_drewN | apply Kd.R_drew)); exact HO268.out) hb); have n4_ := Aside0.mk (Kd.R_below (by (with_reducible repeat (first | apply Kd.R_alloc | apply Kd.R_drewN | apply Kd.R_drew)); exact HO273.out) hb); have n5_ := Aside0.mk (blk_below (g := gb253) (o := .cells #[.slice A0_0 l0_0.length c0_0] 24 (0, 0)) (by (with_reducible repeat (first | refine blk_drewN ?_ _ | refine blk_drew ?_ | refine blk_alloc ?_ _)); exact BK253.out) hb); have n6_ := Aside0.mk (blk_below (g := gb254) (o := .cells #[.slice A1_0 l1_0.length c1_0, .slice A1_1 l1_1.length c1_1] 27 (0, 0)) (by (with_reducible repeat (first | refine blk_drewN ?_ _ | refine blk_drew ?_ | refine blk_alloc ?_ _)); exact BK254.out) hb); have n7_ := Aside0.mk (below_step (by repeat (first | (with_reducible first | exact HB.out | apply below_alloc | apply pw_below_drewN | apply below_drew1 | refine below_set ?_ GE253.out | refine below_set ?_ GE254.out) | exact HB.out)) hb); have n8_ := Aside0.mk (hbox); have n9_ := Aside0.mk ((by rw [hg]; exact (below_size (by repeat (first | (with_reducible first | exact HB.out | apply below_alloc | apply pw_below_drewN | apply below_drew1 | refine below_set ?_ GE253.out | refine below_set ?_ GE254.out) | exact HB.out))) : w.heap.size ≤ gb274)); have n10_ := Aside0.mk ((by rw [hg]; exact (below_size (by repeat (first | (with_reducible first | exact HB.out | apply below_alloc | apply pw_below_drewN | apply below_drew1 | refine below_set ?_ GE253.out | refine below_set ?_ GE254.out) | exact HB.out))) : w.heap.size ≤ gb274)); have n11_ := Aside0.mk ((by rw [hg]; exact Nat.ne_of_lt (blk_lt (g := gb253) (o := .cells #[.slice A0_0 l0_0.length c0_0] 24 (0, 0)) (by (with_reducible repeat (first | refine blk_drewN ?_ _ | refine blk_drew ?_ | refine blk_alloc ?_ _)); exact BK253.out)) : gb253 ≠ gb274)); have n12_ := Aside0.mk ((by rw [hg]; exact Nat.ne_of_gt (blk_lt (g := gb253) (o := .cells #[.slice A0_0 l0_0.length c0_0] 24 (0, 0)) (by (with_reducible repeat (first | refine blk_drewN ?_ _ | refine blk_drew ?_ | refine blk_alloc ?_ _)); exact BK253.out)) : gb274 ≠ gb253)); have n13_ := Aside0.mk ((by rw [hg]; exact Nat.ne_of_lt (blk_lt (g := gb254) (o := .cells #[.slice A1_0 l1_0.length c1_0, .slice A1_1 l1_1.length c1_1] 27 (0, 0)) (by (with_reducible repeat (first | refine blk_drewN ?_ _ | refine blk_drew ?_ | refine blk_alloc ?_ _)); exact BK254.out)) : gb254 ≠ gb274)); have n14_ := Aside0.mk ((by rw [hg]; exact Nat.ne_of_gt (blk_lt (g := gb254) (o := .cells #[.slice A1_0 l1_0.length c1_0, .slice A1_1 l1_1.length c1_1] 27 (0, 0)) (by (with_reducible repeat (first | refine blk_drewN ?_ _ | refine blk_drew ?_ | refine blk_alloc ?_ _)); exact BK254.out)) : gb274 ≠ gb254)); clear HO259; clear HO262; clear HO265; clear HO268; clear HO273; clear BK253; clear BK254; clear HB; have HO259 := n0_; have HO262 := n1_; have HO265 := n2_; have HO268 := n3_; have HO273 := n4_; have BK253 := n5_; have BK254 := n6_; have HB := n7_; have BK274 := n8_; have GW274 := n9_; have GE274 := n10_; have NB253_274 := n11_; have NB274_253 := n12_; have NB254_274 := n13_; have NB274_254 := n14_; clear n0_ n1_ n2_ n3_ n4_ n5_ n6_ n7_ n8_ n9_ n10_ n11_ n12_ n13_ n14_; clear hb hbox hg; obtain ⟨Ao44, co44, eo44⟩ := Kd.R_slice HO273.out; subst eo44; have hnb45 := NB274_253.out; have hnc45 := NB253_274.out; have hnb46 := NB274_254.out; have hnc46 := NB254_274.out; have hcz47_0 : w43.cell? ⟨gb274, 0, none⟩ = some (.slice none 0 0) := (blk_cell BK274.out 0).trans rfl; have hfz47_0 := blk_frozen BK274.out 0; have hcz48_0 : w43.cell? ⟨gb254, 0, none⟩ = some (.slice A1_0 l1_0.length c1_0) := (blk_cell BK254.out 0).trans rfl; have hcz48_1 : w43.cell? ⟨gb254, 1, none⟩ = some (.slice A1_1 l1_1.length c1_1) := (blk_cell BK254.out 1).trans rfl; have hfz48_0 := blk_frozen BK254.out 0; have hfz48_1 := blk_frozen BK254.out 1) | ((with_reducible refine gate_callee (f := 18) rfl ?_); refine goesL_ (some 45) rfl rfl Try.func18 (by kernel_rfl) rfl #[.agg #[.slice A1_0 l1_0.length c1_0, .slice A1_1 l1_1.length c1_1]] rfl (by (try simp only [List.map_toArray, List.map_cons, List.map_nil]); first | done | rfl | (simp only [List.length_drop, List.length_take]; rfl)) ?_; (with_reducible refine (laws_toStream.calls k _ _ l1_0 _ _ l1_1 t275 t278 _ ?side1 ?side2 ?side3 ?side4 A24.out).mono ?_); (case side1 => exact Kd.C_below HR1_0.out (by repeat (first | (with_reducible first | exact HB.out | apply below_alloc | apply pw_below_drewN | apply below_drew1 | refine below_set ?_ GE253.out | refine below_set ?_ GE254.out | refine below_set ?_ GE274.out) | exact HB.out))); (case side2 => exact HC1_0.out); (case side3 => exact Kd.C_below HR1_1.out (by repeat (first | (with_reducible first | exact HB.out | apply below_alloc | apply pw_below_drewN | apply below_drew1 | refine below_set ?_ GE253.out | refine below_set ?_ GE254.out | refine below_set ?_ GE274.out) | exact HB.out))); (case side4 => exact HC1_1.out); rintro e w49 ⟨v276, v279, rfl, ho0, ho1, hb⟩; refine ⟨_, rfl, ?_⟩; have n0_ := Aside0.mk (Kd.R_below (by (with_reducible repeat (first | apply Kd.R_alloc | apply Kd.R_drewN | apply Kd.R_drew)); exact (Kd.R_mono (Kd.R_far (p := ⟨gb274, 0, none⟩) (Kd.R_types HO259.out BK274.out (by decide)) (fun _ hk => hk.2) (.slice Ao44 t271.length co44)) (fun _ h_ => h_.1))) hb); have n1_ := Aside0.mk (Kd.R_mono (Kd.R_told (Kd.R_told (Kd.R_old (by (with_reducible repeat (first | apply Kd.R_alloc | apply Kd.R_drewN | apply Kd.R_drew)); exact (Kd.R_mono (Kd.R_far (p := ⟨gb274, 0, none⟩) (Kd.R_types HO262.out BK274.out (by decide)) (fun _ hk => hk.2) (.slice Ao44 t271.length co44)) (fun _ h_ => h_.1))) hb) (Kd.R_base ho0)) (Kd.R_base ho1)) (fun _ h_ => h_.1)); have n2_ := Aside0.mk (Kd.R_mono (Kd.R_told (Kd.R_told (Kd.R_old (by (with_reducible repeat (first | apply Kd.R_alloc | apply Kd.R_drewN | apply Kd.R_drew)); exact (Kd.R_mono (Kd.R_far (p := ⟨gb274, 0, none⟩) (Kd.R_types HO265.out BK274.out (by decide)) (fun _ hk => hk.2) (.slice Ao44 t271.length co44)) (fun _ h_ => h_.1))) hb) (Kd.R_base ho0)) (Kd.R_base ho1)) (fun _ h_ => h_.1)); have n3_ := Aside0.mk (Kd.R_mono (Kd.R_told (Kd.R_told (Kd.R_old (by (with_reducible repeat (first | apply Kd.R_alloc | apply Kd.R_drewN | apply Kd.R_drew)); exact (Kd.R_mono (Kd.R_far (p := ⟨gb274, 0, none⟩) (Kd.R_types HO268.out BK274.out (by decide)) (fun _ hk => hk.2) (.slice Ao44 t271.length co44)) (fun _ h_ => h_.1))) hb) (Kd.R_base ho0)) (Kd.R_base ho1)) (fun _ h_ => h_.1)); have n4_ := Aside0.mk (Kd.R_below (by (with_reducible repeat (first | apply Kd.R_alloc | apply Kd.R_drewN | apply Kd.R_drew)); exact (Kd.R_mono (Kd.R_far (p := ⟨gb274, 0, none⟩) (Kd.R_types HO273.out BK274.out (by decide)) (fun _ hk => hk.2) (.slice Ao44 t271.length co44)) (fun _ h_ => h_.1))) hb); have n5_ := Aside0.mk (Kd.R_lower (Kd.R_new' (Kd.R_new' (Kd.R_new' ho0 (Kd.R_lt (by (with_reducible repeat (first | apply Kd.R_alloc | apply Kd.R_drewN | apply Kd.R_drew)); exact (Kd.R_mono (Kd.R_far (p := ⟨gb274, 0, none⟩) (Kd.R_types HO262.out BK274.out (by decide)) (fun _ hk => hk.2) (.slice Ao44 t271.length co44)) (fun _ h_ => h_.1))))) (Kd.R_lt (by (with_reducible repeat (first | apply Kd.R_alloc | apply Kd.R_drewN | apply Kd.R_drew)); exact (Kd.R_mono (Kd.R_far (p := ⟨gb274, 0, none⟩) (Kd.R_types HO265.out BK274.out (by decide)) (fun _ hk => hk.2) (.slice Ao44 t271.length co44)) (fun _ h_ => h_.1))))) (Kd.R_lt (by (with_reducible repeat (first | apply Kd.R_alloc | apply Kd.R_drewN | apply Kd.R_drew)); exact (Kd.R_mono (Kd.R_far (p := ⟨gb274, 0, none⟩) (Kd.R_types HO268.out BK274.out (by decide)) (fun _ hk => hk.2) (.slice Ao44 t271.length co44)) (fun _ h_ => h_.1))))) (below_size (by repeat (first | (with_reducible first | exact HB.out | apply below_alloc | apply pw_below_drewN | apply below_drew1 | refine below_set ?_ GE253.out | refine below_set ?_ GE254.out | refine below_set ?_ GE274.out) | exact HB.out)))); have n6_ := Aside0.mk (Kd.R_lower (Kd.R_new' (Kd.R_new' (Kd.R_new' ho1 (Kd.R_lt (by (with_reducible repeat (first | apply Kd.R_alloc | apply Kd.R_drewN | apply Kd.R_drew)); exact (Kd.R_mono (Kd.R_far (p := ⟨gb274, 0, none⟩) (Kd.R_types HO262.out BK274.out (by decide)) (fun _ hk => hk.2) (.slice Ao44 t271.length co44)) (fun _ h_ => h_.1))))) (Kd.R_lt (by (with_reducible repeat (first | apply Kd.R_alloc | apply Kd.R_drewN | apply Kd.R_drew)); exact (Kd.R_mono (Kd.R_far (p := ⟨gb274, 0, none⟩) (Kd.R_types HO265.out BK274.out (by decide)) (fun _ hk => hk.2) (.slice Ao44 t271.length co44)) (fun _ h_ => h_.1))))) (Kd.R_lt (by (with_reducible repeat (first | apply Kd.R_alloc | apply Kd.R_drewN | apply Kd.R_drew)); exact (Kd.R_mono (Kd.R_far (p := ⟨gb274, 0, none⟩) (Kd.R_types HO268.out BK274.out (by decide)) (fun _ hk => hk.2) (.slice Ao44 t271.length co44)) (fun _ h_ => h_.1))))) (below_size (by repeat (first | (with_reducible first | exact HB.out | apply below_alloc | apply pw_below_drewN | apply below_drew1 | refine below_set ?_ GE253.out | refine below_set ?_ GE254.out | refine below_set ?_ GE274.out) | exact HB.out)))); have n7_ := Aside0.mk (blk_below (g := gb253) (o := .cells #[.slice A0_0 l0_0.length c0_0] 24 (0, 0)) (by (with_reducible repeat (first | refine blk_drewN ?_ _ | refine blk_drew ?_ | refine blk_alloc ?_ _)); refine blk_far ?_ NB253_274.out _; (with_reducible repeat (first | refine blk_drewN ?_ _ | refine blk_drew ?_ | refine blk_alloc ?_ _)); exact BK253.out) hb); have n8_ := Aside0.mk (blk_below (g := gb254) (o := .cells #[.slice A1_0 l1_0.length c1_0, .slice A1_1 l1_1.length c1_1] 27 (0, 0)) (by (with_reducible repeat (first | refine blk_drewN ?_ _ | refine blk_drew ?_ | refine blk_alloc ?_ _)); refine blk_far ?_ NB254_274.out _; (with_reducible repeat (first | refine blk_drewN ?_ _ | refine blk_drew ?_ | refine blk_alloc ?_ _)); exact BK254.out) hb); have n9_ := Aside0.mk (blk_below (g := gb274) (o := .cells #[.slice Ao44 t271.length co44] 34 (0, 0)) (by (with_reducible repeat (first | refine blk_drewN ?_ _ | refine blk_drew ?_ | refine blk_alloc ?_ _)); refine blk_put (cs := #[.slice none 0 0]) ?_ 0 _ rfl; (with_reducible repeat (first | refine blk_drewN ?_ _ | refine blk_drew ?_ | refine blk_alloc ?_ _)); exact BK274.out) hb); have n10_ := Aside0.mk (below_step (by repeat (first | (with_reducible first | exact HB.out | apply below_alloc | apply pw_below_drewN | apply below_drew1 | refine below_set ?_ GE253.out | refine below_set ?_ GE254.out | refine below_set ?_ GE274.out) | exact HB.out)) hb); clear HO259; clear HO262; clear HO265; clear HO268; clear HO273; clear BK253; clear BK254; clear BK274; clear HB; have HO259 := n0_; have HO262 := n1_; have HO265 := n2_; have HO268 := n3_; have HO273 := n4_; have HO277 := n5_; have HO280 := n6_; have BK253 := n7_; have BK254 := n8_; have BK274 := n9_; have HB := n10_; clear n0_ n1_ n2_ n3_ n4_ n5_ n6_ n7_ n8_ n9_ n10_; (try clear hb); (try clear hb2); (try clear hk); (try clear hi); (try clear ho0); (try clear ho1)) | ((with_reducible refine gate_dst (N := 12) rfl ?_); refine box_event ?hg (N := 12) ?hd (cs := #[.slice none 0 0, .slice none 0 0]) (t := 36) ?hr ?_; (case hd => rfl); (case hg => rfl); (case hr => first | (go_simp; done) | (go_simp; rfl)); intro gb281 hg w50 hbox hb; have n0_ := Aside0.mk (Kd.R_below (by (with_reducible repeat (first | apply Kd.R_alloc | apply Kd.R_drewN | apply Kd.R_drew)); exact HO259.out) hb); have n1_ := Aside0.mk (Kd.R_below (by (with_reducible repeat (first | apply Kd.R_alloc | apply Kd.R_drewN | apply Kd.R_drew)); exact HO262.out) hb); have n2_ := Aside0.mk (Kd.R_below (by (with_reducible repeat (first | apply Kd.R_alloc | apply Kd.R_drewN | apply Kd.R_drew)); exact HO265.out) hb); have n3_ := Aside0.mk (Kd.R_below (by (with_reducible repeat (first | apply Kd.R_alloc | apply Kd.R_drewN | apply Kd.R_drew)); exact HO268.out) hb); have n4_ := Aside0.mk (Kd.R_below (by (with_reducible repeat (first | apply Kd.R_alloc | apply Kd.R_drewN | apply Kd.R_drew)); exact HO273.out) hb); have n5_ := Aside0.mk (Kd.R_below (by (with_reducible repeat (first | apply Kd.R_alloc | apply Kd.R_drewN | apply Kd.R_drew)); exact HO277.out) hb); have n6_ := Aside0.mk (Kd.R_below (by (with_reducible repeat (first | apply Kd.R_alloc | apply Kd.R_drewN | apply Kd.R_drew)); exact HO280.out) hb); have n7_ := Aside0.mk (blk_below (g := gb253) (o := .cells #[.slice A0_0 l0_0.length c0_0] 24 (0, 0)) (by (with_reducible repeat (first | refine blk_drewN ?_ _ | refine blk_drew ?_ | refine blk_alloc ?_ _)); exact BK253.out) hb); have n8_ := Aside0.mk (blk_below (g := gb254) (o := .cells #[.slice A1_0 l1_0.length c1_0, .slice A1_1 l1_1.length c1_1] 27 (0, 0)) (by (with_reducible repeat (first | refine blk_drewN ?_ _ | refine blk_drew ?_ | refine blk_alloc ?_ _)); exact BK254.out) hb); have n9_ := Aside0.mk (blk_below (g := gb274) (o := .cells #[.slice Ao44 t271.length co44] 34 (0, 0)) (by (with_reducible repeat (first | refine blk_drewN ?_ _ | refine blk_drew ?_ | refine blk_alloc ?_ _)); exact BK274.out) hb); have n10_ := Aside0.mk (below_step (by repeat (first | (with_reducible first | exact HB.out | apply below_alloc | apply pw_below_drewN | apply below_drew1 | refine below_set ?_ GE253.out | refine below_set ?_ GE254.out | refine below_set ?_ GE274.out) | exact HB.out)) hb); have n11_ := Aside0.mk (hbox); have n12_ := Aside0.mk ((by rw [hg]; exact (below_size (by repeat (first | (with_reducible first | exact HB.out | apply below_alloc | apply pw_below_drewN | apply below_drew1 | refine below_set ?_ GE253.out | refine below_set ?_ GE254.out | refine below_set ?_ GE274.out) | exact HB.out))) : w.heap.size ≤ gb281)); have n13_ := Aside0.mk ((by rw [hg]; exact (below_size (by repeat (first | (with_reducible first | exact HB.out | apply below_alloc | apply pw_below_drewN | apply below_drew1 | refine below_set ?_ GE253.out | refine below_set ?_ GE254.out | refine below_set ?_ GE274.out) | exact HB.out))) : w.heap.size ≤ gb281)); have n14_ := Aside0.mk ((by rw [hg]; exact Nat.ne_of_lt (blk_lt (g := gb253) (o := .cells #[.slice A0_0 l0_0.length c0_0] 24 (0, 0)) (by (with_reducible repeat (first | refine blk_drewN ?_ _ | refine blk_drew ?_ | refine blk_alloc ?_ _)); exact BK253.out)) : gb253 ≠ gb281)); have n15_ := Aside0.mk ((by rw [hg]; exact Nat.ne_of_gt (blk_lt (g := gb253) (o := .cells #[.slice A0_0 l0_0.length c0_0] 24 (0, 0)) (by (with_reducible repeat (first | refine blk_drewN ?_ _ | refine blk_drew ?_ | refine blk_alloc ?_ _)); exact BK253.out)) : gb281 ≠ gb253)); have n16_ := Aside0.mk ((by rw [hg]; exact Nat.ne_of_lt (blk_lt (g := gb254) (o := .cells #[.slice A1_0 l1_0.length c1_0, .slice A1_1 l1_1.length c1_1] 27 (0, 0)) (by (with_reducible repeat (first | refine blk_drewN ?_ _ | refine blk_drew ?_ | refine blk_alloc ?_ _)); exact BK254.out)) : gb254 ≠ gb281)); have n17_ := Aside0.mk ((by rw [hg]; exact Nat.ne_of_gt (blk_lt (g := gb254) (o := .cells #[.slice A1_0 l1_0.length c1_0, .slice A1_1 l1_1.length c1_1] 27 (0, 0)) (by (with_reducible repeat (first | refine blk_drewN ?_ _ | refine blk_drew ?_ | refine blk_alloc ?_ _)); exact BK254.out)) : gb281 ≠ gb254)); have n18_ := Aside0.mk ((by rw [hg]; exact Nat.ne_of_lt (blk_lt (g := gb274) (o := .cells #[.slice Ao44 t271.length co44] 34 (0, 0)) (by (with_reducible repeat (first | refine blk_drewN ?_ _ | refine blk_drew ?_ | refine blk_alloc ?_ _)); exact BK274.out)) : gb274 ≠ gb281)); have n19_ := Aside0.mk ((by rw [hg]; exact Nat.ne_of_gt (blk_lt (g := gb274) (o := .cells #[.slice Ao44 t271.length co44] 34 (0, 0)) (by (with_reducible repeat (first | refine blk_drewN ?_ _ | refine blk_drew ?_ | refine blk_alloc ?_ _)); exact BK274.out)) : gb281 ≠ gb274)); clear HO259; clear HO262; clear HO265; clear HO268; clear HO273; clear HO277; clear HO280; clear BK253; clear BK254; clear BK274; clear HB; have HO259 := n0_; have HO262 := n1_; have HO265 := n2_; have HO268 := n3_; have HO273 := n4_; have HO277 := n5_; have HO280 := n6_; have BK253 := n7_; have BK254 := n8_; have BK274 := n9_; have HB := n10_; have BK281 := n11_; have GW281 := n12_; have GE281 := n13_; have NB253_281 := n14_; have NB281_253 := n15_; have NB254_281 := n16_; have NB281_254 := n17_; have NB274_281 := n18_; have NB281_274 := n19_; clear n0_ n1_ n2_ n3_ n4_ n5_ n6_ n7_ n8_ n9_ n10_ n11_ n12_ n13_ n14_ n15_ n16_ n17_ n18_ n19_; clear hb hbox hg; obtain ⟨Ao51, co51, eo51⟩ := Kd.R_slice HO277.out; subst eo51; have hnb52 := NB281_253.out; have hnc52 := NB253_281.out; have hnb53 := NB281_254.out; have hnc53 := NB254_281.out; have hnb54 := NB281_274.out; have hnc54 := NB274_281.out; have hcz55_0 : w50.cell? ⟨gb281, 0, none⟩ = some (.slice none 0 0) := (blk_cell BK281.out 0).trans rfl; have hcz55_1 : w50.cell? ⟨gb281, 1, none⟩ = some (.slice none 0 0) := (blk_cell BK281.out 1).trans rfl; have hfz55_0 := blk_frozen BK281.out 0; have hfz55_1 := blk_frozen BK281.out 1; obtain ⟨Ao56, co56, eo56⟩ := Kd.R_slice HO280.out; subst eo56; have hcz57_0 : w50.cell? ⟨gb274, 0, none⟩ = some (.slice Ao44 t271.length co44) := (blk_cell BK274.out 0).trans rfl; have hfz57_0 := blk_frozen BK274.out 0) | ((with_reducible refine gate_callee (f := 19) rfl ?_); refine goesL_ (some 50) rfl rfl Try.func19 (by kernel_rfl) rfl #[.agg #[.slice Ao44 t271.length co44], .agg #[.slice Ao51 t275.length co51, .slice Ao56 t278.length co56], .int .i64 a2] rfl (by (try simp only [List.map_toArray, List.map_cons, List.map_nil]); first | done | rfl | (simp only [List.length_drop, List.length_take]; rfl)) ?_; (with_reducible refine (impl_RunTree.calls k _ _ t271 _ _ t275 _ _ t278 a2 t282 t285 t286 _ ?side1 ?side2 ?side3 ?side4 ?side5 ?side6 A25.out).mono ?_); (case side1 => refine (Kd.R_reads' (e := 89) (base := w.heap.size) (ok := fun k_ => (True ∧ some k_ ≠ (.slice Ao37 t257.length co37 : Value).ownBlock)) (n := t271.length) (c := co44) ?_).2.2; exact (by (with_reducible repeat (first | apply Kd.R_alloc | apply Kd.R_drewN | apply Kd.R_drew)); exact (Kd.R_mono (Kd.R_far (p := ⟨gb281, 1, none⟩) (Kd.R_far (p := ⟨gb281, 0, none⟩) (Kd.R_types HO273.out BK281.out (by decide)) (fun _ hk => hk.2) (.slice Ao51 t275.length co51)) (fun _ hk => hk.2) (.slice Ao56 t278.length co56)) (fun _ h_ => h_.1)))); (case side2 => exact (Kd.R_reads' HO273.out).2.1); (case side3 => refine (Kd.R_reads' (e := 86) (base := w.heap.size) (ok := fun k_ => (((some k_ ≠ (.slice Ao56 t278.length co56 : Value).ownBlock ∧ some k_ ≠ (.slice Ao38 t260.length co38 : Value).ownBlock) ∧ some k_ ≠ (.slice Ao39 t263.length co39 : Value).ownBlock) ∧ some k_ ≠ (v267 : Value).ownBlock)) (n := t275.length) (c := co51) ?_).2.2; exact (by (with_reducible repeat (first | apply Kd.R_alloc | apply Kd.R_drewN | apply Kd.R_drew)); exact (Kd.R_mono (Kd.R_far (p := ⟨gb281, 1, none⟩) (Kd.R_far (p := ⟨gb281, 0, none⟩) (Kd.R_types HO277.out BK281.out (by decide)) (fun _ hk => hk.2) (.slice Ao51 t275.length co51)) (fun _ hk => hk.2) (.slice Ao56 t278.length co56)) (fun _ h_ => h_.1)))); (case side4 => exact (Kd.R_reads' HO277.out).2.1); (case side5 => refine (Kd.R_reads' (e := 86) (base := w.heap.size) (ok := fun k_ => (((some k_ ≠ (.slice Ao51 t275.length co51 : Value).ownBlock ∧ some k_ ≠ (.slice Ao38 t260.length co38 : Value).ownBlock) ∧ some k_ ≠ (.slice Ao39 t263.length co39 : Value).ownBlock) ∧ some k_ ≠ (v267 : Value).ownBlock)) (n := t278.length) (c := co56) ?_).2.2; exact (by (with_reducible repeat (first | apply Kd.R_alloc | apply Kd.R_drewN | apply Kd.R_drew)); exact (Kd.R_mono (Kd.R_far (p := ⟨gb281, 1, none⟩) (Kd.R_far (p := ⟨gb281, 0, none⟩) (Kd.R_types HO280.out BK281.out (by decide)) (fun _ hk => hk.2) (.slice Ao51 t275.length co51)) (fun _ hk => hk.2) (.slice Ao56 t278.length co56)) (fun _ h_ => h_.1)))); (case side6 => exact (Kd.R_reads' HO280.out).2.1); rintro e w58 ⟨v283, rfl, ho0, hb⟩; refine ⟨_, rfl, ?_⟩; have n0_ := Aside0.mk (Kd.R_below (by (with_reducible repeat (first | apply Kd.R_alloc | apply Kd.R_drewN | apply Kd.R_drew)); exact (Kd.R_mono (Kd.R_far (p := ⟨gb281, 1, none⟩) (Kd.R_far (p := ⟨gb281, 0, none⟩) (Kd.R_types HO259.out BK281.out (by decide)) (fun _ hk => hk.2) (.slice Ao51 t275.length co51)) (fun _ hk => hk.2) (.slice Ao56 t278.length co56)) (fun _ h_ => h_.1))) hb); have n1_ := Aside0.mk (Kd.R_elder' (by (with_reducible repeat (first | apply Kd.R_alloc | apply Kd.R_drewN | apply Kd.R_drew)); exact (Kd.R_mono (Kd.R_far (p := ⟨gb281, 1, none⟩) (Kd.R_far (p := ⟨gb281, 0, none⟩) (Kd.R_types HO262.out BK281.out (by decide)) (fun _ hk => hk.2) (.slice Ao51 t275.length co51)) (fun _ hk => hk.2) (.slice Ao56 t278.length co56)) (fun _ h_ => h_.1))) (Kd.R_base ho0) hb); have n2_ := Aside0.mk (Kd.R_elder' (by (with_reducible repeat (first | apply Kd.R_alloc | apply Kd.R_drewN | apply Kd.R_drew)); exact (Kd.R_mono (Kd.R_far (p := ⟨gb281, 1, none⟩) (Kd.R_far (p := ⟨gb281, 0, none⟩) (Kd.R_types HO265.out BK281.out (by decide)) (fun _ hk => hk.2) (.slice Ao51 t275.length co51)) (fun _ hk => hk.2) (.slice Ao56 t278.length co56)) (fun _ h_ => h_.1))) (Kd.R_base ho0) hb); have n3_ := Aside0.mk (Kd.R_elder' (by (with_reducible repeat (first | apply Kd.R_alloc | apply Kd.R_drewN | apply Kd.R_drew)); exact (Kd.R_mono (Kd.R_far (p := ⟨gb281, 1, none⟩) (Kd.R_far (p := ⟨gb281, 0, none⟩) (Kd.R_types HO268.out BK281.out (by decide)) (fun _ hk => hk.2) (.slice Ao51 t275.length co51)) (fun _ hk => hk.2) (.slice Ao56 t278.length co56)) (fun _ h_ => h_.1))) (Kd.R_base ho0) hb); have n4_ := Aside0.mk (Kd.R_below (by (with_reducible repeat (first | apply Kd.R_alloc | apply Kd.R_drewN | apply Kd.R_drew)); exact (Kd.R_mono (Kd.R_far (p := ⟨gb281, 1, none⟩) (Kd.R_far (p := ⟨gb281, 0, none⟩) (Kd.R_types HO273.out BK281.out (by decide)) (fun _ hk => hk.2) (.slice Ao51 t275.length co51)) (fun _ hk => hk.2) (.slice Ao56 t278.length co56)) (fun _ h_ => h_.1))) hb); have n5_ := Aside0.mk (Kd.R_elder' (by (with_reducible repeat (first | apply Kd.R_alloc | apply Kd.R_drewN | apply Kd.R_drew)); exact (Kd.R_mono (Kd.R_far (p := ⟨gb281, 1, none⟩) (Kd.R_far (p := ⟨gb281, 0, none⟩) (Kd.R_types HO277.out BK281.out (by decide)) (fun _ hk => hk.2) (.slice Ao51 t275.length co51)) (fun _ hk => hk.2) (.slice Ao56 t278.length co56)) (fun _ h_ => h_.1))) (Kd.R_base ho0) hb); have n6_ := Aside0.mk (Kd.R_elder' (by (with_reducible repeat (first | apply Kd.R_alloc | apply Kd.R_drewN | apply Kd.R_drew)); exact (Kd.R_mono (Kd.R_far (p := ⟨gb281, 1, none⟩) (Kd.R_far (p := ⟨gb281, 0, none⟩) (Kd.R_types HO280.out BK281.out (by decide)) (fun _ hk => hk.2) (.slice Ao51 t275.length co51)) (fun _ hk => hk.2) (.slice Ao56 t278.length co56)) (fun _ h_ => h_.1))) (Kd.R_base ho0) hb); have n7_ := Aside0.mk (Kd.R_lower (Kd.R_new' (Kd.R_new' (Kd.R_new' (Kd.R_new' (Kd.R_new' ho0 (Kd.R_lt (by (with_reducible repeat (first | apply Kd.R_alloc | apply Kd.R_drewN | apply Kd.R_drew)); exact (Kd.R_mono (Kd.R_far (p := ⟨gb281, 1, none⟩) (Kd.R_far (p := ⟨gb281, 0, none⟩) (Kd.R_types HO262.out BK281.out (by decide)) (fun _ hk => hk.2) (.slice Ao51 t275.length co51)) (fun _ hk => hk.2) (.slice Ao56 t278.length co56)) (fun _ h_ => h_.1))))) (Kd.R_lt (by (with_reducible repeat (first | apply Kd.R_alloc | apply Kd.R_drewN | apply Kd.R_drew)); exact (Kd.R_mono (Kd.R_far (p := ⟨gb281, 1, none⟩) (Kd.R_far (p := ⟨gb281, 0, none⟩) (Kd.R_types HO265.out BK281.out (by decide)) (fun _ hk => hk.2) (.slice Ao51 t275.length co51)) (fun _ hk => hk.2) (.slice Ao56 t278.length co56)) (fun _ h_ => h_.1))))) (Kd.R_lt (by (with_reducible repeat (first | apply Kd.R_alloc | apply Kd.R_drewN | apply Kd.R_drew)); exact (Kd.R_mono (Kd.R_far (p := ⟨gb281, 1, none⟩) (Kd.R_far (p := ⟨gb281, 0, none⟩) (Kd.R_types HO268.out BK281.out (by decide)) (fun _ hk => hk.2) (.slice Ao51 t275.length co51)) (fun _ hk => hk.2) (.slice Ao56 t278.length co56)) (fun _ h_ => h_.1))))) (Kd.R_lt (by (with_reducible repeat (first | apply Kd.R_alloc | apply Kd.R_drewN | apply Kd.R_drew)); exact (Kd.R_mono (Kd.R_far (p := ⟨gb281, 1, none⟩) (Kd.R_far (p := ⟨gb281, 0, none⟩) (Kd.R_types HO277.out BK281.out (by decide)) (fun _ hk => hk.2) (.slice Ao51 t275.length co51)) (fun _ hk => hk.2) (.slice Ao56 t278.length co56)) (fun _ h_ => h_.1))))) (Kd.R_lt (by (with_reducible repeat (first | apply Kd.R_alloc | apply Kd.R_drewN | apply Kd.R_drew)); exact (Kd.R_mono (Kd.R_far (p := ⟨gb281, 1, none⟩) (Kd.R_far (p := ⟨gb281, 0, none⟩) (Kd.R_types HO280.out BK281.out (by decide)) (fun _ hk => hk.2) (.slice Ao51 t275.length co51)) (fun _ hk => hk.2) (.slice Ao56 t278.length co56)) (fun _ h_ => h_.1))))) (below_size (by repeat (first | (with_reducible first | exact HB.out | apply below_alloc | apply pw_below_drewN | apply below_drew1 | refine below_set ?_ GE253.out | refine below_set ?_ GE254.out | refine below_set ?_ GE274.out | refine below_set ?_ GE281.out) | exact HB.out)))); have n8_ := Aside0.mk (blk_below (g := gb253) (o := .cells #[.slice A0_0 l0_0.length c0_0] 24 (0, 0)) (by (with_reducible repeat (first | refine blk_drewN ?_ _ | refine blk_drew ?_ | refine blk_alloc ?_ _)); refine blk_far ?_ NB253_281.out _; (with_reducible repeat (first | refine blk_drewN ?_ _ | refine blk_drew ?_ | refine blk_alloc ?_ _)); refine blk_far ?_ NB253_281.out _; (with_reducible repeat (first | refine blk_drewN ?_ _ | refine blk_drew ?_ | refine blk_alloc ?_ _)); exact BK253.out) hb); have n9_ := Aside0.mk (blk_below (g := gb254) (o := .cells #[.slice A1_0 l1_0.length c1_0, .slice A1_1 l1_1.length c1_1] 27 (0, 0)) (by (with_reducible repeat (first | refine blk_drewN ?_ _ | refine blk_drew ?_ | refine blk_alloc ?_ _)); refine blk_far ?_ NB254_281.out _; (with_reducible repeat (first | refine blk_drewN ?_ _ | refine blk_drew ?_ | refine blk_alloc ?_ _)); refine blk_far ?_ NB254_281.out _; (with_reducible repeat (first | refine blk_drewN ?_ _ | refine blk_drew ?_ | refine blk_alloc ?_ _)); exact BK254.out) hb); have n10_ := Aside0.mk (blk_below (g := gb274) (o := .cells #[.slice Ao44 t271.length co44] 34 (0, 0)) (by (with_reducible repeat (first | refine blk_drewN ?_ _ | refine blk_drew ?_ | refine blk_alloc ?_ _)); refine blk_far ?_ NB274_281.out _; (with_reducible repeat (first | refine blk_drewN ?_ _ | refine blk_drew ?_ | refine blk_alloc ?_ _)); refine blk_far ?_ NB274_281.out _; (with_reducible repeat (first | refine blk_drewN ?_ _ | refine blk_drew ?_ | refine blk_alloc ?_ _)); exact BK274.out) hb); have n11_ := Aside0.mk (blk_below (g := gb281) (o := .cells #[.slice Ao51 t275.length co51, .slice Ao56 t278.length co56] 36 (0, 0)) (by (with_reducible repeat (first | refine blk_drewN ?_ _ | refine blk_drew ?_ | refine blk_alloc ?_ _)); refine blk_put (cs := #[.slice Ao51 t275.length co51, .slice none 0 0]) ?_ 1 _ rfl; (with_reducible repeat (first | refine blk_drewN ?_ _ | refine blk_drew ?_ | refine blk_alloc ?_ _)); refine blk_put (cs := #[.slice none 0 0, .slice none 0 0]) ?_ 0 _ rfl; (with_reducible repeat (first | refine blk_drewN ?_ _ | refine blk_drew ?_ | refine blk_alloc ?_ _)); exact BK281.out) hb); have n12_ := Aside0.mk (below_step (by repeat (first | (with_reducible first | exact HB.out | apply below_alloc | apply pw_below_drewN | apply below_drew1 | refine below_set ?_ GE253.out | refine below_set ?_ GE254.out | refine below_set ?_ GE274.out | refine below_set ?_ GE281.out) | exact HB.out)) hb); clear HO259; clear HO262; clear HO265; clear HO268; clear HO273; clear HO277; clear HO280; clear BK253; clear BK254; clear BK274; clear BK281; clear HB; have HO259 := n0_; have HO262 := n1_; have HO265 := n2_; have HO268 := n3_; have HO273 := n4_; have HO277 := n5_; have HO280 := n6_; have HO284 := n7_; have BK253 := n8_; have BK254 := n9_; have BK274 := n10_; have BK281 := n11_; have HB := n12_; clear n0_ n1_ n2_ n3_ n4_ n5_ n6_ n7_ n8_ n9_ n10_ n11_ n12_; (try clear hb); (try clear hb2); (try clear hk); (try clear hi); (try clear ho0)))
   (try simp only [Act.put, sA_, sB_, sC_])
   go_cut [67] (fun v67 wc => ∃ (kq : Nat) (x67_25 : Bool), v67 = .bool x67_25 ∧ Aside0 (laws_FnExactRunTree.j0 kq a2 t266 t269 t270 t282 t285 t286 x67_25 l0_0 l1_0 l1_1 t271 t275 t278 = some true) ∧ Aside0 (kq ≤ k) ∧ Aside0 (Kd.R (Kd.int .i8) 86 wc w.heap.size (fun k_ => some k_ ≠ (v283 : Value).ownBlock ∧ some k_ ≠ ((.slice Ao51 t275.length co51) : Value).ownBlock ∧ some k_ ≠ ((.slice Ao56 t278.length co56) : Value).ownBlock) v267 t266) ∧ Aside0 (Kd.R (Kd.int .i8) 86 wc w.heap.size (fun k_ => some k_ ≠ (v267 : Value).ownBlock ∧ some k_ ≠ ((.slice Ao51 t275.length co51) : Value).ownBlock ∧ some k_ ≠ ((.slice Ao56 t278.length co56) : Value).ownBlock) v283 t282) ∧ Aside0 (Kd.R k89 89 wc w.heap.size (fun _ => True) (.slice Ao44 t271.length co44) t271) ∧ Aside0 (Kd.R (Kd.int .i8) 86 wc w.heap.size (fun k_ => some k_ ≠ (v267 : Value).ownBlock ∧ some k_ ≠ (v283 : Value).ownBlock ∧ some k_ ≠ ((.slice Ao56 t278.length co56) : Value).ownBlock) (.slice Ao51 t275.length co51) t275) ∧ Aside0 (Kd.R (Kd.int .i8) 86 wc w.heap.size (fun k_ => some k_ ≠ (v267 : Value).ownBlock ∧ some k_ ≠ (v283 : Value).ownBlock ∧ some k_ ≠ ((.slice Ao51 t275.length co51) : Value).ownBlock) (.slice Ao56 t278.length co56) t278) ∧ Aside0 (wc.heap[gb253]? = some (.cells #[(.slice A0_0 l0_0.length c0_0)] 24 (0, 0))) ∧ Aside0 (wc.heap[gb254]? = some (.cells #[(.slice A1_0 l1_0.length c1_0), (.slice A1_1 l1_1.length c1_1)] 27 (0, 0))) ∧ Aside0 (wc.heap[gb274]? = some (.cells #[(.slice Ao44 t271.length co44)] 34 (0, 0))) ∧ Aside0 (wc.heap[gb281]? = some (.cells #[(.slice Ao51 t275.length co51), (.slice Ao56 t278.length co56)] 36 (0, 0))) ∧ Aside0 (Below w.heap.size w wc))
   case first =>
    have H := HC26.out
    clear HC26
    replace H := Option.bind_eq_some_iff.mp H
    obtain ⟨t287, A590, H⟩ := H
    replace H : (if t287 = true then (if t285 = t269 then (laws_FnExactRunTree.j0 k a2 t266 t269 t270 t282 t285 t286 (t286 != t270) l0_0 l1_0 l1_1 t271 t275 t278) else (laws_FnExactRunTree.j0 k a2 t266 t269 t270 t282 t285 t286 true l0_0 l1_0 l1_1 t271 t275 t278)) else (laws_FnExactRunTree.j0 k a2 t266 t269 t270 t282 t285 t286 true l0_0 l1_0 l1_1 t271 t275 t278)) = some true := H
    have A59 := Aside0.mk A590
    clear A590
    by_cases c60 : t287 = true
    ·
     subst c60
     have H1 : (if t285 = t269 then (laws_FnExactRunTree.j0 k a2 t266 t269 t270 t282 t285 t286 (t286 != t270) l0_0 l1_0 l1_1 t271 t275 t278) else (laws_FnExactRunTree.j0 k a2 t266 t269 t270 t282 t285 t286 true l0_0 l1_0 l1_1 t271 t275 t278)) = some true := by first | (rw [if_pos rfl] at H; exact H) | rfl
     clear H
     have H := H1
     clear H1
     by_cases c61 : t285 = t269
     ·
      rw [if_pos c61] at H
      have c61b0 : (t285 == t269) = true := beq_iff_eq.mpr c61
      have c61b1 : (t285 != t269) = false := bne_eq_false_iff_eq.mpr c61
      clear c61
      (first | rw [c61b0] | (simp only [i64_w, i32_w]; rw [c61b0]) | skip)
      have H' := Aside0.mk H
      clear H
      obtain ⟨Ao62, co62, eo62⟩ := Kd.R_slice HO284.out
      subst eo62
      obtain ⟨Ao63, co63, eo63⟩ := Kd.R_slice HO268.out
      subst eo63
      go_wp2_with (first | ((with_reducible refine gate_callee (f := 20) rfl ?_); refine goesL_ (some 56) rfl rfl Try.func20 (by kernel_rfl) rfl #[.slice Ao62 t282.length co62, .slice Ao63 t266.length co63] rfl (by (try simp only [List.map_toArray, List.map_cons, List.map_nil]); first | done | rfl | (simp only [List.length_drop, List.length_take]; rfl)) ?_; (with_reducible refine (laws_eqInt8S.calls k _ _ t282 _ _ t266 true _ ?side1 ?side2 ?side3 ?side4 A59.out).mono ?_); (case side1 => repeat (first | exact (Kd.R_reads' HO284.out).2.2 | (with_reducible refine Kd.C_alloc ?_ _) | (with_reducible refine Kd.C_drewN ?_ _) | (with_reducible refine Kd.C_drew ?_))); (case side2 => exact (Kd.R_reads' HO284.out).2.1); (case side3 => repeat (first | exact (Kd.R_reads' HO268.out).2.2 | (with_reducible refine Kd.C_alloc ?_ _) | (with_reducible refine Kd.C_drewN ?_ _) | (with_reducible refine Kd.C_drew ?_))); (case side4 => exact (Kd.R_reads' HO268.out).2.1); rintro e w' ⟨rfl, ⟨nd, rfl⟩⟩; refine ⟨_, rfl, ?_⟩))
      go_meet
      case rel => exact ⟨_, ((t286 != t270)), (by first | rfl | (simp; done) | (simp [*]; done) | (simp [isE_]; done)), H', ⟨by first | omega | exact Nat.le_refl _⟩, ⟨by (with_reducible repeat (first | apply Kd.R_alloc | apply Kd.R_drewN | apply Kd.R_drew)); exact Kd.R_mono HO268.out (fun _ hk => ⟨hk.2, ⟨hk.1.1.2, hk.1.2⟩⟩)⟩, ⟨by (with_reducible repeat (first | apply Kd.R_alloc | apply Kd.R_drewN | apply Kd.R_drew)); exact Kd.R_mono HO284.out (fun _ hk => ⟨hk.1.1.2, ⟨hk.1.2, hk.2⟩⟩)⟩, ⟨by (with_reducible repeat (first | apply Kd.R_alloc | apply Kd.R_drewN | apply Kd.R_drew)); exact Kd.R_mono HO273.out (fun _ hk => trivial)⟩, ⟨by (with_reducible repeat (first | apply Kd.R_alloc | apply Kd.R_drewN | apply Kd.R_drew)); exact Kd.R_mono HO277.out (fun _ hk => ⟨hk.1.2, ⟨hk.2, hk.1.1.1.1⟩⟩)⟩, ⟨by (with_reducible repeat (first | apply Kd.R_alloc | apply Kd.R_drewN | apply Kd.R_drew)); exact Kd.R_mono HO280.out (fun _ hk => ⟨hk.1.2, ⟨hk.2, hk.1.1.1.1⟩⟩)⟩, ⟨by (with_reducible repeat (first | refine blk_drewN ?_ _ | refine blk_drew ?_ | refine blk_alloc ?_ _)); exact BK253.out⟩, ⟨by (with_reducible repeat (first | refine blk_drewN ?_ _ | refine blk_drew ?_ | refine blk_alloc ?_ _)); exact BK254.out⟩, ⟨by (with_reducible repeat (first | refine blk_drewN ?_ _ | refine blk_drew ?_ | refine blk_alloc ?_ _)); exact BK274.out⟩, ⟨by (with_reducible repeat (first | refine blk_drewN ?_ _ | refine blk_drew ?_ | refine blk_alloc ?_ _)); exact BK281.out⟩, ⟨by repeat (first | (with_reducible first | exact HB.out | apply below_alloc | apply pw_below_drewN | apply below_drew1 | refine below_set ?_ GE253.out | refine below_set ?_ GE254.out | refine below_set ?_ GE274.out | refine below_set ?_ GE281.out) | exact HB.out)⟩⟩
     ·
      rw [if_neg c61] at H
      have c61b0 : (t285 == t269) = false := beq_eq_false_iff_ne.mpr c61
      have c61b1 : (t285 != t269) = true := bne_iff_ne.mpr c61
      (first | rw [c61b0] | (simp only [i64_w, i32_w]; rw [c61b0]) | skip)
      have H' := Aside0.mk H
      clear H
      obtain ⟨Ao64, co64, eo64⟩ := Kd.R_slice HO284.out
      subst eo64
      obtain ⟨Ao65, co65, eo65⟩ := Kd.R_slice HO268.out
      subst eo65
      go_wp2_with (first | ((with_reducible refine gate_callee (f := 20) rfl ?_); refine goesL_ (some 56) rfl rfl Try.func20 (by kernel_rfl) rfl #[.slice Ao64 t282.length co64, .slice Ao65 t266.length co65] rfl (by (try simp only [List.map_toArray, List.map_cons, List.map_nil]); first | done | rfl | (simp only [List.length_drop, List.length_take]; rfl)) ?_; (with_reducible refine (laws_eqInt8S.calls k _ _ t282 _ _ t266 true _ ?side1 ?side2 ?side3 ?side4 A59.out).mono ?_); (case side1 => repeat (first | exact (Kd.R_reads' HO284.out).2.2 | (with_reducible refine Kd.C_alloc ?_ _) | (with_reducible refine Kd.C_drewN ?_ _) | (with_reducible refine Kd.C_drew ?_))); (case side2 => exact (Kd.R_reads' HO284.out).2.1); (case side3 => repeat (first | exact (Kd.R_reads' HO268.out).2.2 | (with_reducible refine Kd.C_alloc ?_ _) | (with_reducible refine Kd.C_drewN ?_ _) | (with_reducible refine Kd.C_drew ?_))); (case side4 => exact (Kd.R_reads' HO268.out).2.1); rintro e w' ⟨rfl, ⟨nd, rfl⟩⟩; refine ⟨_, rfl, ?_⟩))
      go_meet
      case rel => exact ⟨_, (true), (by first | rfl | (simp; done) | (simp [*]; done) | (simp [isE_]; done)), H', ⟨by first | omega | exact Nat.le_refl _⟩, ⟨by (with_reducible repeat (first | apply Kd.R_alloc | apply Kd.R_drewN | apply Kd.R_drew)); exact Kd.R_mono HO268.out (fun _ hk => ⟨hk.2, ⟨hk.1.1.2, hk.1.2⟩⟩)⟩, ⟨by (with_reducible repeat (first | apply Kd.R_alloc | apply Kd.R_drewN | apply Kd.R_drew)); exact Kd.R_mono HO284.out (fun _ hk => ⟨hk.1.1.2, ⟨hk.1.2, hk.2⟩⟩)⟩, ⟨by (with_reducible repeat (first | apply Kd.R_alloc | apply Kd.R_drewN | apply Kd.R_drew)); exact Kd.R_mono HO273.out (fun _ hk => trivial)⟩, ⟨by (with_reducible repeat (first | apply Kd.R_alloc | apply Kd.R_drewN | apply Kd.R_drew)); exact Kd.R_mono HO277.out (fun _ hk => ⟨hk.1.2, ⟨hk.2, hk.1.1.1.1⟩⟩)⟩, ⟨by (with_reducible repeat (first | apply Kd.R_alloc | apply Kd.R_drewN | apply Kd.R_drew)); exact Kd.R_mono HO280.out (fun _ hk => ⟨hk.1.2, ⟨hk.2, hk.1.1.1.1⟩⟩)⟩, ⟨by (with_reducible repeat (first | refine blk_drewN ?_ _ | refine blk_drew ?_ | refine blk_alloc ?_ _)); exact BK253.out⟩, ⟨by (with_reducible repeat (first | refine blk_drewN ?_ _ | refine blk_drew ?_ | refine blk_alloc ?_ _)); exact BK254.out⟩, ⟨by (with_reducible repeat (first | refine blk_drewN ?_ _ | refine blk_drew ?_ | refine blk_alloc ?_ _)); exact BK274.out⟩, ⟨by (with_reducible repeat (first | refine blk_drewN ?_ _ | refine blk_drew ?_ | refine blk_alloc ?_ _)); exact BK281.out⟩, ⟨by repeat (first | (with_reducible first | exact HB.out | apply below_alloc | apply pw_below_drewN | apply below_drew1 | refine below_set ?_ GE253.out | refine below_set ?_ GE254.out | refine below_set ?_ GE274.out | refine below_set ?_ GE281.out) | exact HB.out)⟩⟩
    ·
     replace c60 := Bool.eq_false_iff.mpr c60
     subst c60
     have H1 : (laws_FnExactRunTree.j0 k a2 t266 t269 t270 t282 t285 t286 true l0_0 l1_0 l1_1 t271 t275 t278) = some true := by first | (rw [if_neg (show ¬ (false = true) by decide)] at H; exact H) | rfl
     clear H
     have H := H1
     clear H1
     have H' := Aside0.mk H
     clear H
     obtain ⟨Ao66, co66, eo66⟩ := Kd.R_slice HO284.out
     subst eo66
     obtain ⟨Ao67, co67, eo67⟩ := Kd.R_slice HO268.out
     subst eo67
     go_wp2_with (first | ((with_reducible refine gate_callee (f := 20) rfl ?_); refine goesL_ (some 56) rfl rfl Try.func20 (by kernel_rfl) rfl #[.slice Ao66 t282.length co66, .slice Ao67 t266.length co67] rfl (by (try simp only [List.map_toArray, List.map_cons, List.map_nil]); first | done | rfl | (simp only [List.length_drop, List.length_take]; rfl)) ?_; (with_reducible refine (laws_eqInt8S.calls k _ _ t282 _ _ t266 false _ ?side1 ?side2 ?side3 ?side4 A59.out).mono ?_); (case side1 => repeat (first | exact (Kd.R_reads' HO284.out).2.2 | (with_reducible refine Kd.C_alloc ?_ _) | (with_reducible refine Kd.C_drewN ?_ _) | (with_reducible refine Kd.C_drew ?_))); (case side2 => exact (Kd.R_reads' HO284.out).2.1); (case side3 => repeat (first | exact (Kd.R_reads' HO268.out).2.2 | (with_reducible refine Kd.C_alloc ?_ _) | (with_reducible refine Kd.C_drewN ?_ _) | (with_reducible refine Kd.C_drew ?_))); (case side4 => exact (Kd.R_reads' HO268.out).2.1); rintro e w' ⟨rfl, ⟨nd, rfl⟩⟩; refine ⟨_, rfl, ?_⟩))
     go_meet
     case rel => exact ⟨_, (true), (by first | rfl | (simp; done) | (simp [*]; done) | (simp [isE_]; done)), H', ⟨by first | omega | exact Nat.le_refl _⟩, ⟨by (with_reducible repeat (first | apply Kd.R_alloc | apply Kd.R_drewN | apply Kd.R_drew)); exact Kd.R_mono HO268.out (fun _ hk => ⟨hk.2, ⟨hk.1.1.2, hk.1.2⟩⟩)⟩, ⟨by (with_reducible repeat (first | apply Kd.R_alloc | apply Kd.R_drewN | apply Kd.R_drew)); exact Kd.R_mono HO284.out (fun _ hk => ⟨hk.1.1.2, ⟨hk.1.2, hk.2⟩⟩)⟩, ⟨by (with_reducible repeat (first | apply Kd.R_alloc | apply Kd.R_drewN | apply Kd.R_drew)); exact Kd.R_mono HO273.out (fun _ hk => trivial)⟩, ⟨by (with_reducible repeat (first | apply Kd.R_alloc | apply Kd.R_drewN | apply Kd.R_drew)); exact Kd.R_mono HO277.out (fun _ hk => ⟨hk.1.2, ⟨hk.2, hk.1.1.1.1⟩⟩)⟩, ⟨by (with_reducible repeat (first | apply Kd.R_alloc | apply Kd.R_drewN | apply Kd.R_drew)); exact Kd.R_mono HO280.out (fun _ hk => ⟨hk.1.2, ⟨hk.2, hk.1.1.1.1⟩⟩)⟩, ⟨by (with_reducible repeat (first | refine blk_drewN ?_ _ | refine blk_drew ?_ | refine blk_alloc ?_ _)); exact BK253.out⟩, ⟨by (with_reducible repeat (first | refine blk_drewN ?_ _ | refine blk_drew ?_ | refine blk_alloc ?_ _)); exact BK254.out⟩, ⟨by (with_reducible repeat (first | refine blk_drewN ?_ _ | refine blk_drew ?_ | refine blk_alloc ?_ _)); exact BK274.out⟩, ⟨by (with_reducible repeat (first | refine blk_drewN ?_ _ | refine blk_drew ?_ | refine blk_alloc ?_ _)); exact BK281.out⟩, ⟨by repeat (first | (with_reducible first | exact HB.out | apply below_alloc | apply pw_below_drewN | apply below_drew1 | refine below_set ?_ GE253.out | refine below_set ?_ GE254.out | refine below_set ?_ GE274.out | refine below_set ?_ GE281.out) | exact HB.out)⟩⟩
   case rest =>
    clear HC26
    try clear c1
    try clear c2
    try clear p2
    try clear c3
    try clear c4
    try clear c5
    try clear c5b0
    try clear c6
    try clear c8
    try clear c12
    try clear c12b0
    try clear c14
    try clear c15
    try clear c16
    try clear c17
    try clear c18
    try clear c19
    try clear c20
    try clear c29
    try clear c45
    try clear c46
    try clear c52
    try clear c53
    try clear c54
    try clear c60
    try clear c61
    try clear c61b0
    try clear c61b1
    try clear hcz16_0
    try clear hcz18_0
    try clear hcz18_1
    try clear hcz30_0
    try clear hcz32_0
    try clear hcz32_1
    try clear hcz41_0
    try clear hcz47_0
    try clear hcz48_0
    try clear hcz48_1
    try clear hcz55_0
    try clear hcz55_1
    try clear hcz57_0
    try clear hcz9_0
    try clear hfz16_0
    try clear hfz18_0
    try clear hfz18_1
    try clear hfz30_0
    try clear hfz32_0
    try clear hfz32_1
    try clear hfz41_0
    try clear hfz47_0
    try clear hfz48_0
    try clear hfz48_1
    try clear hfz55_0
    try clear hfz55_1
    try clear hfz57_0
    try clear hfz9_0
    obtain ⟨kq, x67_25, rfl, HA, HJ25, HO_8, HO_13, HO_275000, HO_282000, HO_282001, BK253, BK254, BK274, BK281, HB⟩ := hcut
    cases kq with
    | zero => exact absurd HA.out (by simp [laws_FnExactRunTree.j0])
    | succ kj25 =>
     have H := HA.out
     clear HA
     simp only [laws_FnExactRunTree.j0] at H
     by_cases c68 : x67_25 = true
     ·
      subst c68
      have H1 : (some false) = some true := by first | (rw [if_pos rfl] at H; exact H) | rfl
      clear H
      have H := H1
      clear H1
      exact absurd H (by decide)
     ·
      replace c68 := Bool.eq_false_iff.mpr c68
      subst c68
      have H1 : ((laws_toTree.f kj25 l0_0).bind fun t288 => ((laws_eqTree.f kj25 t271 t288).bind fun t291 => (if t291 = true then ((laws_toStream.f kj25 l1_0 l1_1).bind fun bt292 => ((laws_eqStream.f kj25 t275 t278 bt292.1 bt292.2).bind fun t298 => (if t298 = true then ((laws_markTree.f kj25 t271 1).bind fun bt299 => ((laws_markStream.f kj25 t275 t278 bt299.1).bind fun bt301 => (if bt301.1 < 0 then (laws_FnExactRunTree.j1 kj25 a2 t266 t269 t270 t282 true l0_0 l1_0 l1_1) else ((laws_eqInt8S.f kj25 t282 t266).bind fun t304 => (if t304 = true then (if t285 = t269 then (laws_FnExactRunTree.j1 kj25 a2 t266 t269 t270 t282 (t286 != t270) l0_0 l1_0 l1_1) else (laws_FnExactRunTree.j1 kj25 a2 t266 t269 t270 t282 true l0_0 l1_0 l1_1)) else (laws_FnExactRunTree.j1 kj25 a2 t266 t269 t270 t282 true l0_0 l1_0 l1_1)))))) else (some false)))) else (some false)))) = some true := by first | (rw [if_neg (show ¬ (false = true) by decide)] at H; exact H) | rfl
      clear H
      have H := H1
      clear H1
      replace H := Option.bind_eq_some_iff.mp H
      obtain ⟨t288, A690, H⟩ := H
      replace H : ((laws_eqTree.f kj25 t271 t288).bind fun t291 => (if t291 = true then ((laws_toStream.f kj25 l1_0 l1_1).bind fun bt292 => ((laws_eqStream.f kj25 t275 t278 bt292.1 bt292.2).bind fun t298 => (if t298 = true then ((laws_markTree.f kj25 t271 1).bind fun bt299 => ((laws_markStream.f kj25 t275 t278 bt299.1).bind fun bt301 => (if bt301.1 < 0 then (laws_FnExactRunTree.j1 kj25 a2 t266 t269 t270 t282 true l0_0 l1_0 l1_1) else ((laws_eqInt8S.f kj25 t282 t266).bind fun t304 => (if t304 = true then (if t285 = t269 then (laws_FnExactRunTree.j1 kj25 a2 t266 t269 t270 t282 (t286 != t270) l0_0 l1_0 l1_1) else (laws_FnExactRunTree.j1 kj25 a2 t266 t269 t270 t282 true l0_0 l1_0 l1_1)) else (laws_FnExactRunTree.j1 kj25 a2 t266 t269 t270 t282 true l0_0 l1_0 l1_1)))))) else (some false)))) else (some false))) = some true := H
      have A69 := Aside0.mk A690
      clear A690
      replace H := Option.bind_eq_some_iff.mp H
      obtain ⟨t291, A700, H⟩ := H
      replace H : (if t291 = true then ((laws_toStream.f kj25 l1_0 l1_1).bind fun bt292 => ((laws_eqStream.f kj25 t275 t278 bt292.1 bt292.2).bind fun t298 => (if t298 = true then ((laws_markTree.f kj25 t271 1).bind fun bt299 => ((laws_markStream.f kj25 t275 t278 bt299.1).bind fun bt301 => (if bt301.1 < 0 then (laws_FnExactRunTree.j1 kj25 a2 t266 t269 t270 t282 true l0_0 l1_0 l1_1) else ((laws_eqInt8S.f kj25 t282 t266).bind fun t304 => (if t304 = true then (if t285 = t269 then (laws_FnExactRunTree.j1 kj25 a2 t266 t269 t270 t282 (t286 != t270) l0_0 l1_0 l1_1) else (laws_FnExactRunTree.j1 kj25 a2 t266 t269 t270 t282 true l0_0 l1_0 l1_1)) else (laws_FnExactRunTree.j1 kj25 a2 t266 t269 t270 t282 true l0_0 l1_0 l1_1)))))) else (some false)))) else (some false)) = some true := H
      have A70 := Aside0.mk A700
      clear A700
      by_cases c71 : t291 = true
      ·
       subst c71
       have H1 : ((laws_toStream.f kj25 l1_0 l1_1).bind fun bt292 => ((laws_eqStream.f kj25 t275 t278 bt292.1 bt292.2).bind fun t298 => (if t298 = true then ((laws_markTree.f kj25 t271 1).bind fun bt299 => ((laws_markStream.f kj25 t275 t278 bt299.1).bind fun bt301 => (if bt301.1 < 0 then (laws_FnExactRunTree.j1 kj25 a2 t266 t269 t270 t282 true l0_0 l1_0 l1_1) else ((laws_eqInt8S.f kj25 t282 t266).bind fun t304 => (if t304 = true then (if t285 = t269 then (laws_FnExactRunTree.j1 kj25 a2 t266 t269 t270 t282 (t286 != t270) l0_0 l1_0 l1_1) else (laws_FnExactRunTree.j1 kj25 a2 t266 t269 t270 t282 true l0_0 l1_0 l1_1)) else (laws_FnExactRunTree.j1 kj25 a2 t266 t269 t270 t282 true l0_0 l1_0 l1_1)))))) else (some false)))) = some true := by first | (rw [if_pos rfl] at H; exact H) | rfl
       clear H
       have H := H1
       clear H1
       replace H := Option.bind_eq_some_iff.mp H
       obtain ⟨⟨t292, t295⟩, A720, H⟩ := H
       replace H : ((laws_eqStream.f kj25 t275 t278 t292 t295).bind fun t298 => (if t298 = true then ((laws_markTree.f kj25 t271 1).bind fun bt299 => ((laws_markStream.f kj25 t275 t278 bt299.1).bind fun bt301 => (if bt301.1 < 0 then (laws_FnExactRunTree.j1 kj25 a2 t266 t269 t270 t282 true l0_0 l1_0 l1_1) else ((laws_eqInt8S.f kj25 t282 t266).bind fun t304 => (if t304 = true then (if t285 = t269 then (laws_FnExactRunTree.j1 kj25 a2 t266 t269 t270 t282 (t286 != t270) l0_0 l1_0 l1_1) else (laws_FnExactRunTree.j1 kj25 a2 t266 t269 t270 t282 true l0_0 l1_0 l1_1)) else (laws_FnExactRunTree.j1 kj25 a2 t266 t269 t270 t282 true l0_0 l1_0 l1_1)))))) else (some false))) = some true := H
       have A72 := Aside0.mk A720
       clear A720
       replace H := Option.bind_eq_some_iff.mp H
       obtain ⟨t298, A730, H⟩ := H
       replace H : (if t298 = true then ((laws_markTree.f kj25 t271 1).bind fun bt299 => ((laws_markStream.f kj25 t275 t278 bt299.1).bind fun bt301 => (if bt301.1 < 0 then (laws_FnExactRunTree.j1 kj25 a2 t266 t269 t270 t282 true l0_0 l1_0 l1_1) else ((laws_eqInt8S.f kj25 t282 t266).bind fun t304 => (if t304 = true then (if t285 = t269 then (laws_FnExactRunTree.j1 kj25 a2 t266 t269 t270 t282 (t286 != t270) l0_0 l1_0 l1_1) else (laws_FnExactRunTree.j1 kj25 a2 t266 t269 t270 t282 true l0_0 l1_0 l1_1)) else (laws_FnExactRunTree.j1 kj25 a2 t266 t269 t270 t282 true l0_0 l1_0 l1_1)))))) else (some false)) = some true := H
       have A73 := Aside0.mk A730
       clear A730
       by_cases c74 : t298 = true
       ·
        subst c74
        have H1 : ((laws_markTree.f kj25 t271 1).bind fun bt299 => ((laws_markStream.f kj25 t275 t278 bt299.1).bind fun bt301 => (if bt301.1 < 0 then (laws_FnExactRunTree.j1 kj25 a2 t266 t269 t270 t282 true l0_0 l1_0 l1_1) else ((laws_eqInt8S.f kj25 t282 t266).bind fun t304 => (if t304 = true then (if t285 = t269 then (laws_FnExactRunTree.j1 kj25 a2 t266 t269 t270 t282 (t286 != t270) l0_0 l1_0 l1_1) else (laws_FnExactRunTree.j1 kj25 a2 t266 t269 t270 t282 true l0_0 l1_0 l1_1)) else (laws_FnExactRunTree.j1 kj25 a2 t266 t269 t270 t282 true l0_0 l1_0 l1_1)))))) = some true := by first | (rw [if_pos rfl] at H; exact H) | rfl
        clear H
        have H := H1
        clear H1
        replace H := Option.bind_eq_some_iff.mp H
        obtain ⟨⟨t299, t300⟩, A750, H⟩ := H
        replace H : ((laws_markStream.f kj25 t275 t278 t299).bind fun bt301 => (if bt301.1 < 0 then (laws_FnExactRunTree.j1 kj25 a2 t266 t269 t270 t282 true l0_0 l1_0 l1_1) else ((laws_eqInt8S.f kj25 t282 t266).bind fun t304 => (if t304 = true then (if t285 = t269 then (laws_FnExactRunTree.j1 kj25 a2 t266 t269 t270 t282 (t286 != t270) l0_0 l1_0 l1_1) else (laws_FnExactRunTree.j1 kj25 a2 t266 t269 t270 t282 true l0_0 l1_0 l1_1)) else (laws_FnExactRunTree.j1 kj25 a2 t266 t269 t270 t282 true l0_0 l1_0 l1_1))))) = some true := H
        have A75 := Aside0.mk A750
        clear A750
        replace H := Option.bind_eq_some_iff.mp H
        obtain ⟨⟨t301, t302, t303⟩, A760, H⟩ := H
        replace H : (if t301 < 0 then (laws_FnExactRunTree.j1 kj25 a2 t266 t269 t270 t282 true l0_0 l1_0 l1_1) else ((laws_eqInt8S.f kj25 t282 t266).bind fun t304 => (if t304 = true then (if t285 = t269 then (laws_FnExactRunTree.j1 kj25 a2 t266 t269 t270 t282 (t286 != t270) l0_0 l1_0 l1_1) else (laws_FnExactRunTree.j1 kj25 a2 t266 t269 t270 t282 true l0_0 l1_0 l1_1)) else (laws_FnExactRunTree.j1 kj25 a2 t266 t269 t270 t282 true l0_0 l1_0 l1_1)))) = some true := H
        have A76 := Aside0.mk A760
        clear A760
        have HC77 := Aside0.mk H
        clear H
        try go_wp2
        have n0_ := Aside0.mk (Kd.R_drew HO_8.out)
        have n1_ := Aside0.mk (Kd.R_drew HO_13.out)
        have n2_ := Aside0.mk (Kd.R_drew HO_275000.out)
        have n3_ := Aside0.mk (Kd.R_drew HO_282000.out)
        have n4_ := Aside0.mk (Kd.R_drew HO_282001.out)
        have n5_ := Aside0.mk (blk_drew BK253.out)
        have n6_ := Aside0.mk (blk_drew BK254.out)
        have n7_ := Aside0.mk (blk_drew BK274.out)
        have n8_ := Aside0.mk (blk_drew BK281.out)
        have n9_ := Aside0.mk (below_drew1 HB.out)
        clear HO_8
        clear HO_13
        clear HO_275000
        clear HO_282000
        clear HO_282001
        clear BK253
        clear BK254
        clear BK274
        clear BK281
        clear HB
        have HO_8 := n0_
        have HO_13 := n1_
        have HO_275000 := n2_
        have HO_282000 := n3_
        have HO_282001 := n4_
        have BK253 := n5_
        have BK254 := n6_
        have BK274 := n7_
        have BK281 := n8_
        have HB := n9_
        clear n0_ n1_ n2_ n3_ n4_ n5_ n6_ n7_ n8_ n9_
        refine start_ (n := 5) (S := fun w' => w'.cell? ⟨gb274, 0, none⟩ = some (.slice Ao44 t271.length co44) ∧ w'.cell? ⟨gb253, 0, none⟩ = some (.slice A0_0 l0_0.length c0_0)) (ds := []) #[false, false, false, false, false] (by kernel_rfl) rfl rfl ⟨(blk_cell BK274.out 0).trans rfl, (blk_cell BK253.out 0).trans rfl⟩ (fun hHeld => ?_)
        generalize wc.drew = w78 at HO_8 HO_13 HO_275000 HO_282000 HO_282001 BK253 BK254 BK274 BK281 HB hHeld ⊢
        refine take_ (i := 0) (N := some 68) (v := ?_) (a' := ?_) #[true, false, false, false, false] rfl rfl (by kernel_rfl) (fun _ _ _ h => h) (Or.inl ⟨by rfl, ?_⟩) hHeld ?_ ?_
        rotate_left
        ·
         rintro w' ⟨s0, s1⟩
         go_simp
         with_reducible rfl
        rotate_left
        ·
         simp only [Act.put, sA_, sB_, sC_, i64_w, i32_w]
         rfl
        refine take_ (i := 1) (N := some 69) (v := ?_) (a' := ?_) #[true, true, false, false, false] rfl rfl (by kernel_rfl) (fun _ _ _ h => h) (Or.inl ⟨by rfl, ?_⟩) hHeld ?_ ?_
        rotate_left
        ·
         rintro w' ⟨s0, s1⟩
         go_simp
         with_reducible rfl
        rotate_left
        ·
         simp only [Act.put, sA_, sB_, sC_, i64_w, i32_w]
         rfl
        refine one_ (i := 2) (N := some 70) #[true, true, true, false, false] rfl rfl (by kernel_rfl) (by decide) (fun K hK => ?_)
        refine goes_ Try.func17 (by kernel_rfl) rfl #[.agg #[.slice A0_0 l0_0.length c0_0]] (by rfl) rfl rfl (by (try simp only [List.map_toArray, List.map_cons, List.map_nil]); first | done | rfl | (simp only [List.length_drop, List.length_take]; rfl)) ?_
        with_reducible refine (laws_toTree.calls kj25 _ _ l0_0 t288 _ ?side1 ?side2 A69.out).mono ?_
        (case side1 => repeat (first | exact (Kd.C_below HR0_0.out HB.out) | (with_reducible refine Kd.C_alloc ?_ _) | (with_reducible refine Kd.C_drewN ?_ _) | (with_reducible refine Kd.C_drew ?_)))
        (case side2 => exact HC0_0.out)
        rintro e w79 ⟨v289, rfl, ho0, hb⟩
        refine ⟨_, rfl, ?_⟩
        have n0_ := Aside0.mk (Kd.R_below (by (with_reducible repeat (first | apply Kd.R_alloc | apply Kd.R_drewN | apply Kd.R_drew)); exact HO_8.out) hb)
        have n1_ := Aside0.mk (Kd.R_below (by (with_reducible repeat (first | apply Kd.R_alloc | apply Kd.R_drewN | apply Kd.R_drew)); exact HO_13.out) hb)
        have n2_ := Aside0.mk (Kd.R_elder' (by (with_reducible repeat (first | apply Kd.R_alloc | apply Kd.R_drewN | apply Kd.R_drew)); exact HO_275000.out) (Kd.R_base ho0) hb)
        have n3_ := Aside0.mk (Kd.R_below (by (with_reducible repeat (first | apply Kd.R_alloc | apply Kd.R_drewN | apply Kd.R_drew)); exact HO_282000.out) hb)
        have n4_ := Aside0.mk (Kd.R_below (by (with_reducible repeat (first | apply Kd.R_alloc | apply Kd.R_drewN | apply Kd.R_drew)); exact HO_282001.out) hb)
        have n5_ := Aside0.mk (Kd.R_lower (Kd.R_new' ho0 (Kd.R_lt (by (with_reducible repeat (first | apply Kd.R_alloc | apply Kd.R_drewN | apply Kd.R_drew)); exact HO_275000.out))) (below_size (by repeat (first | (with_reducible first | exact HB.out | apply below_alloc | apply pw_below_drewN | apply below_drew1 | refine below_set ?_ GE253.out | refine below_set ?_ GE254.out | refine below_set ?_ GE274.out | refine below_set ?_ GE281.out) | exact HB.out))))
        have n6_ := Aside0.mk (blk_below (g := gb253) (o := .cells #[.slice A0_0 l0_0.length c0_0] 24 (0, 0)) (by (with_reducible repeat (first | refine blk_drewN ?_ _ | refine blk_drew ?_ | refine blk_alloc ?_ _)); exact BK253.out) hb)
        have n7_ := Aside0.mk (blk_below (g := gb254) (o := .cells #[.slice A1_0 l1_0.length c1_0, .slice A1_1 l1_1.length c1_1] 27 (0, 0)) (by (with_reducible repeat (first | refine blk_drewN ?_ _ | refine blk_drew ?_ | refine blk_alloc ?_ _)); exact BK254.out) hb)
        have n8_ := Aside0.mk (blk_below (g := gb274) (o := .cells #[.slice Ao44 t271.length co44] 34 (0, 0)) (by (with_reducible repeat (first | refine blk_drewN ?_ _ | refine blk_drew ?_ | refine blk_alloc ?_ _)); exact BK274.out) hb)
        have n9_ := Aside0.mk (blk_below (g := gb281) (o := .cells #[.slice Ao51 t275.length co51, .slice Ao56 t278.length co56] 36 (0, 0)) (by (with_reducible repeat (first | refine blk_drewN ?_ _ | refine blk_drew ?_ | refine blk_alloc ?_ _)); exact BK281.out) hb)
        have n10_ := Aside0.mk (below_step (by repeat (first | (with_reducible first | exact HB.out | apply below_alloc | apply pw_below_drewN | apply below_drew1 | refine below_set ?_ GE253.out | refine below_set ?_ GE254.out | refine below_set ?_ GE274.out | refine below_set ?_ GE281.out) | exact HB.out)) hb)
        clear HO_8
        clear HO_13
        clear HO_275000
        clear HO_282000
        clear HO_282001
        clear BK253
        clear BK254
        clear BK274
        clear BK281
        clear HB
        have HO_8 := n0_
        have HO_13 := n1_
        have HO_275000 := n2_
        have HO_282000 := n3_
        have HO_282001 := n4_
        have HO290 := n5_
        have BK253 := n6_
        have BK254 := n7_
        have BK274 := n8_
        have BK281 := n9_
        have HB := n10_
        clear n0_ n1_ n2_ n3_ n4_ n5_ n6_ n7_ n8_ n9_ n10_
        (try clear hb)
        (try clear hb2)
        (try clear hk)
        (try clear hi)
        (try clear ho0)
        obtain ⟨Ao80, co80, eo80⟩ := Kd.R_slice HO290.out
        (first | subst eo80 | (injection eo80 with f1_ f2_ f3_; have f4_ := f1_.symm; have f5_ := f3_.symm; clear f1_ f2_ f3_; subst f4_; subst f5_))
        refine hK.out _ _ ⟨(blk_cell BK274.out 0).trans rfl, (blk_cell BK253.out 0).trans rfl⟩ (fun hHeld => ?_)
        clear hK K
        refine norm_ (a' := ?_) ?_ ?_
        rotate_left
        ·
         show Act.put _ (some 70) _ = _
         simp only [Act.put, sA_, sB_, sC_, i64_w, i32_w]
         rfl
        refine one_ (i := 3) (N := some 71) #[true, true, true, true, false] rfl rfl (by kernel_rfl) (by decide) (fun K hK => ?_)
        refine goes_ Try.func21 (by kernel_rfl) rfl #[.agg #[.slice Ao44 t271.length co44], .agg #[.slice Ao80 t288.length co80]] (by rfl) rfl rfl (by (try simp only [List.map_toArray, List.map_cons, List.map_nil]); first | done | rfl | (simp only [List.length_drop, List.length_take]; rfl)) ?_
        with_reducible refine (laws_eqTree.calls kj25 _ _ t271 _ _ t288 true _ ?side1 ?side2 ?side3 ?side4 A70.out).mono ?_
        (case side1 => repeat (first | exact (Kd.R_reads' HO_275000.out).2.2 | (with_reducible refine Kd.C_alloc ?_ _) | (with_reducible refine Kd.C_drewN ?_ _) | (with_reducible refine Kd.C_drew ?_)))
        (case side2 => exact (Kd.R_reads' HO_275000.out).2.1)
        (case side3 => repeat (first | exact (Kd.R_reads' HO290.out).2.2 | (with_reducible refine Kd.C_alloc ?_ _) | (with_reducible refine Kd.C_drewN ?_ _) | (with_reducible refine Kd.C_drew ?_)))
        (case side4 => exact (Kd.R_reads' HO290.out).2.1)
        rintro e w81 ⟨rfl, hb⟩
        refine ⟨_, rfl, ?_⟩
        have n0_ := Aside0.mk (Kd.R_below (by (with_reducible repeat (first | apply Kd.R_alloc | apply Kd.R_drewN | apply Kd.R_drew)); exact HO_8.out) hb)
        have n1_ := Aside0.mk (Kd.R_below (by (with_reducible repeat (first | apply Kd.R_alloc | apply Kd.R_drewN | apply Kd.R_drew)); exact HO_13.out) hb)
        have n2_ := Aside0.mk (Kd.R_below (by (with_reducible repeat (first | apply Kd.R_alloc | apply Kd.R_drewN | apply Kd.R_drew)); exact HO_275000.out) hb)
        have n3_ := Aside0.mk (Kd.R_below (by (with_reducible repeat (first | apply Kd.R_alloc | apply Kd.R_drewN | apply Kd.R_drew)); exact HO_282000.out) hb)
        have n4_ := Aside0.mk (Kd.R_below (by (with_reducible repeat (first | apply Kd.R_alloc | apply Kd.R_drewN | apply Kd.R_drew)); exact HO_282001.out) hb)
        have n5_ := Aside0.mk (Kd.R_below (by (with_reducible repeat (first | apply Kd.R_alloc | apply Kd.R_drewN | apply Kd.R_drew)); exact HO290.out) hb)
        have n6_ := Aside0.mk (blk_below (g := gb253) (o := .cells #[.slice A0_0 l0_0.length c0_0] 24 (0, 0)) (by (with_reducible repeat (first | refine blk_drewN ?_ _ | refine blk_drew ?_ | refine blk_alloc ?_ _)); exact BK253.out) hb)
        have n7_ := Aside0.mk (blk_below (g := gb254) (o := .cells #[.slice A1_0 l1_0.length c1_0, .slice A1_1 l1_1.length c1_1] 27 (0, 0)) (by (with_reducible repeat (first | refine blk_drewN ?_ _ | refine blk_drew ?_ | refine blk_alloc ?_ _)); exact BK254.out) hb)
        have n8_ := Aside0.mk (blk_below (g := gb274) (o := .cells #[.slice Ao44 t271.length co44] 34 (0, 0)) (by (with_reducible repeat (first | refine blk_drewN ?_ _ | refine blk_drew ?_ | refine blk_alloc ?_ _)); exact BK274.out) hb)
        have n9_ := Aside0.mk (blk_below (g := gb281) (o := .cells #[.slice Ao51 t275.length co51, .slice Ao56 t278.length co56] 36 (0, 0)) (by (with_reducible repeat (first | refine blk_drewN ?_ _ | refine blk_drew ?_ | refine blk_alloc ?_ _)); exact BK281.out) hb)
        have n10_ := Aside0.mk (below_step (by repeat (first | (with_reducible first | exact HB.out | apply below_alloc | apply pw_below_drewN | apply below_drew1 | refine below_set ?_ GE253.out | refine below_set ?_ GE254.out | refine below_set ?_ GE274.out | refine below_set ?_ GE281.out) | exact HB.out)) hb)
        clear HO_8
        clear HO_13
        clear HO_275000
        clear HO_282000
        clear HO_282001
        clear HO290
        clear BK253
        clear BK254
        clear BK274
        clear BK281
        clear HB
        have HO_8 := n0_
        have HO_13 := n1_
        have HO_275000 := n2_
        have HO_282000 := n3_
        have HO_282001 := n4_
        have HO290 := n5_
        have BK253 := n6_
        have BK254 := n7_
        have BK274 := n8_
        have BK281 := n9_
        have HB := n10_
        clear n0_ n1_ n2_ n3_ n4_ n5_ n6_ n7_ n8_ n9_ n10_
        (try clear hb)
        (try clear hb2)
        (try clear hk)
        (try clear hi)
        refine hK.out _ _ ⟨(blk_cell BK274.out 0).trans rfl, (blk_cell BK253.out 0).trans rfl⟩ (fun hHeld => ?_)
        clear hK K
        refine norm_ (a' := ?_) ?_ ?_
        rotate_left
        ·
         show Act.put _ (some 71) _ = _
         simp only [Act.put, sA_, sB_, sC_, i64_w, i32_w]
         rfl
        refine pure_ (i := 4) (N := some 72) (v := ?_) (a' := ?_) #[true, true, true, true, true] rfl rfl (by kernel_rfl) (fun _ _ _ h => h) (Or.inl ⟨by rfl, ?_⟩) ?_ ?_
        rotate_left
        ·
         intro w'
         go_simp
         with_reducible rfl
        rotate_left
        ·
         simp only [Act.put, sA_, sB_, sC_, i64_w, i32_w]
         rfl
        refine done_ (by kernel_rfl) ?_
        try go_wp2
        have n0_ := Aside0.mk (Kd.R_drew HO_8.out)
        have n1_ := Aside0.mk (Kd.R_drew HO_13.out)
        have n2_ := Aside0.mk (Kd.R_drew HO_275000.out)
        have n3_ := Aside0.mk (Kd.R_drew HO_282000.out)
        have n4_ := Aside0.mk (Kd.R_drew HO_282001.out)
        have n5_ := Aside0.mk (Kd.R_drew HO290.out)
        have n6_ := Aside0.mk (blk_drew BK253.out)
        have n7_ := Aside0.mk (blk_drew BK254.out)
        have n8_ := Aside0.mk (blk_drew BK274.out)
        have n9_ := Aside0.mk (blk_drew BK281.out)
        have n10_ := Aside0.mk (below_drew1 HB.out)
        clear HO_8
        clear HO_13
        clear HO_275000
        clear HO_282000
        clear HO_282001
        clear HO290
        clear BK253
        clear BK254
        clear BK274
        clear BK281
        clear HB
        have HO_8 := n0_
        have HO_13 := n1_
        have HO_275000 := n2_
        have HO_282000 := n3_
        have HO_282001 := n4_
        have HO290 := n5_
        have BK253 := n6_
        have BK254 := n7_
        have BK274 := n8_
        have BK281 := n9_
        have HB := n10_
        clear n0_ n1_ n2_ n3_ n4_ n5_ n6_ n7_ n8_ n9_ n10_
        refine start_ (n := 5) (S := fun w' => w'.cell? ⟨gb281, 0, none⟩ = some (.slice Ao51 t275.length co51) ∧ w'.cell? ⟨gb281, 1, none⟩ = some (.slice Ao56 t278.length co56) ∧ w'.cell? ⟨gb254, 0, none⟩ = some (.slice A1_0 l1_0.length c1_0) ∧ w'.cell? ⟨gb254, 1, none⟩ = some (.slice A1_1 l1_1.length c1_1)) (ds := []) #[false, false, false, false, false] (by kernel_rfl) rfl rfl ⟨(blk_cell BK281.out 0).trans rfl, (blk_cell BK281.out 1).trans rfl, (blk_cell BK254.out 0).trans rfl, (blk_cell BK254.out 1).trans rfl⟩ (fun hHeld => ?_)
        generalize w81.drew = w82 at HO_8 HO_13 HO_275000 HO_282000 HO_282001 HO290 BK253 BK254 BK274 BK281 HB hHeld ⊢
        refine take_ (i := 0) (N := some 73) (v := ?_) (a' := ?_) #[true, false, false, false, false] rfl rfl (by kernel_rfl) (fun _ _ _ h => h) (Or.inl ⟨by rfl, ?_⟩) hHeld ?_ ?_
        rotate_left
        ·
         rintro w' ⟨s0, s1, s2, s3⟩
         go_simp
         with_reducible rfl
        rotate_left
        ·
         simp only [Act.put, sA_, sB_, sC_, i64_w, i32_w]
         rfl
        refine take_ (i := 1) (N := some 74) (v := ?_) (a' := ?_) #[true, true, false, false, false] rfl rfl (by kernel_rfl) (fun _ _ _ h => h) (Or.inl ⟨by rfl, ?_⟩) hHeld ?_ ?_
        rotate_left
        ·
         rintro w' ⟨s0, s1, s2, s3⟩
         go_simp
         with_reducible rfl
        rotate_left
        ·
         simp only [Act.put, sA_, sB_, sC_, i64_w, i32_w]
         rfl
        refine one_ (i := 2) (N := some 75) #[true, true, true, false, false] rfl rfl (by kernel_rfl) (by decide) (fun K hK => ?_)
        refine goes_ Try.func18 (by kernel_rfl) rfl #[.agg #[.slice A1_0 l1_0.length c1_0, .slice A1_1 l1_1.length c1_1]] (by rfl) rfl rfl (by (try simp only [List.map_toArray, List.map_cons, List.map_nil]); first | done | rfl | (simp only [List.length_drop, List.length_take]; rfl)) ?_
        with_reducible refine (laws_toStream.calls kj25 _ _ l1_0 _ _ l1_1 t292 t295 _ ?side1 ?side2 ?side3 ?side4 A72.out).mono ?_
        (case side1 => repeat (first | exact (Kd.C_below HR1_0.out HB.out) | (with_reducible refine Kd.C_alloc ?_ _) | (with_reducible refine Kd.C_drewN ?_ _) | (with_reducible refine Kd.C_drew ?_)))
        (case side2 => exact HC1_0.out)
        (case side3 => repeat (first | exact (Kd.C_below HR1_1.out HB.out) | (with_reducible refine Kd.C_alloc ?_ _) | (with_reducible refine Kd.C_drewN ?_ _) | (with_reducible refine Kd.C_drew ?_)))
        (case side4 => exact HC1_1.out)
        rintro e w83 ⟨v293, v296, rfl, ho0, ho1, hb⟩
        refine ⟨_, rfl, ?_⟩
        have n0_ := Aside0.mk (Kd.R_mono (Kd.R_told (Kd.R_told (Kd.R_old (by (with_reducible repeat (first | apply Kd.R_alloc | apply Kd.R_drewN | apply Kd.R_drew)); exact HO_8.out) hb) (Kd.R_base ho0)) (Kd.R_base ho1)) (fun _ h_ => h_.1))
        have n1_ := Aside0.mk (Kd.R_mono (Kd.R_told (Kd.R_told (Kd.R_old (by (with_reducible repeat (first | apply Kd.R_alloc | apply Kd.R_drewN | apply Kd.R_drew)); exact HO_13.out) hb) (Kd.R_base ho0)) (Kd.R_base ho1)) (fun _ h_ => h_.1))
        have n2_ := Aside0.mk (Kd.R_below (by (with_reducible repeat (first | apply Kd.R_alloc | apply Kd.R_drewN | apply Kd.R_drew)); exact HO_275000.out) hb)
        have n3_ := Aside0.mk (Kd.R_mono (Kd.R_told (Kd.R_told (Kd.R_old (by (with_reducible repeat (first | apply Kd.R_alloc | apply Kd.R_drewN | apply Kd.R_drew)); exact HO_282000.out) hb) (Kd.R_base ho0)) (Kd.R_base ho1)) (fun _ h_ => h_.1))
        have n4_ := Aside0.mk (Kd.R_mono (Kd.R_told (Kd.R_told (Kd.R_old (by (with_reducible repeat (first | apply Kd.R_alloc | apply Kd.R_drewN | apply Kd.R_drew)); exact HO_282001.out) hb) (Kd.R_base ho0)) (Kd.R_base ho1)) (fun _ h_ => h_.1))
        have n5_ := Aside0.mk (Kd.R_below (by (with_reducible repeat (first | apply Kd.R_alloc | apply Kd.R_drewN | apply Kd.R_drew)); exact HO290.out) hb)
        have n6_ := Aside0.mk (Kd.R_lower (Kd.R_new' (Kd.R_new' (Kd.R_new' (Kd.R_new' ho0 (Kd.R_lt (by (with_reducible repeat (first | apply Kd.R_alloc | apply Kd.R_drewN | apply Kd.R_drew)); exact HO_8.out))) (Kd.R_lt (by (with_reducible repeat (first | apply Kd.R_alloc | apply Kd.R_drewN | apply Kd.R_drew)); exact HO_13.out))) (Kd.R_lt (by (with_reducible repeat (first | apply Kd.R_alloc | apply Kd.R_drewN | apply Kd.R_drew)); exact HO_282000.out))) (Kd.R_lt (by (with_reducible repeat (first | apply Kd.R_alloc | apply Kd.R_drewN | apply Kd.R_drew)); exact HO_282001.out))) (below_size (by repeat (first | (with_reducible first | exact HB.out | apply below_alloc | apply pw_below_drewN | apply below_drew1 | refine below_set ?_ GE253.out | refine below_set ?_ GE254.out | refine below_set ?_ GE274.out | refine below_set ?_ GE281.out) | exact HB.out))))
        have n7_ := Aside0.mk (Kd.R_lower (Kd.R_new' (Kd.R_new' (Kd.R_new' (Kd.R_new' ho1 (Kd.R_lt (by (with_reducible repeat (first | apply Kd.R_alloc | apply Kd.R_drewN | apply Kd.R_drew)); exact HO_8.out))) (Kd.R_lt (by (with_reducible repeat (first | apply Kd.R_alloc | apply Kd.R_drewN | apply Kd.R_drew)); exact HO_13.out))) (Kd.R_lt (by (with_reducible repeat (first | apply Kd.R_alloc | apply Kd.R_drewN | apply Kd.R_drew)); exact HO_282000.out))) (Kd.R_lt (by (with_reducible repeat (first | apply Kd.R_alloc | apply Kd.R_drewN | apply Kd.R_drew)); exact HO_282001.out))) (below_size (by repeat (first | (with_reducible first | exact HB.out | apply below_alloc | apply pw_below_drewN | apply below_drew1 | refine below_set ?_ GE253.out | refine below_set ?_ GE254.out | refine below_set ?_ GE274.out | refine below_set ?_ GE281.out) | exact HB.out))))
        have n8_ := Aside0.mk (blk_below (g := gb253) (o := .cells #[.slice A0_0 l0_0.length c0_0] 24 (0, 0)) (by (with_reducible repeat (first | refine blk_drewN ?_ _ | refine blk_drew ?_ | refine blk_alloc ?_ _)); exact BK253.out) hb)
        have n9_ := Aside0.mk (blk_below (g := gb254) (o := .cells #[.slice A1_0 l1_0.length c1_0, .slice A1_1 l1_1.length c1_1] 27 (0, 0)) (by (with_reducible repeat (first | refine blk_drewN ?_ _ | refine blk_drew ?_ | refine blk_alloc ?_ _)); exact BK254.out) hb)
        have n10_ := Aside0.mk (blk_below (g := gb274) (o := .cells #[.slice Ao44 t271.length co44] 34 (0, 0)) (by (with_reducible repeat (first | refine blk_drewN ?_ _ | refine blk_drew ?_ | refine blk_alloc ?_ _)); exact BK274.out) hb)
        have n11_ := Aside0.mk (blk_below (g := gb281) (o := .cells #[.slice Ao51 t275.length co51, .slice Ao56 t278.length co56] 36 (0, 0)) (by (with_reducible repeat (first | refine blk_drewN ?_ _ | refine blk_drew ?_ | refine blk_alloc ?_ _)); exact BK281.out) hb)
        have n12_ := Aside0.mk (below_step (by repeat (first | (with_reducible first | exact HB.out | apply below_alloc | apply pw_below_drewN | apply below_drew1 | refine below_set ?_ GE253.out | refine below_set ?_ GE254.out | refine below_set ?_ GE274.out | refine below_set ?_ GE281.out) | exact HB.out)) hb)
        clear HO_8
        clear HO_13
        clear HO_275000
        clear HO_282000
        clear HO_282001
        clear HO290
        clear BK253
        clear BK254
        clear BK274
        clear BK281
        clear HB
        have HO_8 := n0_
        have HO_13 := n1_
        have HO_275000 := n2_
        have HO_282000 := n3_
        have HO_282001 := n4_
        have HO290 := n5_
        have HO294 := n6_
        have HO297 := n7_
        have BK253 := n8_
        have BK254 := n9_
        have BK274 := n10_
        have BK281 := n11_
        have HB := n12_
        clear n0_ n1_ n2_ n3_ n4_ n5_ n6_ n7_ n8_ n9_ n10_ n11_ n12_
        (try clear hb)
        (try clear hb2)
        (try clear hk)
        (try clear hi)
        (try clear ho0)
        (try clear ho1)
        obtain ⟨Ao84, co84, eo84⟩ := Kd.R_slice HO294.out
        (first | subst eo84 | (injection eo84 with f1_ f2_ f3_; have f4_ := f1_.symm; have f5_ := f3_.symm; clear f1_ f2_ f3_; subst f4_; subst f5_))
        obtain ⟨Ao85, co85, eo85⟩ := Kd.R_slice HO297.out
        (first | subst eo85 | (injection eo85 with f1_ f2_ f3_; have f4_ := f1_.symm; have f5_ := f3_.symm; clear f1_ f2_ f3_; subst f4_; subst f5_))
        refine hK.out _ _ ⟨(blk_cell BK281.out 0).trans rfl, (blk_cell BK281.out 1).trans rfl, (blk_cell BK254.out 0).trans rfl, (blk_cell BK254.out 1).trans rfl⟩ (fun hHeld => ?_)
        clear hK K
        refine norm_ (a' := ?_) ?_ ?_
        rotate_left
        ·
         show Act.put _ (some 75) _ = _
         simp only [Act.put, sA_, sB_, sC_, i64_w, i32_w]
         rfl
        refine one_ (i := 3) (N := some 76) #[true, true, true, true, false] rfl rfl (by kernel_rfl) (by decide) (fun K hK => ?_)
        refine goes_ Try.func22 (by kernel_rfl) rfl #[.agg #[.slice Ao51 t275.length co51, .slice Ao56 t278.length co56], .agg #[.slice Ao84 t292.length co84, .slice Ao85 t295.length co85]] (by rfl) rfl rfl (by (try simp only [List.map_toArray, List.map_cons, List.map_nil]); first | done | rfl | (simp only [List.length_drop, List.length_take]; rfl)) ?_
        with_reducible refine (laws_eqStream.calls kj25 _ _ t275 _ _ t278 _ _ t292 _ _ t295 true _ ?side1 ?side2 ?side3 ?side4 ?side5 ?side6 ?side7 ?side8 A73.out).mono ?_
        (case side1 => repeat (first | exact (Kd.R_reads' HO_282000.out).2.2 | (with_reducible refine Kd.C_alloc ?_ _) | (with_reducible refine Kd.C_drewN ?_ _) | (with_reducible refine Kd.C_drew ?_)))
        (case side2 => exact (Kd.R_reads' HO_282000.out).2.1)
        (case side3 => repeat (first | exact (Kd.R_reads' HO_282001.out).2.2 | (with_reducible refine Kd.C_alloc ?_ _) | (with_reducible refine Kd.C_drewN ?_ _) | (with_reducible refine Kd.C_drew ?_)))
        (case side4 => exact (Kd.R_reads' HO_282001.out).2.1)
        (case side5 => repeat (first | exact (Kd.R_reads' HO294.out).2.2 | (with_reducible refine Kd.C_alloc ?_ _) | (with_reducible refine Kd.C_drewN ?_ _) | (with_reducible refine Kd.C_drew ?_)))
        (case side6 => exact (Kd.R_reads' HO294.out).2.1)
        (case side7 => repeat (first | exact (Kd.R_reads' HO297.out).2.2 | (with_reducible refine Kd.C_alloc ?_ _) | (with_reducible refine Kd.C_drewN ?_ _) | (with_reducible refine Kd.C_drew ?_)))
        (case side8 => exact (Kd.R_reads' HO297.out).2.1)
        rintro e w86 ⟨rfl, hb⟩
        refine ⟨_, rfl, ?_⟩
        have n0_ := Aside0.mk (Kd.R_below (by (with_reducible repeat (first | apply Kd.R_alloc | apply Kd.R_drewN | apply Kd.R_drew)); exact HO_8.out) hb)
        have n1_ := Aside0.mk (Kd.R_below (by (with_reducible repeat (first | apply Kd.R_alloc | apply Kd.R_drewN | apply Kd.R_drew)); exact HO_13.out) hb)
        have n2_ := Aside0.mk (Kd.R_below (by (with_reducible repeat (first | apply Kd.R_alloc | apply Kd.R_drewN | apply Kd.R_drew)); exact HO_275000.out) hb)
        have n3_ := Aside0.mk (Kd.R_below (by (with_reducible repeat (first | apply Kd.R_alloc | apply Kd.R_drewN | apply Kd.R_drew)); exact HO_282000.out) hb)
        have n4_ := Aside0.mk (Kd.R_below (by (with_reducible repeat (first | apply Kd.R_alloc | apply Kd.R_drewN | apply Kd.R_drew)); exact HO_282001.out) hb)
        have n5_ := Aside0.mk (Kd.R_below (by (with_reducible repeat (first | apply Kd.R_alloc | apply Kd.R_drewN | apply Kd.R_drew)); exact HO290.out) hb)
        have n6_ := Aside0.mk (Kd.R_below (by (with_reducible repeat (first | apply Kd.R_alloc | apply Kd.R_drewN | apply Kd.R_drew)); exact HO294.out) hb)
        have n7_ := Aside0.mk (Kd.R_below (by (with_reducible repeat (first | apply Kd.R_alloc | apply Kd.R_drewN | apply Kd.R_drew)); exact HO297.out) hb)
        have n8_ := Aside0.mk (blk_below (g := gb253) (o := .cells #[.slice A0_0 l0_0.length c0_0] 24 (0, 0)) (by (with_reducible repeat (first | refine blk_drewN ?_ _ | refine blk_drew ?_ | refine blk_alloc ?_ _)); exact BK253.out) hb)
        have n9_ := Aside0.mk (blk_below (g := gb254) (o := .cells #[.slice A1_0 l1_0.length c1_0, .slice A1_1 l1_1.length c1_1] 27 (0, 0)) (by (with_reducible repeat (first | refine blk_drewN ?_ _ | refine blk_drew ?_ | refine blk_alloc ?_ _)); exact BK254.out) hb)
        have n10_ := Aside0.mk (blk_below (g := gb274) (o := .cells #[.slice Ao44 t271.length co44] 34 (0, 0)) (by (with_reducible repeat (first | refine blk_drewN ?_ _ | refine blk_drew ?_ | refine blk_alloc ?_ _)); exact BK274.out) hb)
        have n11_ := Aside0.mk (blk_below (g := gb281) (o := .cells #[.slice Ao51 t275.length co51, .slice Ao56 t278.length co56] 36 (0, 0)) (by (with_reducible repeat (first | refine blk_drewN ?_ _ | refine blk_drew ?_ | refine blk_alloc ?_ _)); exact BK281.out) hb)
        have n12_ := Aside0.mk (below_step (by repeat (first | (with_reducible first | exact HB.out | apply below_alloc | apply pw_below_drewN | apply below_drew1 | refine below_set ?_ GE253.out | refine below_set ?_ GE254.out | refine below_set ?_ GE274.out | refine below_set ?_ GE281.out) | exact HB.out)) hb)
        clear HO_8
        clear HO_13
        clear HO_275000
        clear HO_282000
        clear HO_282001
        clear HO290
        clear HO294
        clear HO297
        clear BK253
        clear BK254
        clear BK274
        clear BK281
        clear HB
        have HO_8 := n0_
        have HO_13 := n1_
        have HO_275000 := n2_
        have HO_282000 := n3_
        have HO_282001 := n4_
        have HO290 := n5_
        have HO294 := n6_
        have HO297 := n7_
        have BK253 := n8_
        have BK254 := n9_
        have BK274 := n10_
        have BK281 := n11_
        have HB := n12_
        clear n0_ n1_ n2_ n3_ n4_ n5_ n6_ n7_ n8_ n9_ n10_ n11_ n12_
        (try clear hb)
        (try clear hb2)
        (try clear hk)
        (try clear hi)
        refine hK.out _ _ ⟨(blk_cell BK281.out 0).trans rfl, (blk_cell BK281.out 1).trans rfl, (blk_cell BK254.out 0).trans rfl, (blk_cell BK254.out 1).trans rfl⟩ (fun hHeld => ?_)
        clear hK K
        refine norm_ (a' := ?_) ?_ ?_
        rotate_left
        ·
         show Act.put _ (some 76) _ = _
         simp only [Act.put, sA_, sB_, sC_, i64_w, i32_w]
         rfl
        refine pure_ (i := 4) (N := some 77) (v := ?_) (a' := ?_) #[true, true, true, true, true] rfl rfl (by kernel_rfl) (fun _ _ _ h => h) (Or.inl ⟨by rfl, ?_⟩) ?_ ?_
        rotate_left
        ·
         intro w'
         go_simp
         with_reducible rfl
        rotate_left
        ·
         simp only [Act.put, sA_, sB_, sC_, i64_w, i32_w]
         rfl
        refine done_ (by kernel_rfl) ?_
        have hnb87 := NB274_253.out
        have hnc87 := NB253_274.out
        have hnb88 := NB274_254.out
        have hnc88 := NB254_274.out
        have hnb89 := NB274_281.out
        have hnc89 := NB281_274.out
        have hcz90_0 : w86.cell? ⟨gb274, 0, none⟩ = some (.slice Ao44 t271.length co44) := (blk_cell BK274.out 0).trans rfl
        have hfz90_0 := blk_frozen BK274.out 0
        go_upto_region 21 with (first | ((with_reducible refine gate_callee (f := 23) rfl ?_); refine goesL_ (some 80) rfl rfl Try.func23 (by kernel_rfl) rfl #[.agg #[.slice Ao44 t271.length co44], .int .i64 1] rfl (by (try simp only [List.map_toArray, List.map_cons, List.map_nil]); first | done | rfl | (simp only [List.length_drop, List.length_take]; rfl)) ?_; (with_reducible refine (laws_markTree.calls kj25 (fun k_ => some k_ = (.slice Ao44 t271.length co44 : Value).ownBlock) (.slice Ao44 t271.length co44) t271 1 t299 t300 w _ ?side1 ?side2 A75.out).mono ?_); (case side1 => repeat (first | (with_reducible first | exact HB.out | apply below_alloc | apply pw_below_drewN | apply below_drew1 | refine below_set ?_ GE253.out | refine below_set ?_ GE254.out | refine below_set ?_ GE274.out | refine below_set ?_ GE281.out) | exact HB.out)); (case side2 => exact Kd.R_tight rfl HO_275000.out); rintro e w91 ⟨rfl, hy0, hb, hkp⟩; refine ⟨_, rfl, ?_⟩; have n0_ := Aside0.mk (Kd.R_mono (ok' := fun k_ => some k_ ≠ (v283 : Value).ownBlock ∧ some k_ ≠ (.slice Ao51 t275.length co51 : Value).ownBlock ∧ some k_ ≠ (.slice Ao56 t278.length co56 : Value).ownBlock ∧ some k_ ≠ (.slice Ao84 t292.length co84 : Value).ownBlock ∧ some k_ ≠ (.slice Ao85 t295.length co85 : Value).ownBlock) (Kd.R_keptB ((Kd.R_apart' HO_8.out (Kd.R_typed HO_275000.out) (by decide))) hkp (fun k_ hk_ hs_ => (hk_.2) hs_)) (fun k_ hk_ => ⟨hk_.1.1.1.1.1, hk_.1.1.1.1.2.1, hk_.1.1.1.1.2.2, hk_.1.1.1.2, hk_.1.1.2⟩)); have n1_ := Aside0.mk (Kd.R_mono (ok' := fun k_ => some k_ ≠ (v267 : Value).ownBlock ∧ some k_ ≠ (.slice Ao51 t275.length co51 : Value).ownBlock ∧ some k_ ≠ (.slice Ao56 t278.length co56 : Value).ownBlock ∧ some k_ ≠ (.slice Ao84 t292.length co84 : Value).ownBlock ∧ some k_ ≠ (.slice Ao85 t295.length co85 : Value).ownBlock) (Kd.R_keptB ((Kd.R_apart' HO_13.out (Kd.R_typed HO_275000.out) (by decide))) hkp (fun k_ hk_ hs_ => (hk_.2) hs_)) (fun k_ hk_ => ⟨hk_.1.1.1.1.1, hk_.1.1.1.1.2.1, hk_.1.1.1.1.2.2, hk_.1.1.1.2, hk_.1.1.2⟩)); have n2_ := Aside0.mk (Kd.R_reok rfl hy0 (fun k_ e_ => HO_275000.out.1 k_ e_)); have n3_ := Aside0.mk (Kd.R_mono (ok' := fun k_ => some k_ ≠ (v267 : Value).ownBlock ∧ some k_ ≠ (v283 : Value).ownBlock ∧ some k_ ≠ (.slice Ao56 t278.length co56 : Value).ownBlock ∧ some k_ ≠ (.slice Ao84 t292.length co84 : Value).ownBlock ∧ some k_ ≠ (.slice Ao85 t295.length co85 : Value).ownBlock) (Kd.R_keptB ((Kd.R_apart' HO_282000.out (Kd.R_typed HO_275000.out) (by decide))) hkp (fun k_ hk_ hs_ => (hk_.2) hs_)) (fun k_ hk_ => ⟨hk_.1.1.1.1.1, hk_.1.1.1.1.2.1, hk_.1.1.1.1.2.2, hk_.1.1.1.2, hk_.1.1.2⟩)); have n4_ := Aside0.mk (Kd.R_mono (ok' := fun k_ => some k_ ≠ (v267 : Value).ownBlock ∧ some k_ ≠ (v283 : Value).ownBlock ∧ some k_ ≠ (.slice Ao51 t275.length co51 : Value).ownBlock ∧ some k_ ≠ (.slice Ao84 t292.length co84 : Value).ownBlock ∧ some k_ ≠ (.slice Ao85 t295.length co85 : Value).ownBlock) (Kd.R_keptB ((Kd.R_apart' HO_282001.out (Kd.R_typed HO_275000.out) (by decide))) hkp (fun k_ hk_ hs_ => (hk_.2) hs_)) (fun k_ hk_ => ⟨hk_.1.1.1.1.1, hk_.1.1.1.1.2.1, hk_.1.1.1.1.2.2, hk_.1.1.1.2, hk_.1.1.2⟩)); have n5_ := Aside0.mk (blk_kept (by (with_reducible repeat (first | refine blk_drewN ?_ _ | refine blk_drew ?_ | refine blk_alloc ?_ _)); exact BK253.out) hkp (fun hs_ => (fun e_ => (Kd.R_ne HO_275000.out BK253.out (by decide)) e_) hs_)); have n6_ := Aside0.mk (blk_kept (by (with_reducible repeat (first | refine blk_drewN ?_ _ | refine blk_drew ?_ | refine blk_alloc ?_ _)); exact BK254.out) hkp (fun hs_ => (fun e_ => (Kd.R_ne HO_275000.out BK254.out (by decide)) e_) hs_)); have n7_ := Aside0.mk (blk_kept (by (with_reducible repeat (first | refine blk_drewN ?_ _ | refine blk_drew ?_ | refine blk_alloc ?_ _)); exact BK274.out) hkp (fun hs_ => (fun e_ => (Kd.R_ne HO_275000.out BK274.out (by decide)) e_) hs_)); have n8_ := Aside0.mk (blk_kept (by (with_reducible repeat (first | refine blk_drewN ?_ _ | refine blk_drew ?_ | refine blk_alloc ?_ _)); exact BK281.out) hkp (fun hs_ => (fun e_ => (Kd.R_ne HO_275000.out BK281.out (by decide)) e_) hs_)); have n9_ := Aside0.mk (Kd.R_mono (ok' := fun k_ => some k_ ≠ (.slice Ao44 t271.length co44 : Value).ownBlock) (Kd.R_keptB (HO290.out) hkp (fun k_ hk_ hs_ => (hk_.2) hs_)) (fun k_ hk_ => hk_.1.2)); have n10_ := Aside0.mk (Kd.R_mono (ok' := fun k_ => some k_ ≠ (v267 : Value).ownBlock ∧ some k_ ≠ (v283 : Value).ownBlock ∧ some k_ ≠ (.slice Ao51 t275.length co51 : Value).ownBlock ∧ some k_ ≠ (.slice Ao56 t278.length co56 : Value).ownBlock ∧ some k_ ≠ (.slice Ao85 t295.length co85 : Value).ownBlock) (Kd.R_keptB ((Kd.R_apart' HO294.out (Kd.R_typed HO_275000.out) (by decide))) hkp (fun k_ hk_ hs_ => (hk_.2) hs_)) (fun k_ hk_ => ⟨hk_.1.1.1.1.1.2, hk_.1.1.1.1.2, hk_.1.1.1.2, hk_.1.1.2, hk_.1.1.1.1.1.1⟩)); have n11_ := Aside0.mk (Kd.R_mono (ok' := fun k_ => some k_ ≠ (v267 : Value).ownBlock ∧ some k_ ≠ (v283 : Value).ownBlock ∧ some k_ ≠ (.slice Ao51 t275.length co51 : Value).ownBlock ∧ some k_ ≠ (.slice Ao56 t278.length co56 : Value).ownBlock ∧ some k_ ≠ (.slice Ao84 t292.length co84 : Value).ownBlock) (Kd.R_keptB ((Kd.R_apart' HO297.out (Kd.R_typed HO_275000.out) (by decide))) hkp (fun k_ hk_ hs_ => (hk_.2) hs_)) (fun k_ hk_ => ⟨hk_.1.1.1.1.1.2, hk_.1.1.1.1.2, hk_.1.1.1.2, hk_.1.1.2, hk_.1.1.1.1.1.1⟩)); have n12_ := Aside0.mk (hb); clear HO_8; clear HO_13; clear HO_275000; clear HO_282000; clear HO_282001; clear BK253; clear BK254; clear BK274; clear BK281; clear HO290; clear HO294; clear HO297; clear HB; have HO_8 := n0_; have HO_13 := n1_; have HO_275000 := n2_; have HO_282000 := n3_; have HO_282001 := n4_; have BK253 := n5_; have BK254 := n6_; have BK274 := n7_; have BK281 := n8_; have HO290 := n9_; have HO294 := n10_; have HO297 := n11_; have HB := n12_; clear n0_ n1_ n2_ n3_ n4_ n5_ n6_ n7_ n8_ n9_ n10_ n11_ n12_; (try clear hb); (try clear hkp); (try clear hy0); have hnb92 := NB281_253.out; have hnc92 := NB253_281.out; have hnb93 := NB281_254.out; have hnc93 := NB254_281.out; have hcz94_0 : w91.cell? ⟨gb281, 0, none⟩ = some (.slice Ao51 t275.length co51) := (blk_cell BK281.out 0).trans rfl; have hcz94_1 : w91.cell? ⟨gb281, 1, none⟩ = some (.slice Ao56 t278.length co56) := (blk_cell BK281.out 1).trans rfl; have hfz94_0 := blk_frozen BK281.out 0; have hfz94_1 := blk_frozen BK281.out 1) | ((with_reducible refine gate_callee (f := 24) rfl ?_); refine goesL_ (some 83) rfl rfl Try.func24 (by kernel_rfl) rfl #[.agg #[.slice Ao51 t275.length co51, .slice Ao56 t278.length co56], .int .i64 t299] rfl (by (try simp only [List.map_toArray, List.map_cons, List.map_nil]); first | done | rfl | (simp only [List.length_drop, List.length_take]; rfl)) ?_; (with_reducible refine (laws_markStream.calls kj25 (fun k_ => some k_ = (.slice Ao51 t275.length co51 : Value).ownBlock) (.slice Ao51 t275.length co51) t275 (fun k_ => some k_ = (.slice Ao56 t278.length co56 : Value).ownBlock) (.slice Ao56 t278.length co56) t278 t299 t301 t302 t303 w _ ?side1 ?side2 ?side3 ?side4 ?side5 A76.out).mono ?_); (case side1 => repeat (first | (with_reducible first | exact HB.out | apply below_alloc | apply pw_below_drewN | apply below_drew1 | refine below_set ?_ GE253.out | refine below_set ?_ GE254.out | refine below_set ?_ GE274.out | refine below_set ?_ GE281.out) | exact HB.out)); (case side2 => exact Kd.R_tight rfl HO_282000.out); (case side3 => exact fun k_ e_ => (HO_282000.out.1 k_ e_.symm).2.2.1); (case side4 => exact Kd.R_tight rfl HO_282001.out); (case side5 => exact fun k_ e_ => (HO_282001.out.1 k_ e_.symm).2.2.1); rintro e w95 ⟨rfl, hy0, hy1, hb, hkp⟩; refine ⟨_, rfl, ?_⟩; have n0_ := Aside0.mk (Kd.R_mono (ok' := fun k_ => some k_ ≠ (v283 : Value).ownBlock ∧ some k_ ≠ (.slice Ao51 t275.length co51 : Value).ownBlock ∧ some k_ ≠ (.slice Ao56 t278.length co56 : Value).ownBlock ∧ some k_ ≠ (.slice Ao84 t292.length co84 : Value).ownBlock ∧ some k_ ≠ (.slice Ao85 t295.length co85 : Value).ownBlock) (Kd.R_keptB (HO_8.out) hkp (fun k_ hk_ hs_ => Or.elim hs_ (fun e_ => (hk_.2.1) e_) (fun e_ => (hk_.2.2.1) e_))) (fun k_ hk_ => ⟨hk_.1.1, hk_.1.2.1, hk_.1.2.2.1, hk_.1.2.2.2.1, hk_.1.2.2.2.2⟩)); have n1_ := Aside0.mk (Kd.R_mono (ok' := fun k_ => some k_ ≠ (v267 : Value).ownBlock ∧ some k_ ≠ (.slice Ao51 t275.length co51 : Value).ownBlock ∧ some k_ ≠ (.slice Ao56 t278.length co56 : Value).ownBlock ∧ some k_ ≠ (.slice Ao84 t292.length co84 : Value).ownBlock ∧ some k_ ≠ (.slice Ao85 t295.length co85 : Value).ownBlock) (Kd.R_keptB (HO_13.out) hkp (fun k_ hk_ hs_ => Or.elim hs_ (fun e_ => (hk_.2.1) e_) (fun e_ => (hk_.2.2.1) e_))) (fun k_ hk_ => ⟨hk_.1.1, hk_.1.2.1, hk_.1.2.2.1, hk_.1.2.2.2.1, hk_.1.2.2.2.2⟩)); have n2_ := Aside0.mk (Kd.R_mono (ok' := fun k_ => some k_ ≠ (.slice Ao80 t288.length co80 : Value).ownBlock) (Kd.R_keptB ((Kd.R_apart' (Kd.R_apart' HO_275000.out (Kd.R_typed HO_282000.out) (by decide)) (Kd.R_typed HO_282001.out) (by decide))) hkp (fun k_ hk_ hs_ => Or.elim hs_ (fun e_ => (hk_.1.2) e_) (fun e_ => (hk_.2) e_))) (fun k_ hk_ => hk_.1.1.1.2)); have n3_ := Aside0.mk (Kd.R_reok rfl hy0 (fun k_ e_ => HO_282000.out.1 k_ e_)); have n4_ := Aside0.mk (Kd.R_reok rfl hy1 (fun k_ e_ => HO_282001.out.1 k_ e_)); have n5_ := Aside0.mk (blk_kept (by (with_reducible repeat (first | refine blk_drewN ?_ _ | refine blk_drew ?_ | refine blk_alloc ?_ _)); exact BK253.out) hkp (fun hs_ => Or.elim hs_ (fun e_ => (fun e_ => (Kd.R_ne HO_282000.out BK253.out (by decide)) e_) e_) (fun e_ => (fun e_ => (Kd.R_ne HO_282001.out BK253.out (by decide)) e_) e_))); have n6_ := Aside0.mk (blk_kept (by (with_reducible repeat (first | refine blk_drewN ?_ _ | refine blk_drew ?_ | refine blk_alloc ?_ _)); exact BK254.out) hkp (fun hs_ => Or.elim hs_ (fun e_ => (fun e_ => (Kd.R_ne HO_282000.out BK254.out (by decide)) e_) e_) (fun e_ => (fun e_ => (Kd.R_ne HO_282001.out BK254.out (by decide)) e_) e_))); have n7_ := Aside0.mk (blk_kept (by (with_reducible repeat (first | refine blk_drewN ?_ _ | refine blk_drew ?_ | refine blk_alloc ?_ _)); exact BK274.out) hkp (fun hs_ => Or.elim hs_ (fun e_ => (fun e_ => (Kd.R_ne HO_282000.out BK274.out (by decide)) e_) e_) (fun e_ => (fun e_ => (Kd.R_ne HO_282001.out BK274.out (by decide)) e_) e_))); have n8_ := Aside0.mk (blk_kept (by (with_reducible repeat (first | refine blk_drewN ?_ _ | refine blk_drew ?_ | refine blk_alloc ?_ _)); exact BK281.out) hkp (fun hs_ => Or.elim hs_ (fun e_ => (fun e_ => (Kd.R_ne HO_282000.out BK281.out (by decide)) e_) e_) (fun e_ => (fun e_ => (Kd.R_ne HO_282001.out BK281.out (by decide)) e_) e_))); have n9_ := Aside0.mk (Kd.R_mono (ok' := fun k_ => some k_ ≠ (.slice Ao44 t271.length co44 : Value).ownBlock) (Kd.R_keptB ((Kd.R_apart' (Kd.R_apart' HO290.out (Kd.R_typed HO_282000.out) (by decide)) (Kd.R_typed HO_282001.out) (by decide))) hkp (fun k_ hk_ hs_ => Or.elim hs_ (fun e_ => (hk_.1.2) e_) (fun e_ => (hk_.2) e_))) (fun k_ hk_ => hk_.1.1.1)); have n10_ := Aside0.mk (Kd.R_mono (ok' := fun k_ => some k_ ≠ (v267 : Value).ownBlock ∧ some k_ ≠ (v283 : Value).ownBlock ∧ some k_ ≠ (.slice Ao51 t275.length co51 : Value).ownBlock ∧ some k_ ≠ (.slice Ao56 t278.length co56 : Value).ownBlock ∧ some k_ ≠ (.slice Ao85 t295.length co85 : Value).ownBlock) (Kd.R_keptB (HO294.out) hkp (fun k_ hk_ hs_ => Or.elim hs_ (fun e_ => (hk_.2.2.1) e_) (fun e_ => (hk_.2.2.2.1) e_))) (fun k_ hk_ => ⟨hk_.1.1, hk_.1.2.1, hk_.1.2.2.1, hk_.1.2.2.2.1, hk_.1.2.2.2.2⟩)); have n11_ := Aside0.mk (Kd.R_mono (ok' := fun k_ => some k_ ≠ (v267 : Value).ownBlock ∧ some k_ ≠ (v283 : Value).ownBlock ∧ some k_ ≠ (.slice Ao51 t275.length co51 : Value).ownBlock ∧ some k_ ≠ (.slice Ao56 t278.length co56 : Value).ownBlock ∧ some k_ ≠ (.slice Ao84 t292.length co84 : Value).ownBlock) (Kd.R_keptB (HO297.out) hkp (fun k_ hk_ hs_ => Or.elim hs_ (fun e_ => (hk_.2.2.1) e_) (fun e_ => (hk_.2.2.2.1) e_))) (fun k_ hk_ => ⟨hk_.1.1, hk_.1.2.1, hk_.1.2.2.1, hk_.1.2.2.2.1, hk_.1.2.2.2.2⟩)); have n12_ := Aside0.mk (hb); clear HO_8; clear HO_13; clear HO_275000; clear HO_282000; clear HO_282001; clear BK253; clear BK254; clear BK274; clear BK281; clear HO290; clear HO294; clear HO297; clear HB; have HO_8 := n0_; have HO_13 := n1_; have HO_275000 := n2_; have HO_282000 := n3_; have HO_282001 := n4_; have BK253 := n5_; have BK254 := n6_; have BK274 := n7_; have BK281 := n8_; have HO290 := n9_; have HO294 := n10_; have HO297 := n11_; have HB := n12_; clear n0_ n1_ n2_ n3_ n4_ n5_ n6_ n7_ n8_ n9_ n10_ n11_ n12_; (try clear hb); (try clear hkp); (try clear hy0); (try clear hy1)))
        (try simp only [Act.put, sA_, sB_, sC_])
        go_cut [101] (fun v101 wc => ∃ (kq : Nat) (x101_76 : Bool), v101 = .bool x101_76 ∧ Aside0 (laws_FnExactRunTree.j1 kq a2 t266 t269 t270 t282 x101_76 l0_0 l1_0 l1_1 = some true) ∧ Aside0 (kq ≤ kj25) ∧ Aside0 (Kd.R (Kd.int .i8) 86 wc w.heap.size (fun k_ => some k_ ≠ (v283 : Value).ownBlock ∧ some k_ ≠ ((.slice Ao51 t275.length co51) : Value).ownBlock ∧ some k_ ≠ ((.slice Ao56 t278.length co56) : Value).ownBlock) v267 t266) ∧ Aside0 (Kd.R (Kd.int .i8) 86 wc w.heap.size (fun k_ => some k_ ≠ (v267 : Value).ownBlock ∧ some k_ ≠ ((.slice Ao51 t275.length co51) : Value).ownBlock ∧ some k_ ≠ ((.slice Ao56 t278.length co56) : Value).ownBlock) v283 t282) ∧ Aside0 (Kd.R k89 89 wc w.heap.size (fun _ => True) (.slice Ao44 t271.length co44) t300) ∧ Aside0 (Kd.R (Kd.int .i8) 86 wc w.heap.size (fun k_ => some k_ ≠ (v267 : Value).ownBlock ∧ some k_ ≠ (v283 : Value).ownBlock ∧ some k_ ≠ ((.slice Ao56 t278.length co56) : Value).ownBlock) (.slice Ao51 t275.length co51) t302) ∧ Aside0 (Kd.R (Kd.int .i8) 86 wc w.heap.size (fun k_ => some k_ ≠ (v267 : Value).ownBlock ∧ some k_ ≠ (v283 : Value).ownBlock ∧ some k_ ≠ ((.slice Ao51 t275.length co51) : Value).ownBlock) (.slice Ao56 t278.length co56) t303) ∧ Aside0 (wc.heap[gb253]? = some (.cells #[(.slice A0_0 l0_0.length c0_0)] 24 (0, 0))) ∧ Aside0 (wc.heap[gb254]? = some (.cells #[(.slice A1_0 l1_0.length c1_0), (.slice A1_1 l1_1.length c1_1)] 27 (0, 0))) ∧ Aside0 (wc.heap[gb274]? = some (.cells #[(.slice Ao44 t271.length co44)] 34 (0, 0))) ∧ Aside0 (wc.heap[gb281]? = some (.cells #[(.slice Ao51 t275.length co51), (.slice Ao56 t278.length co56)] 36 (0, 0))) ∧ Aside0 (Below w.heap.size w wc))
        case first =>
         have H := HC77.out
         clear HC77
         by_cases c96 : t301 < 0
         ·
          rw [if_pos c96] at H
          have c96b0 : decide (t301 < 0) = true := decide_eq_true c96
          clear c96
          (first | rw [c96b0] | (simp only [i64_w, i32_w]; rw [c96b0]) | skip)
          have H' := Aside0.mk H
          clear H
          go_wp2
          go_meet
          case rel => exact ⟨_, (true), (by first | rfl | (simp; done) | (simp [*]; done) | (simp [isE_]; done)), H', ⟨by have := HJ25.out; first | omega | exact Nat.le_refl _⟩, ⟨by (with_reducible repeat (first | apply Kd.R_alloc | apply Kd.R_drewN | apply Kd.R_drew)); exact Kd.R_mono HO_8.out (fun _ hk => ⟨hk.1, ⟨hk.2.1, hk.2.2.1⟩⟩)⟩, ⟨by (with_reducible repeat (first | apply Kd.R_alloc | apply Kd.R_drewN | apply Kd.R_drew)); exact Kd.R_mono HO_13.out (fun _ hk => ⟨hk.1, ⟨hk.2.1, hk.2.2.1⟩⟩)⟩, ⟨by (with_reducible repeat (first | apply Kd.R_alloc | apply Kd.R_drewN | apply Kd.R_drew)); exact Kd.R_mono HO_275000.out (fun _ hk => trivial)⟩, ⟨by (with_reducible repeat (first | apply Kd.R_alloc | apply Kd.R_drewN | apply Kd.R_drew)); exact Kd.R_mono HO_282000.out (fun _ hk => ⟨hk.1, ⟨hk.2.1, hk.2.2.1⟩⟩)⟩, ⟨by (with_reducible repeat (first | apply Kd.R_alloc | apply Kd.R_drewN | apply Kd.R_drew)); exact Kd.R_mono HO_282001.out (fun _ hk => ⟨hk.1, ⟨hk.2.1, hk.2.2.1⟩⟩)⟩, ⟨by (with_reducible repeat (first | refine blk_drewN ?_ _ | refine blk_drew ?_ | refine blk_alloc ?_ _)); exact BK253.out⟩, ⟨by (with_reducible repeat (first | refine blk_drewN ?_ _ | refine blk_drew ?_ | refine blk_alloc ?_ _)); exact BK254.out⟩, ⟨by (with_reducible repeat (first | refine blk_drewN ?_ _ | refine blk_drew ?_ | refine blk_alloc ?_ _)); exact BK274.out⟩, ⟨by (with_reducible repeat (first | refine blk_drewN ?_ _ | refine blk_drew ?_ | refine blk_alloc ?_ _)); exact BK281.out⟩, ⟨by repeat (first | (with_reducible first | exact HB.out | apply below_alloc | apply pw_below_drewN | apply below_drew1 | refine below_set ?_ GE253.out | refine below_set ?_ GE254.out | refine below_set ?_ GE274.out | refine below_set ?_ GE281.out) | exact HB.out)⟩⟩
         ·
          rw [if_neg c96] at H
          have c96b0 : decide (t301 < 0) = false := decide_eq_false c96
          clear c96
          (first | rw [c96b0] | (simp only [i64_w, i32_w]; rw [c96b0]) | skip)
          replace H := Option.bind_eq_some_iff.mp H
          obtain ⟨t304, A970, H⟩ := H
          replace H : (if t304 = true then (if t285 = t269 then (laws_FnExactRunTree.j1 kj25 a2 t266 t269 t270 t282 (t286 != t270) l0_0 l1_0 l1_1) else (laws_FnExactRunTree.j1 kj25 a2 t266 t269 t270 t282 true l0_0 l1_0 l1_1)) else (laws_FnExactRunTree.j1 kj25 a2 t266 t269 t270 t282 true l0_0 l1_0 l1_1)) = some true := H
          have A97 := Aside0.mk A970
          clear A970
          by_cases c98 : t304 = true
          ·
           subst c98
           have H1 : (if t285 = t269 then (laws_FnExactRunTree.j1 kj25 a2 t266 t269 t270 t282 (t286 != t270) l0_0 l1_0 l1_1) else (laws_FnExactRunTree.j1 kj25 a2 t266 t269 t270 t282 true l0_0 l1_0 l1_1)) = some true := by first | (rw [if_pos rfl] at H; exact H) | rfl
           clear H
           have H := H1
           clear H1
           by_cases c99 : t285 = t269
           ·
            rw [if_pos c99] at H
            have c99b0 : (t285 == t269) = true := beq_iff_eq.mpr c99
            have c99b1 : (t285 != t269) = false := bne_eq_false_iff_eq.mpr c99
            clear c99
            have H' := Aside0.mk H
            clear H
            obtain ⟨Ao100, co100, eo100⟩ := Kd.R_slice HO_13.out
            subst eo100
            obtain ⟨Ao101, co101, eo101⟩ := Kd.R_slice HO_8.out
            subst eo101
            go_wp2_with (first | (go_at_call 20; (with_reducible refine (laws_eqInt8S.calls kj25 _ _ t282 _ _ t266 true _ ?side1 ?side2 ?side3 ?side4 A97.out).mono ?_); (case side1 => repeat (first | exact (Kd.R_reads' HO_13.out).2.2 | (with_reducible refine Kd.C_alloc ?_ _) | (with_reducible refine Kd.C_drewN ?_ _) | (with_reducible refine Kd.C_drew ?_))); (case side2 => exact (Kd.R_reads' HO_13.out).2.1); (case side3 => repeat (first | exact (Kd.R_reads' HO_8.out).2.2 | (with_reducible refine Kd.C_alloc ?_ _) | (with_reducible refine Kd.C_drewN ?_ _) | (with_reducible refine Kd.C_drew ?_))); (case side4 => exact (Kd.R_reads' HO_8.out).2.1); rintro e w' ⟨rfl, ⟨nd, rfl⟩⟩))
            go_meet
            case rel => exact ⟨_, ((t286 != t270)), (by first | rfl | (simp; done) | (simp [*]; done) | (simp [isE_]; done)), H', ⟨by have := HJ25.out; first | omega | exact Nat.le_refl _⟩, ⟨by (with_reducible repeat (first | apply Kd.R_alloc | apply Kd.R_drewN | apply Kd.R_drew)); exact Kd.R_mono HO_8.out (fun _ hk => ⟨hk.1, ⟨hk.2.1, hk.2.2.1⟩⟩)⟩, ⟨by (with_reducible repeat (first | apply Kd.R_alloc | apply Kd.R_drewN | apply Kd.R_drew)); exact Kd.R_mono HO_13.out (fun _ hk => ⟨hk.1, ⟨hk.2.1, hk.2.2.1⟩⟩)⟩, ⟨by (with_reducible repeat (first | apply Kd.R_alloc | apply Kd.R_drewN | apply Kd.R_drew)); exact Kd.R_mono HO_275000.out (fun _ hk => trivial)⟩, ⟨by (with_reducible repeat (first | apply Kd.R_alloc | apply Kd.R_drewN | apply Kd.R_drew)); exact Kd.R_mono HO_282000.out (fun _ hk => ⟨hk.1, ⟨hk.2.1, hk.2.2.1⟩⟩)⟩, ⟨by (with_reducible repeat (first | apply Kd.R_alloc | apply Kd.R_drewN | apply Kd.R_drew)); exact Kd.R_mono HO_282001.out (fun _ hk => ⟨hk.1, ⟨hk.2.1, hk.2.2.1⟩⟩)⟩, ⟨by (with_reducible repeat (first | refine blk_drewN ?_ _ | refine blk_drew ?_ | refine blk_alloc ?_ _)); exact BK253.out⟩, ⟨by (with_reducible repeat (first | refine blk_drewN ?_ _ | refine blk_drew ?_ | refine blk_alloc ?_ _)); exact BK254.out⟩, ⟨by (with_reducible repeat (first | refine blk_drewN ?_ _ | refine blk_drew ?_ | refine blk_alloc ?_ _)); exact BK274.out⟩, ⟨by (with_reducible repeat (first | refine blk_drewN ?_ _ | refine blk_drew ?_ | refine blk_alloc ?_ _)); exact BK281.out⟩, ⟨by repeat (first | (with_reducible first | exact HB.out | apply below_alloc | apply pw_below_drewN | apply below_drew1 | refine below_set ?_ GE253.out | refine below_set ?_ GE254.out | refine below_set ?_ GE274.out | refine below_set ?_ GE281.out) | exact HB.out)⟩⟩
           ·
            rw [if_neg c99] at H
            have c99b0 : (t285 == t269) = false := beq_eq_false_iff_ne.mpr c99
            have c99b1 : (t285 != t269) = true := bne_iff_ne.mpr c99
            have H' := Aside0.mk H
            clear H
            obtain ⟨Ao102, co102, eo102⟩ := Kd.R_slice HO_13.out
            subst eo102
            obtain ⟨Ao103, co103, eo103⟩ := Kd.R_slice HO_8.out
            subst eo103
            go_wp2_with (first | (go_at_call 20; (with_reducible refine (laws_eqInt8S.calls kj25 _ _ t282 _ _ t266 true _ ?side1 ?side2 ?side3 ?side4 A97.out).mono ?_); (case side1 => repeat (first | exact (Kd.R_reads' HO_13.out).2.2 | (with_reducible refine Kd.C_alloc ?_ _) | (with_reducible refine Kd.C_drewN ?_ _) | (with_reducible refine Kd.C_drew ?_))); (case side2 => exact (Kd.R_reads' HO_13.out).2.1); (case side3 => repeat (first | exact (Kd.R_reads' HO_8.out).2.2 | (with_reducible refine Kd.C_alloc ?_ _) | (with_reducible refine Kd.C_drewN ?_ _) | (with_reducible refine Kd.C_drew ?_))); (case side4 => exact (Kd.R_reads' HO_8.out).2.1); rintro e w' ⟨rfl, ⟨nd, rfl⟩⟩))
            go_meet
            case rel => exact ⟨_, (true), (by first | rfl | (simp; done) | (simp [*]; done) | (simp [isE_]; done)), H', ⟨by have := HJ25.out; first | omega | exact Nat.le_refl _⟩, ⟨by (with_reducible repeat (first | apply Kd.R_alloc | apply Kd.R_drewN | apply Kd.R_drew)); exact Kd.R_mono HO_8.out (fun _ hk => ⟨hk.1, ⟨hk.2.1, hk.2.2.1⟩⟩)⟩, ⟨by (with_reducible repeat (first | apply Kd.R_alloc | apply Kd.R_drewN | apply Kd.R_drew)); exact Kd.R_mono HO_13.out (fun _ hk => ⟨hk.1, ⟨hk.2.1, hk.2.2.1⟩⟩)⟩, ⟨by (with_reducible repeat (first | apply Kd.R_alloc | apply Kd.R_drewN | apply Kd.R_drew)); exact Kd.R_mono HO_275000.out (fun _ hk => trivial)⟩, ⟨by (with_reducible repeat (first | apply Kd.R_alloc | apply Kd.R_drewN | apply Kd.R_drew)); exact Kd.R_mono HO_282000.out (fun _ hk => ⟨hk.1, ⟨hk.2.1, hk.2.2.1⟩⟩)⟩, ⟨by (with_reducible repeat (first | apply Kd.R_alloc | apply Kd.R_drewN | apply Kd.R_drew)); exact Kd.R_mono HO_282001.out (fun _ hk => ⟨hk.1, ⟨hk.2.1, hk.2.2.1⟩⟩)⟩, ⟨by (with_reducible repeat (first | refine blk_drewN ?_ _ | refine blk_drew ?_ | refine blk_alloc ?_ _)); exact BK253.out⟩, ⟨by (with_reducible repeat (first | refine blk_drewN ?_ _ | refine blk_drew ?_ | refine blk_alloc ?_ _)); exact BK254.out⟩, ⟨by (with_reducible repeat (first | refine blk_drewN ?_ _ | refine blk_drew ?_ | refine blk_alloc ?_ _)); exact BK274.out⟩, ⟨by (with_reducible repeat (first | refine blk_drewN ?_ _ | refine blk_drew ?_ | refine blk_alloc ?_ _)); exact BK281.out⟩, ⟨by repeat (first | (with_reducible first | exact HB.out | apply below_alloc | apply pw_below_drewN | apply below_drew1 | refine below_set ?_ GE253.out | refine below_set ?_ GE254.out | refine below_set ?_ GE274.out | refine below_set ?_ GE281.out) | exact HB.out)⟩⟩
          ·
           replace c98 := Bool.eq_false_iff.mpr c98
           subst c98
           have H1 : (laws_FnExactRunTree.j1 kj25 a2 t266 t269 t270 t282 true l0_0 l1_0 l1_1) = some true := by first | (rw [if_neg (show ¬ (false = true) by decide)] at H; exact H) | rfl
           clear H
           have H := H1
           clear H1
           have H' := Aside0.mk H
           clear H
           obtain ⟨Ao104, co104, eo104⟩ := Kd.R_slice HO_13.out
           subst eo104
           obtain ⟨Ao105, co105, eo105⟩ := Kd.R_slice HO_8.out
           subst eo105
           go_wp2_with (first | (go_at_call 20; (with_reducible refine (laws_eqInt8S.calls kj25 _ _ t282 _ _ t266 false _ ?side1 ?side2 ?side3 ?side4 A97.out).mono ?_); (case side1 => repeat (first | exact (Kd.R_reads' HO_13.out).2.2 | (with_reducible refine Kd.C_alloc ?_ _) | (with_reducible refine Kd.C_drewN ?_ _) | (with_reducible refine Kd.C_drew ?_))); (case side2 => exact (Kd.R_reads' HO_13.out).2.1); (case side3 => repeat (first | exact (Kd.R_reads' HO_8.out).2.2 | (with_reducible refine Kd.C_alloc ?_ _) | (with_reducible refine Kd.C_drewN ?_ _) | (with_reducible refine Kd.C_drew ?_))); (case side4 => exact (Kd.R_reads' HO_8.out).2.1); rintro e w' ⟨rfl, ⟨nd, rfl⟩⟩))
           go_meet
           case rel => exact ⟨_, (true), (by first | rfl | (simp; done) | (simp [*]; done) | (simp [isE_]; done)), H', ⟨by have := HJ25.out; first | omega | exact Nat.le_refl _⟩, ⟨by (with_reducible repeat (first | apply Kd.R_alloc | apply Kd.R_drewN | apply Kd.R_drew)); exact Kd.R_mono HO_8.out (fun _ hk => ⟨hk.1, ⟨hk.2.1, hk.2.2.1⟩⟩)⟩, ⟨by (with_reducible repeat (first | apply Kd.R_alloc | apply Kd.R_drewN | apply Kd.R_drew)); exact Kd.R_mono HO_13.out (fun _ hk => ⟨hk.1, ⟨hk.2.1, hk.2.2.1⟩⟩)⟩, ⟨by (with_reducible repeat (first | apply Kd.R_alloc | apply Kd.R_drewN | apply Kd.R_drew)); exact Kd.R_mono HO_275000.out (fun _ hk => trivial)⟩, ⟨by (with_reducible repeat (first | apply Kd.R_alloc | apply Kd.R_drewN | apply Kd.R_drew)); exact Kd.R_mono HO_282000.out (fun _ hk => ⟨hk.1, ⟨hk.2.1, hk.2.2.1⟩⟩)⟩, ⟨by (with_reducible repeat (first | apply Kd.R_alloc | apply Kd.R_drewN | apply Kd.R_drew)); exact Kd.R_mono HO_282001.out (fun _ hk => ⟨hk.1, ⟨hk.2.1, hk.2.2.1⟩⟩)⟩, ⟨by (with_reducible repeat (first | refine blk_drewN ?_ _ | refine blk_drew ?_ | refine blk_alloc ?_ _)); exact BK253.out⟩, ⟨by (with_reducible repeat (first | refine blk_drewN ?_ _ | refine blk_drew ?_ | refine blk_alloc ?_ _)); exact BK254.out⟩, ⟨by (with_reducible repeat (first | refine blk_drewN ?_ _ | refine blk_drew ?_ | refine blk_alloc ?_ _)); exact BK274.out⟩, ⟨by (with_reducible repeat (first | refine blk_drewN ?_ _ | refine blk_drew ?_ | refine blk_alloc ?_ _)); exact BK281.out⟩, ⟨by repeat (first | (with_reducible first | exact HB.out | apply below_alloc | apply pw_below_drewN | apply below_drew1 | refine below_set ?_ GE253.out | refine below_set ?_ GE254.out | refine below_set ?_ GE274.out | refine below_set ?_ GE281.out) | exact HB.out)⟩⟩
        case rest =>
         clear HC77
         try clear c1
         try clear c2
         try clear p2
         try clear c3
         try clear c4
         try clear c5
         try clear c5b0
         try clear c6
         try clear c7
         try clear c8
         try clear c9
         try clear c12
         try clear c12b0
         try clear c14
         try clear c15
         try clear c16
         try clear c17
         try clear c18
         try clear c19
         try clear c20
         try clear c21
         try clear c22
         try clear c23
         try clear c24
         try clear c29
         try clear c45
         try clear c46
         try clear c52
         try clear c53
         try clear c54
         try clear c60
         try clear c61
         try clear c61b0
         try clear c61b1
         try clear c68
         try clear c71
         try clear c74
         try clear c87
         try clear c88
         try clear c89
         try clear c92
         try clear c93
         try clear c96
         try clear c96b0
         try clear c98
         try clear c99
         try clear c99b0
         try clear c99b1
         try clear hcz16_0
         try clear hcz18_0
         try clear hcz18_1
         try clear hcz30_0
         try clear hcz32_0
         try clear hcz32_1
         try clear hcz41_0
         try clear hcz47_0
         try clear hcz48_0
         try clear hcz48_1
         try clear hcz55_0
         try clear hcz55_1
         try clear hcz57_0
         try clear hcz90_0
         try clear hcz94_0
         try clear hcz94_1
         try clear hcz9_0
         try clear hfz16_0
         try clear hfz18_0
         try clear hfz18_1
         try clear hfz30_0
         try clear hfz32_0
         try clear hfz32_1
         try clear hfz41_0
         try clear hfz47_0
         try clear hfz48_0
         try clear hfz48_1
         try clear hfz55_0
         try clear hfz55_1
         try clear hfz57_0
         try clear hfz90_0
         try clear hfz94_0
         try clear hfz94_1
         try clear hfz9_0
         try clear p2
         obtain ⟨kq, x101_76, rfl, HA, HJ76, HO_8, HO_13, HO_275000, HO_282000, HO_282001, BK253, BK254, BK274, BK281, HB⟩ := hcut
         have hl275000_76 := (Kd.R_reads' HO_275000.out).1
         rw [hl275000_76] at HO_275000
         (try simp only [hl275000_76])
         (try simp only [hl275000_76] at BK253)
         (try simp only [hl275000_76] at BK254)
         (try simp only [hl275000_76] at BK274)
         (try simp only [hl275000_76] at BK281)
         (try simp only [hl275000_76] at HO_8)
         (try simp only [hl275000_76] at HO_13)
         (try simp only [hl275000_76] at HO_282000)
         (try simp only [hl275000_76] at HO_282001)
         have hl282000_76 := (Kd.R_reads' HO_282000.out).1
         rw [hl282000_76] at HO_282000
         (try simp only [hl282000_76])
         (try simp only [hl282000_76] at BK253)
         (try simp only [hl282000_76] at BK254)
         (try simp only [hl282000_76] at BK274)
         (try simp only [hl282000_76] at BK281)
         (try simp only [hl282000_76] at HO_8)
         (try simp only [hl282000_76] at HO_13)
         (try simp only [hl282000_76] at HO_275000)
         (try simp only [hl282000_76] at HO_282001)
         have hl282001_76 := (Kd.R_reads' HO_282001.out).1
         rw [hl282001_76] at HO_282001
         (try simp only [hl282001_76])
         (try simp only [hl282001_76] at BK253)
         (try simp only [hl282001_76] at BK254)
         (try simp only [hl282001_76] at BK274)
         (try simp only [hl282001_76] at BK281)
         (try simp only [hl282001_76] at HO_8)
         (try simp only [hl282001_76] at HO_13)
         (try simp only [hl282001_76] at HO_275000)
         (try simp only [hl282001_76] at HO_282000)
         cases kq with
         | zero => exact absurd HA.out (by simp [laws_FnExactRunTree.j1])
         | succ kj76 =>
          have H := HA.out
          clear HA
          simp only [laws_FnExactRunTree.j1] at H
          by_cases c106 : x101_76 = true
          ·
           subst c106
           have H1 : (some false) = some true := by first | (rw [if_pos rfl] at H; exact H) | rfl
           clear H
           have H := H1
           clear H1
           exact absurd H (by decide)
          ·
           replace c106 := Bool.eq_false_iff.mpr c106
           subst c106
           have H1 : ((laws_markInt8S.f kj76 t282 1).bind fun bt305 => ((laws_heldInt8S.f kj76 bt305.2 1).bind fun t307 => (if t307 < 0 then (some false) else (if t307 = bt305.1 then ((laws_toTree.f kj76 l0_0).bind fun t308 => ((laws_toStream.f kj76 l1_0 l1_1).bind fun bt311 => ((impl_RunTree.f kj76 t308 bt311.1 bt311.2 a2).bind fun bt317 => ((laws_eqInt8S.f kj76 bt317.1 t266).bind fun t322 => (if t322 = true then (if bt317.2.1 = t269 then (laws_FnExactRunTree.j2 kj76 bt305.2 bt305.1 (bt317.2.2 != t270)) else (laws_FnExactRunTree.j2 kj76 bt305.2 bt305.1 true)) else (laws_FnExactRunTree.j2 kj76 bt305.2 bt305.1 true)))))) else (some false))))) = some true := by first | (rw [if_neg (show ¬ (false = true) by decide)] at H; exact H) | rfl
           clear H
           have H := H1
           clear H1
           replace H := Option.bind_eq_some_iff.mp H
           obtain ⟨⟨t305, t306⟩, A1070, H⟩ := H
           replace H : ((laws_heldInt8S.f kj76 t306 1).bind fun t307 => (if t307 < 0 then (some false) else (if t307 = t305 then ((laws_toTree.f kj76 l0_0).bind fun t308 => ((laws_toStream.f kj76 l1_0 l1_1).bind fun bt311 => ((impl_RunTree.f kj76 t308 bt311.1 bt311.2 a2).bind fun bt317 => ((laws_eqInt8S.f kj76 bt317.1 t266).bind fun t322 => (if t322 = true then (if bt317.2.1 = t269 then (laws_FnExactRunTree.j2 kj76 t306 t305 (bt317.2.2 != t270)) else (laws_FnExactRunTree.j2 kj76 t306 t305 true)) else (laws_FnExactRunTree.j2 kj76 t306 t305 true)))))) else (some false)))) = some true := H
           have A107 := Aside0.mk A1070
           clear A1070
           replace H := Option.bind_eq_some_iff.mp H
           obtain ⟨t307, A1080, H⟩ := H
           replace H : (if t307 < 0 then (some false) else (if t307 = t305 then ((laws_toTree.f kj76 l0_0).bind fun t308 => ((laws_toStream.f kj76 l1_0 l1_1).bind fun bt311 => ((impl_RunTree.f kj76 t308 bt311.1 bt311.2 a2).bind fun bt317 => ((laws_eqInt8S.f kj76 bt317.1 t266).bind fun t322 => (if t322 = true then (if bt317.2.1 = t269 then (laws_FnExactRunTree.j2 kj76 t306 t305 (bt317.2.2 != t270)) else (laws_FnExactRunTree.j2 kj76 t306 t305 true)) else (laws_FnExactRunTree.j2 kj76 t306 t305 true)))))) else (some false))) = some true := H
           have A108 := Aside0.mk A1080
           clear A1080
           by_cases c109 : t307 < 0
           ·
            rw [if_pos c109] at H
            have c109b0 : decide (t307 < 0) = true := decide_eq_true c109
            clear c109
            exact absurd H (by decide)
           ·
            rw [if_neg c109] at H
            have c109b0 : decide (t307 < 0) = false := decide_eq_false c109
            clear c109
            by_cases c110 : t307 = t305
            ·
             rw [if_pos c110] at H
             have c110b0 : (t307 == t305) = true := beq_iff_eq.mpr c110
             have c110b1 : (t307 != t305) = false := bne_eq_false_iff_eq.mpr c110
             clear c110
             replace H := Option.bind_eq_some_iff.mp H
             obtain ⟨t308, A1110, H⟩ := H
             replace H : ((laws_toStream.f kj76 l1_0 l1_1).bind fun bt311 => ((impl_RunTree.f kj76 t308 bt311.1 bt311.2 a2).bind fun bt317 => ((laws_eqInt8S.f kj76 bt317.1 t266).bind fun t322 => (if t322 = true then (if bt317.2.1 = t269 then (laws_FnExactRunTree.j2 kj76 t306 t305 (bt317.2.2 != t270)) else (laws_FnExactRunTree.j2 kj76 t306 t305 true)) else (laws_FnExactRunTree.j2 kj76 t306 t305 true))))) = some true := H
             have A111 := Aside0.mk A1110
             clear A1110
             replace H := Option.bind_eq_some_iff.mp H
             obtain ⟨⟨t311, t314⟩, A1120, H⟩ := H
             replace H : ((impl_RunTree.f kj76 t308 t311 t314 a2).bind fun bt317 => ((laws_eqInt8S.f kj76 bt317.1 t266).bind fun t322 => (if t322 = true then (if bt317.2.1 = t269 then (laws_FnExactRunTree.j2 kj76 t306 t305 (bt317.2.2 != t270)) else (laws_FnExactRunTree.j2 kj76 t306 t305 true)) else (laws_FnExactRunTree.j2 kj76 t306 t305 true)))) = some true := H
             have A112 := Aside0.mk A1120
             clear A1120
             replace H := Option.bind_eq_some_iff.mp H
             obtain ⟨⟨t317, t320, t321⟩, A1130, H⟩ := H
             replace H : ((laws_eqInt8S.f kj76 t317 t266).bind fun t322 => (if t322 = true then (if t320 = t269 then (laws_FnExactRunTree.j2 kj76 t306 t305 (t321 != t270)) else (laws_FnExactRunTree.j2 kj76 t306 t305 true)) else (laws_FnExactRunTree.j2 kj76 t306 t305 true))) = some true := H
             have A113 := Aside0.mk A1130
             clear A1130
             have HC114 := Aside0.mk H
             clear H
             obtain ⟨Ao115, co115, eo115⟩ := Kd.R_slice HO_13.out
             subst eo115
             try go_wp2_with (first | ((with_reducible refine gate_callee (f := 25) rfl ?_); refine goesL_ (some 104) rfl rfl Try.func25 (by kernel_rfl) rfl #[.slice Ao115 t282.length co115, .int .i64 1] rfl (by (try simp only [List.map_toArray, List.map_cons, List.map_nil]); first | done | rfl | (simp only [List.length_drop, List.length_take]; rfl)) ?_; (with_reducible refine (laws_markInt8S.calls kj76 (fun k_ => some k_ = (.slice Ao115 t282.length co115 : Value).ownBlock) (.slice Ao115 t282.length co115) t282 1 t305 t306 w _ ?side1 ?side2 A107.out).mono ?_); (case side1 => repeat (first | (with_reducible first | exact HB.out | apply below_alloc | apply pw_below_drewN | apply below_drew1 | refine below_set ?_ GE253.out | refine below_set ?_ GE254.out | refine below_set ?_ GE274.out | refine below_set ?_ GE281.out) | exact HB.out)); (case side2 => exact Kd.R_tight rfl HO_13.out); rintro e w116 ⟨rfl, hy0, hb, hkp⟩; refine ⟨_, rfl, ?_⟩; have n0_ := Aside0.mk (Kd.R_mono (ok' := fun k_ => some k_ ≠ (.slice Ao115 t282.length co115 : Value).ownBlock ∧ some k_ ≠ (.slice Ao51 t302.length co51 : Value).ownBlock ∧ some k_ ≠ (.slice Ao56 t303.length co56 : Value).ownBlock) (Kd.R_keptB (HO_8.out) hkp (fun k_ hk_ hs_ => (hk_.1) hs_)) (fun k_ hk_ => ⟨hk_.1.1, hk_.1.2.1, hk_.1.2.2⟩)); have n1_ := Aside0.mk (Kd.R_reok rfl hy0 (fun k_ e_ => HO_13.out.1 k_ e_)); have n2_ := Aside0.mk (Kd.R_mono (ok' := fun k_ => True) (Kd.R_keptB ((Kd.R_apart' HO_275000.out (Kd.R_typed HO_13.out) (by decide))) hkp (fun k_ hk_ hs_ => (hk_.2) hs_)) (fun k_ hk_ => trivial)); have n3_ := Aside0.mk (Kd.R_mono (ok' := fun k_ => some k_ ≠ (v267 : Value).ownBlock ∧ some k_ ≠ (.slice Ao115 t282.length co115 : Value).ownBlock ∧ some k_ ≠ (.slice Ao56 t303.length co56 : Value).ownBlock) (Kd.R_keptB (HO_282000.out) hkp (fun k_ hk_ hs_ => (hk_.2.1) hs_)) (fun k_ hk_ => ⟨hk_.1.1, hk_.1.2.1, hk_.1.2.2⟩)); have n4_ := Aside0.mk (Kd.R_mono (ok' := fun k_ => some k_ ≠ (v267 : Value).ownBlock ∧ some k_ ≠ (.slice Ao115 t282.length co115 : Value).ownBlock ∧ some k_ ≠ (.slice Ao51 t302.length co51 : Value).ownBlock) (Kd.R_keptB (HO_282001.out) hkp (fun k_ hk_ hs_ => (hk_.2.1) hs_)) (fun k_ hk_ => ⟨hk_.1.1, hk_.1.2.1, hk_.1.2.2⟩)); have n5_ := Aside0.mk (blk_kept (by (with_reducible repeat (first | refine blk_drewN ?_ _ | refine blk_drew ?_ | refine blk_alloc ?_ _)); exact BK253.out) hkp (fun hs_ => (fun e_ => (Kd.R_ne HO_13.out BK253.out (by decide)) e_) hs_)); have n6_ := Aside0.mk (blk_kept (by (with_reducible repeat (first | refine blk_drewN ?_ _ | refine blk_drew ?_ | refine blk_alloc ?_ _)); exact BK254.out) hkp (fun hs_ => (fun e_ => (Kd.R_ne HO_13.out BK254.out (by decide)) e_) hs_)); have n7_ := Aside0.mk (blk_kept (by (with_reducible repeat (first | refine blk_drewN ?_ _ | refine blk_drew ?_ | refine blk_alloc ?_ _)); exact BK274.out) hkp (fun hs_ => (fun e_ => (Kd.R_ne HO_13.out BK274.out (by decide)) e_) hs_)); have n8_ := Aside0.mk (blk_kept (by (with_reducible repeat (first | refine blk_drewN ?_ _ | refine blk_drew ?_ | refine blk_alloc ?_ _)); exact BK281.out) hkp (fun hs_ => (fun e_ => (Kd.R_ne HO_13.out BK281.out (by decide)) e_) hs_)); have n9_ := Aside0.mk (hb); clear HO_8; clear HO_13; clear HO_275000; clear HO_282000; clear HO_282001; clear BK253; clear BK254; clear BK274; clear BK281; clear HB; have HO_8 := n0_; have HO_13 := n1_; have HO_275000 := n2_; have HO_282000 := n3_; have HO_282001 := n4_; have BK253 := n5_; have BK254 := n6_; have BK274 := n7_; have BK281 := n8_; have HB := n9_; clear n0_ n1_ n2_ n3_ n4_ n5_ n6_ n7_ n8_ n9_; (try clear hb); (try clear hkp); (try clear hy0)) | ((with_reducible refine gate_callee (f := 26) rfl ?_); refine goesL_ (some 107) rfl rfl Try.func26 (by kernel_rfl) rfl #[.slice Ao115 t306.length co115, .int .i64 1] rfl (by (try simp only [List.map_toArray, List.map_cons, List.map_nil]); first | done | (rw [show t306.length = t282.length from (Kd.R_reads' HO_13.out).1.symm] <;> rfl) | rfl | (simp only [List.length_drop, List.length_take]; rfl)) ?_; (with_reducible refine (laws_heldInt8S.calls kj76 _ _ t306 1 t307 _ ?side1 ?side2 A108.out).mono ?_); (case side1 => repeat (first | exact (Kd.R_reads' HO_13.out).2.2 | (with_reducible refine Kd.C_alloc ?_ _) | (with_reducible refine Kd.C_drewN ?_ _) | (with_reducible refine Kd.C_drew ?_))); (case side2 => rw [show t306.length = t282.length from (Kd.R_reads' HO_13.out).1.symm]; exact (Kd.R_reads' HO_13.out).2.1); rintro e w' ⟨rfl, ⟨nd, rfl⟩⟩; refine ⟨_, rfl, ?_⟩))
             (try (rw [drewN_self w116]; generalize hq_ : World.drewN w116 _ = w116; have n0_ : Aside0 (Kd.R (Kd.int .i8) 86 w116 w.heap.size (fun k_ => (some k_ ≠ (v267 : Value).ownBlock ∧ (some k_ ≠ (.slice Ao51 t302.length co51 : Value).ownBlock ∧ some k_ ≠ (.slice Ao56 t303.length co56 : Value).ownBlock))) (.slice Ao115 t282.length co115) t306) := ⟨by rw [← hq_]; exact (by (with_reducible repeat (first | apply Kd.R_alloc | apply Kd.R_drewN | apply Kd.R_drew)); exact HO_13.out)⟩; have n1_ : Aside0 (Kd.R k89 89 w116 w.heap.size (fun _ => True) (.slice Ao44 t300.length co44) t300) := ⟨by rw [← hq_]; exact (by (with_reducible repeat (first | apply Kd.R_alloc | apply Kd.R_drewN | apply Kd.R_drew)); exact HO_275000.out)⟩; have n2_ : Aside0 (Kd.R (Kd.int .i8) 86 w116 w.heap.size (fun k_ => (some k_ ≠ (v267 : Value).ownBlock ∧ (some k_ ≠ (.slice Ao115 t282.length co115 : Value).ownBlock ∧ some k_ ≠ (.slice Ao56 t303.length co56 : Value).ownBlock))) (.slice Ao51 t302.length co51) t302) := ⟨by rw [← hq_]; exact (by (with_reducible repeat (first | apply Kd.R_alloc | apply Kd.R_drewN | apply Kd.R_drew)); exact HO_282000.out)⟩; have n3_ : Aside0 (Kd.R (Kd.int .i8) 86 w116 w.heap.size (fun k_ => (some k_ ≠ (v267 : Value).ownBlock ∧ (some k_ ≠ (.slice Ao115 t282.length co115 : Value).ownBlock ∧ some k_ ≠ (.slice Ao51 t302.length co51 : Value).ownBlock))) (.slice Ao56 t303.length co56) t303) := ⟨by rw [← hq_]; exact (by (with_reducible repeat (first | apply Kd.R_alloc | apply Kd.R_drewN | apply Kd.R_drew)); exact HO_282001.out)⟩; have n4_ : Aside0 (Kd.R (Kd.int .i8) 86 w116 w.heap.size (fun k_ => (some k_ ≠ (.slice Ao115 t282.length co115 : Value).ownBlock ∧ (some k_ ≠ (.slice Ao51 t302.length co51 : Value).ownBlock ∧ some k_ ≠ (.slice Ao56 t303.length co56 : Value).ownBlock))) v267 t266) := ⟨by rw [← hq_]; exact (by (with_reducible repeat (first | apply Kd.R_alloc | apply Kd.R_drewN | apply Kd.R_drew)); exact HO_8.out)⟩; have n5_ : Aside0 (w116.heap[gb253]? = some (.cells #[.slice A0_0 l0_0.length c0_0] 24 (0, 0))) := ⟨by rw [← hq_]; exact (by (with_reducible repeat (first | refine blk_drewN ?_ _ | refine blk_drew ?_ | refine blk_alloc ?_ _)); exact BK253.out)⟩; have n6_ : Aside0 (w116.heap[gb254]? = some (.cells #[.slice A1_0 l1_0.length c1_0, .slice A1_1 l1_1.length c1_1] 27 (0, 0))) := ⟨by rw [← hq_]; exact (by (with_reducible repeat (first | refine blk_drewN ?_ _ | refine blk_drew ?_ | refine blk_alloc ?_ _)); exact BK254.out)⟩; have n7_ : Aside0 (w116.heap[gb274]? = some (.cells #[.slice Ao44 t300.length co44] 34 (0, 0))) := ⟨by rw [← hq_]; exact (by (with_reducible repeat (first | refine blk_drewN ?_ _ | refine blk_drew ?_ | refine blk_alloc ?_ _)); exact BK274.out)⟩; have n8_ : Aside0 (w116.heap[gb281]? = some (.cells #[.slice Ao51 t302.length co51, .slice Ao56 t303.length co56] 36 (0, 0))) := ⟨by rw [← hq_]; exact (by (with_reducible repeat (first | refine blk_drewN ?_ _ | refine blk_drew ?_ | refine blk_alloc ?_ _)); exact BK281.out)⟩; have n9_ : Aside0 (Below w.heap.size w w116) := ⟨by rw [← hq_]; exact (by repeat (first | (with_reducible first | exact HB.out | apply below_alloc | apply pw_below_drewN | apply below_drew1 | refine below_set ?_ GE253.out | refine below_set ?_ GE254.out | refine below_set ?_ GE274.out | refine below_set ?_ GE281.out) | exact HB.out))⟩; clear HO_13 HO_275000 HO_282000 HO_282001 HO_8 BK253 BK254 BK274 BK281 HB hq_; have HO_13 := n0_; have HO_275000 := n1_; have HO_282000 := n2_; have HO_282001 := n3_; have HO_8 := n4_; have BK253 := n5_; have BK254 := n6_; have BK274 := n7_; have BK281 := n8_; have HB := n9_; clear n0_ n1_ n2_ n3_ n4_ n5_ n6_ n7_ n8_ n9_))
             have n0_ := Aside0.mk (Kd.R_drew HO_8.out)
             have n1_ := Aside0.mk (Kd.R_drew HO_13.out)
             have n2_ := Aside0.mk (Kd.R_drew HO_275000.out)
             have n3_ := Aside0.mk (Kd.R_drew HO_282000.out)
             have n4_ := Aside0.mk (Kd.R_drew HO_282001.out)
             have n5_ := Aside0.mk (blk_drew BK253.out)
             have n6_ := Aside0.mk (blk_drew BK254.out)
             have n7_ := Aside0.mk (blk_drew BK274.out)
             have n8_ := Aside0.mk (blk_drew BK281.out)
             have n9_ := Aside0.mk (below_drew1 HB.out)
             clear HO_8
             clear HO_13
             clear HO_275000
             clear HO_282000
             clear HO_282001
             clear BK253
             clear BK254
             clear BK274
             clear BK281
             clear HB
             have HO_8 := n0_
             have HO_13 := n1_
             have HO_275000 := n2_
             have HO_282000 := n3_
             have HO_282001 := n4_
             have BK253 := n5_
             have BK254 := n6_
             have BK274 := n7_
             have BK281 := n8_
             have HB := n9_
             clear n0_ n1_ n2_ n3_ n4_ n5_ n6_ n7_ n8_ n9_
             refine start_ (n := 13) (S := fun w' => w'.cell? ⟨gb253, 0, none⟩ = some (.slice A0_0 l0_0.length c0_0) ∧ w'.cell? ⟨gb254, 0, none⟩ = some (.slice A1_0 l1_0.length c1_0) ∧ w'.cell? ⟨gb254, 1, none⟩ = some (.slice A1_1 l1_1.length c1_1)) (ds := []) #[false, false, false, false, false, false, false, false, false, false, false, false, false] (by kernel_rfl) rfl rfl ⟨(blk_cell BK253.out 0).trans rfl, (blk_cell BK254.out 0).trans rfl, (blk_cell BK254.out 1).trans rfl⟩ (fun hHeld => ?_); refine with_tabW laws_FnExactRunTree.tab31 laws_FnExactRunTree.bits31 (fun HT_ HW_ => ?_)
             generalize w116.drew = w117 at HO_8 HO_13 HO_275000 HO_282000 HO_282001 BK253 BK254 BK274 BK281 HB hHeld ⊢
             refine pure_ (i := 4) (N := some 118) (v := ?_) (a' := ?_) #[false, false, false, false, true, false, false, false, false, false, false, false, false] rfl rfl (any_of HT_.out (by kernel_rfl)) (fun _ _ _ h => h) (Or.inl ⟨by rfl, ?_⟩) ?_ ?_
             rotate_left
             ·
              intro w'
              go_simp
              with_reducible rfl
             rotate_left
             ·
              simp only [Act.put, sA_, sB_, sC_, i64_w, i32_w]
              rfl
             refine take_ (i := 0) (N := some 114) (v := ?_) (a' := ?_) #[true, false, false, false, true, false, false, false, false, false, false, false, false] rfl rfl (take_ofW HT_.out HW_.out (by kernel_rfl)) (fun _ _ _ h => h) (Or.inl ⟨by rfl, ?_⟩) hHeld ?_ ?_
             rotate_left
             ·
              rintro w' ⟨s0, s1, s2⟩
              go_simp
              with_reducible rfl
             rotate_left
             ·
              simp only [Act.put, sA_, sB_, sC_, i64_w, i32_w]
              rfl
             refine take_ (i := 2) (N := some 116) (v := ?_) (a' := ?_) #[true, false, true, false, true, false, false, false, false, false, false, false, false] rfl rfl (take_ofW HT_.out HW_.out (by kernel_rfl)) (fun _ _ _ h => h) (Or.inl ⟨by rfl, ?_⟩) hHeld ?_ ?_
             rotate_left
             ·
              rintro w' ⟨s0, s1, s2⟩
              go_simp
              with_reducible rfl
             rotate_left
             ·
              simp only [Act.put, sA_, sB_, sC_, i64_w, i32_w]
              rfl
             refine one_ (i := 1) (N := some 115) #[true, true, true, false, true, false, false, false, false, false, false, false, false] rfl rfl (one_of HT_.out (by kernel_rfl)) (by decide) (fun K hK => ?_)
             refine goes_ Try.func17 (by kernel_rfl) rfl #[.agg #[.slice A0_0 l0_0.length c0_0]] (by rfl) rfl rfl (by (try simp only [List.map_toArray, List.map_cons, List.map_nil]); first | done | rfl | (simp only [List.length_drop, List.length_take]; rfl)) ?_
             with_reducible refine (laws_toTree.calls kj76 _ _ l0_0 t308 _ ?side1 ?side2 A111.out).mono ?_
             (case side1 => repeat (first | exact (Kd.C_below HR0_0.out HB.out) | (with_reducible refine Kd.C_alloc ?_ _) | (with_reducible refine Kd.C_drewN ?_ _) | (with_reducible refine Kd.C_drew ?_)))
             (case side2 => exact HC0_0.out)
             rintro e w118 ⟨v309, rfl, ho0, hb⟩
             refine ⟨_, rfl, ?_⟩
             have n0_ := Aside0.mk (Kd.R_below (by (with_reducible repeat (first | apply Kd.R_alloc | apply Kd.R_drewN | apply Kd.R_drew)); exact HO_8.out) hb)
             have n1_ := Aside0.mk (Kd.R_below (by (with_reducible repeat (first | apply Kd.R_alloc | apply Kd.R_drewN | apply Kd.R_drew)); exact HO_13.out) hb)
             have n2_ := Aside0.mk (Kd.R_elder' (by (with_reducible repeat (first | apply Kd.R_alloc | apply Kd.R_drewN | apply Kd.R_drew)); exact HO_275000.out) (Kd.R_base ho0) hb)
             have n3_ := Aside0.mk (Kd.R_below (by (with_reducible repeat (first | apply Kd.R_alloc | apply Kd.R_drewN | apply Kd.R_drew)); exact HO_282000.out) hb)
             have n4_ := Aside0.mk (Kd.R_below (by (with_reducible repeat (first | apply Kd.R_alloc | apply Kd.R_drewN | apply Kd.R_drew)); exact HO_282001.out) hb)
             have n5_ := Aside0.mk (Kd.R_lower (Kd.R_new' ho0 (Kd.R_lt (by (with_reducible repeat (first | apply Kd.R_alloc | apply Kd.R_drewN | apply Kd.R_drew)); exact HO_275000.out))) (below_size (by repeat (first | (with_reducible first | exact HB.out | apply below_alloc | apply pw_below_drewN | apply below_drew1 | refine below_set ?_ GE253.out | refine below_set ?_ GE254.out | refine below_set ?_ GE274.out | refine below_set ?_ GE281.out) | exact HB.out))))
             have n6_ := Aside0.mk (blk_below (g := gb253) (o := .cells #[.slice A0_0 l0_0.length c0_0] 24 (0, 0)) (by (with_reducible repeat (first | refine blk_drewN ?_ _ | refine blk_drew ?_ | refine blk_alloc ?_ _)); exact BK253.out) hb)
             have n7_ := Aside0.mk (blk_below (g := gb254) (o := .cells #[.slice A1_0 l1_0.length c1_0, .slice A1_1 l1_1.length c1_1] 27 (0, 0)) (by (with_reducible repeat (first | refine blk_drewN ?_ _ | refine blk_drew ?_ | refine blk_alloc ?_ _)); exact BK254.out) hb)
             have n8_ := Aside0.mk (blk_below (g := gb274) (o := .cells #[.slice Ao44 t300.length co44] 34 (0, 0)) (by (with_reducible repeat (first | refine blk_drewN ?_ _ | refine blk_drew ?_ | refine blk_alloc ?_ _)); exact BK274.out) hb)
             have n9_ := Aside0.mk (blk_below (g := gb281) (o := .cells #[.slice Ao51 t302.length co51, .slice Ao56 t303.length co56] 36 (0, 0)) (by (with_reducible repeat (first | refine blk_drewN ?_ _ | refine blk_drew ?_ | refine blk_alloc ?_ _)); exact BK281.out) hb)
             have n10_ := Aside0.mk (below_step (by repeat (first | (with_reducible first | exact HB.out | apply below_alloc | apply pw_below_drewN | apply below_drew1 | refine below_set ?_ GE253.out | refine below_set ?_ GE254.out | refine below_set ?_ GE274.out | refine below_set ?_ GE281.out) | exact HB.out)) hb)
             clear HO_8
             clear HO_13
             clear HO_275000
             clear HO_282000
             clear HO_282001
             clear BK253
             clear BK254
             clear BK274
             clear BK281
             clear HB
             have HO_8 := n0_
             have HO_13 := n1_
             have HO_275000 := n2_
             have HO_282000 := n3_
             have HO_282001 := n4_
             have HO310 := n5_
             have BK253 := n6_
             have BK254 := n7_
             have BK274 := n8_
             have BK281 := n9_
             have HB := n10_
             clear n0_ n1_ n2_ n3_ n4_ n5_ n6_ n7_ n8_ n9_ n10_
             (try clear hb)
             (try clear hb2)
             (try clear hk)
             (try clear hi)
             (try clear ho0)
             refine hK.out _ _ ⟨(blk_cell BK253.out 0).trans rfl, (blk_cell BK254.out 0).trans rfl, (blk_cell BK254.out 1).trans rfl⟩ (fun hHeld => ?_)
             clear hK K
             refine norm_ (a' := ?_) ?_ ?_
             rotate_left
             ·
              show Act.put _ (some 115) _ = _
              simp only [Act.put, sA_, sB_, sC_, i64_w, i32_w]
              rfl
             refine one_ (i := 3) (N := some 117) #[true, true, true, true, true, false, false, false, false, false, false, false, false] rfl rfl (one_of HT_.out (by kernel_rfl)) (by decide) (fun K hK => ?_)
             refine goes_ Try.func18 (by kernel_rfl) rfl #[.agg #[.slice A1_0 l1_0.length c1_0, .slice A1_1 l1_1.length c1_1]] (by rfl) rfl rfl (by (try simp only [List.map_toArray, List.map_cons, List.map_nil]); first | done | rfl | (simp only [List.length_drop, List.length_take]; rfl)) ?_
             with_reducible refine (laws_toStream.calls kj76 _ _ l1_0 _ _ l1_1 t311 t314 _ ?side1 ?side2 ?side3 ?side4 A112.out).mono ?_
             (case side1 => repeat (first | exact (Kd.C_below HR1_0.out HB.out) | (with_reducible refine Kd.C_alloc ?_ _) | (with_reducible refine Kd.C_drewN ?_ _) | (with_reducible refine Kd.C_drew ?_)))
             (case side2 => exact HC1_0.out)
             (case side3 => repeat (first | exact (Kd.C_below HR1_1.out HB.out) | (with_reducible refine Kd.C_alloc ?_ _) | (with_reducible refine Kd.C_drewN ?_ _) | (with_reducible refine Kd.C_drew ?_)))
             (case side4 => exact HC1_1.out)
             rintro e w119 ⟨v312, v315, rfl, ho0, ho1, hb⟩
             refine ⟨_, rfl, ?_⟩
             have n0_ := Aside0.mk (Kd.R_mono (Kd.R_told (Kd.R_told (Kd.R_old (by (with_reducible repeat (first | apply Kd.R_alloc | apply Kd.R_drewN | apply Kd.R_drew)); exact HO_8.out) hb) (Kd.R_base ho0)) (Kd.R_base ho1)) (fun _ h_ => h_.1))
             have n1_ := Aside0.mk (Kd.R_mono (Kd.R_told (Kd.R_told (Kd.R_old (by (with_reducible repeat (first | apply Kd.R_alloc | apply Kd.R_drewN | apply Kd.R_drew)); exact HO_13.out) hb) (Kd.R_base ho0)) (Kd.R_base ho1)) (fun _ h_ => h_.1))
             have n2_ := Aside0.mk (Kd.R_below (by (with_reducible repeat (first | apply Kd.R_alloc | apply Kd.R_drewN | apply Kd.R_drew)); exact HO_275000.out) hb)
             have n3_ := Aside0.mk (Kd.R_mono (Kd.R_told (Kd.R_told (Kd.R_old (by (with_reducible repeat (first | apply Kd.R_alloc | apply Kd.R_drewN | apply Kd.R_drew)); exact HO_282000.out) hb) (Kd.R_base ho0)) (Kd.R_base ho1)) (fun _ h_ => h_.1))
             have n4_ := Aside0.mk (Kd.R_mono (Kd.R_told (Kd.R_told (Kd.R_old (by (with_reducible repeat (first | apply Kd.R_alloc | apply Kd.R_drewN | apply Kd.R_drew)); exact HO_282001.out) hb) (Kd.R_base ho0)) (Kd.R_base ho1)) (fun _ h_ => h_.1))
             have n5_ := Aside0.mk (Kd.R_below (by (with_reducible repeat (first | apply Kd.R_alloc | apply Kd.R_drewN | apply Kd.R_drew)); exact HO310.out) hb)
             have n6_ := Aside0.mk (Kd.R_lower (Kd.R_new' (Kd.R_new' (Kd.R_new' (Kd.R_new' ho0 (Kd.R_lt (by (with_reducible repeat (first | apply Kd.R_alloc | apply Kd.R_drewN | apply Kd.R_drew)); exact HO_8.out))) (Kd.R_lt (by (with_reducible repeat (first | apply Kd.R_alloc | apply Kd.R_drewN | apply Kd.R_drew)); exact HO_13.out))) (Kd.R_lt (by (with_reducible repeat (first | apply Kd.R_alloc | apply Kd.R_drewN | apply Kd.R_drew)); exact HO_282000.out))) (Kd.R_lt (by (with_reducible repeat (first | apply Kd.R_alloc | apply Kd.R_drewN | apply Kd.R_drew)); exact HO_282001.out))) (below_size (by repeat (first | (with_reducible first | exact HB.out | apply below_alloc | apply pw_below_drewN | apply below_drew1 | refine below_set ?_ GE253.out | refine below_set ?_ GE254.out | refine below_set ?_ GE274.out | refine below_set ?_ GE281.out) | exact HB.out))))
             have n7_ := Aside0.mk (Kd.R_lower (Kd.R_new' (Kd.R_new' (Kd.R_new' (Kd.R_new' ho1 (Kd.R_lt (by (with_reducible repeat (first | apply Kd.R_alloc | apply Kd.R_drewN | apply Kd.R_drew)); exact HO_8.out))) (Kd.R_lt (by (with_reducible repeat (first | apply Kd.R_alloc | apply Kd.R_drewN | apply Kd.R_drew)); exact HO_13.out))) (Kd.R_lt (by (with_reducible repeat (first | apply Kd.R_alloc | apply Kd.R_drewN | apply Kd.R_drew)); exact HO_282000.out))) (Kd.R_lt (by (with_reducible repeat (first | apply Kd.R_alloc | apply Kd.R_drewN | apply Kd.R_drew)); exact HO_282001.out))) (below_size (by repeat (first | (with_reducible first | exact HB.out | apply below_alloc | apply pw_below_drewN | apply below_drew1 | refine below_set ?_ GE253.out | refine below_set ?_ GE254.out | refine below_set ?_ GE274.out | refine below_set ?_ GE281.out) | exact HB.out))))
             have n8_ := Aside0.mk (blk_below (g := gb253) (o := .cells #[.slice A0_0 l0_0.length c0_0] 24 (0, 0)) (by (with_reducible repeat (first | refine blk_drewN ?_ _ | refine blk_drew ?_ | refine blk_alloc ?_ _)); exact BK253.out) hb)
             have n9_ := Aside0.mk (blk_below (g := gb254) (o := .cells #[.slice A1_0 l1_0.length c1_0, .slice A1_1 l1_1.length c1_1] 27 (0, 0)) (by (with_reducible repeat (first | refine blk_drewN ?_ _ | refine blk_drew ?_ | refine blk_alloc ?_ _)); exact BK254.out) hb)
             have n10_ := Aside0.mk (blk_below (g := gb274) (o := .cells #[.slice Ao44 t300.length co44] 34 (0, 0)) (by (with_reducible repeat (first | refine blk_drewN ?_ _ | refine blk_drew ?_ | refine blk_alloc ?_ _)); exact BK274.out) hb)
             have n11_ := Aside0.mk (blk_below (g := gb281) (o := .cells #[.slice Ao51 t302.length co51, .slice Ao56 t303.length co56] 36 (0, 0)) (by (with_reducible repeat (first | refine blk_drewN ?_ _ | refine blk_drew ?_ | refine blk_alloc ?_ _)); exact BK281.out) hb)
             have n12_ := Aside0.mk (below_step (by repeat (first | (with_reducible first | exact HB.out | apply below_alloc | apply pw_below_drewN | apply below_drew1 | refine below_set ?_ GE253.out | refine below_set ?_ GE254.out | refine below_set ?_ GE274.out | refine below_set ?_ GE281.out) | exact HB.out)) hb)
             clear HO_8
             clear HO_13
             clear HO_275000
             clear HO_282000
             clear HO_282001
             clear HO310
             clear BK253
             clear BK254
             clear BK274
             clear BK281
             clear HB
             have HO_8 := n0_
             have HO_13 := n1_
             have HO_275000 := n2_
             have HO_282000 := n3_
             have HO_282001 := n4_
             have HO310 := n5_
             have HO313 := n6_
             have HO316 := n7_
             have BK253 := n8_
             have BK254 := n9_
             have BK274 := n10_
             have BK281 := n11_
             have HB := n12_
             clear n0_ n1_ n2_ n3_ n4_ n5_ n6_ n7_ n8_ n9_ n10_ n11_ n12_
             (try clear hb)
             (try clear hb2)
             (try clear hk)
             (try clear hi)
             (try clear ho0)
             (try clear ho1)
             obtain ⟨Ao120, co120, eo120⟩ := Kd.R_slice HO310.out
             (first | subst eo120 | (injection eo120 with f1_ f2_ f3_; have f4_ := f1_.symm; have f5_ := f3_.symm; clear f1_ f2_ f3_; subst f4_; subst f5_))
             obtain ⟨Ao121, co121, eo121⟩ := Kd.R_slice HO313.out
             (first | subst eo121 | (injection eo121 with f1_ f2_ f3_; have f4_ := f1_.symm; have f5_ := f3_.symm; clear f1_ f2_ f3_; subst f4_; subst f5_))
             obtain ⟨Ao122, co122, eo122⟩ := Kd.R_slice HO316.out
             (first | subst eo122 | (injection eo122 with f1_ f2_ f3_; have f4_ := f1_.symm; have f5_ := f3_.symm; clear f1_ f2_ f3_; subst f4_; subst f5_))
             refine hK.out _ _ ⟨(blk_cell BK253.out 0).trans rfl, (blk_cell BK254.out 0).trans rfl, (blk_cell BK254.out 1).trans rfl⟩ (fun hHeld => ?_)
             clear hK K
             refine norm_ (a' := ?_) ?_ ?_
             rotate_left
             ·
              show Act.put _ (some 117) _ = _
              simp only [Act.put, sA_, sB_, sC_, i64_w, i32_w]
              rfl
             refine one_ (i := 5) (N := some 119) #[true, true, true, true, true, true, false, false, false, false, false, false, false] rfl rfl (one_of HT_.out (by kernel_rfl)) (by decide) (fun K hK => ?_)
             refine goes_ Try.func19 (by kernel_rfl) rfl #[.agg #[.slice Ao120 t308.length co120], .agg #[.slice Ao121 t311.length co121, .slice Ao122 t314.length co122], .int .i64 a2] (by rfl) rfl rfl (by (try simp only [List.map_toArray, List.map_cons, List.map_nil]); first | done | rfl | (simp only [List.length_drop, List.length_take]; rfl)) ?_
             with_reducible refine (impl_RunTree.calls kj76 _ _ t308 _ _ t311 _ _ t314 a2 t317 t320 t321 _ ?side1 ?side2 ?side3 ?side4 ?side5 ?side6 A113.out).mono ?_
             (case side1 => repeat (first | exact (Kd.R_reads' HO310.out).2.2 | (with_reducible refine Kd.C_alloc ?_ _) | (with_reducible refine Kd.C_drewN ?_ _) | (with_reducible refine Kd.C_drew ?_)))
             (case side2 => exact (Kd.R_reads' HO310.out).2.1)
             (case side3 => repeat (first | exact (Kd.R_reads' HO313.out).2.2 | (with_reducible refine Kd.C_alloc ?_ _) | (with_reducible refine Kd.C_drewN ?_ _) | (with_reducible refine Kd.C_drew ?_)))
             (case side4 => exact (Kd.R_reads' HO313.out).2.1)
             (case side5 => repeat (first | exact (Kd.R_reads' HO316.out).2.2 | (with_reducible refine Kd.C_alloc ?_ _) | (with_reducible refine Kd.C_drewN ?_ _) | (with_reducible refine Kd.C_drew ?_)))
             (case side6 => exact (Kd.R_reads' HO316.out).2.1)
             rintro e w123 ⟨v318, rfl, ho0, hb⟩
             refine ⟨_, rfl, ?_⟩
             have n0_ := Aside0.mk (Kd.R_elder' (by (with_reducible repeat (first | apply Kd.R_alloc | apply Kd.R_drewN | apply Kd.R_drew)); exact HO_8.out) (Kd.R_base ho0) hb)
             have n1_ := Aside0.mk (Kd.R_elder' (by (with_reducible repeat (first | apply Kd.R_alloc | apply Kd.R_drewN | apply Kd.R_drew)); exact HO_13.out) (Kd.R_base ho0) hb)
             have n2_ := Aside0.mk (Kd.R_below (by (with_reducible repeat (first | apply Kd.R_alloc | apply Kd.R_drewN | apply Kd.R_drew)); exact HO_275000.out) hb)
             have n3_ := Aside0.mk (Kd.R_elder' (by (with_reducible repeat (first | apply Kd.R_alloc | apply Kd.R_drewN | apply Kd.R_drew)); exact HO_282000.out) (Kd.R_base ho0) hb)
             have n4_ := Aside0.mk (Kd.R_elder' (by (with_reducible repeat (first | apply Kd.R_alloc | apply Kd.R_drewN | apply Kd.R_drew)); exact HO_282001.out) (Kd.R_base ho0) hb)
             have n5_ := Aside0.mk (Kd.R_below (by (with_reducible repeat (first | apply Kd.R_alloc | apply Kd.R_drewN | apply Kd.R_drew)); exact HO310.out) hb)
             have n6_ := Aside0.mk (Kd.R_elder' (by (with_reducible repeat (first | apply Kd.R_alloc | apply Kd.R_drewN | apply Kd.R_drew)); exact HO313.out) (Kd.R_base ho0) hb)
             have n7_ := Aside0.mk (Kd.R_elder' (by (with_reducible repeat (first | apply Kd.R_alloc | apply Kd.R_drewN | apply Kd.R_drew)); exact HO316.out) (Kd.R_base ho0) hb)
             have n8_ := Aside0.mk (Kd.R_lower (Kd.R_new' (Kd.R_new' (Kd.R_new' (Kd.R_new' (Kd.R_new' (Kd.R_new' ho0 (Kd.R_lt (by (with_reducible repeat (first | apply Kd.R_alloc | apply Kd.R_drewN | apply Kd.R_drew)); exact HO_8.out))) (Kd.R_lt (by (with_reducible repeat (first | apply Kd.R_alloc | apply Kd.R_drewN | apply Kd.R_drew)); exact HO_13.out))) (Kd.R_lt (by (with_reducible repeat (first | apply Kd.R_alloc | apply Kd.R_drewN | apply Kd.R_drew)); exact HO_282000.out))) (Kd.R_lt (by (with_reducible repeat (first | apply Kd.R_alloc | apply Kd.R_drewN | apply Kd.R_drew)); exact HO_282001.out))) (Kd.R_lt (by (with_reducible repeat (first | apply Kd.R_alloc | apply Kd.R_drewN | apply Kd.R_drew)); exact HO313.out))) (Kd.R_lt (by (with_reducible repeat (first | apply Kd.R_alloc | apply Kd.R_drewN | apply Kd.R_drew)); exact HO316.out))) (below_size (by repeat (first | (with_reducible first | exact HB.out | apply below_alloc | apply pw_below_drewN | apply below_drew1 | refine below_set ?_ GE253.out | refine below_set ?_ GE254.out | refine below_set ?_ GE274.out | refine below_set ?_ GE281.out) | exact HB.out))))
             have n9_ := Aside0.mk (blk_below (g := gb253) (o := .cells #[.slice A0_0 l0_0.length c0_0] 24 (0, 0)) (by (with_reducible repeat (first | refine blk_drewN ?_ _ | refine blk_drew ?_ | refine blk_alloc ?_ _)); exact BK253.out) hb)
             have n10_ := Aside0.mk (blk_below (g := gb254) (o := .cells #[.slice A1_0 l1_0.length c1_0, .slice A1_1 l1_1.length c1_1] 27 (0, 0)) (by (with_reducible repeat (first | refine blk_drewN ?_ _ | refine blk_drew ?_ | refine blk_alloc ?_ _)); exact BK254.out) hb)
             have n11_ := Aside0.mk (blk_below (g := gb274) (o := .cells #[.slice Ao44 t300.length co44] 34 (0, 0)) (by (with_reducible repeat (first | refine blk_drewN ?_ _ | refine blk_drew ?_ | refine blk_alloc ?_ _)); exact BK274.out) hb)
             have n12_ := Aside0.mk (blk_below (g := gb281) (o := .cells #[.slice Ao51 t302.length co51, .slice Ao56 t303.length co56] 36 (0, 0)) (by (with_reducible repeat (first | refine blk_drewN ?_ _ | refine blk_drew ?_ | refine blk_alloc ?_ _)); exact BK281.out) hb)
             have n13_ := Aside0.mk (below_step (by repeat (first | (with_reducible first | exact HB.out | apply below_alloc | apply pw_below_drewN | apply below_drew1 | refine below_set ?_ GE253.out | refine below_set ?_ GE254.out | refine below_set ?_ GE274.out | refine below_set ?_ GE281.out) | exact HB.out)) hb)
             clear HO_8
             clear HO_13
             clear HO_275000
             clear HO_282000
             clear HO_282001
             clear HO310
             clear HO313
             clear HO316
             clear BK253
             clear BK254
             clear BK274
             clear BK281
             clear HB
             have HO_8 := n0_
             have HO_13 := n1_
             have HO_275000 := n2_
             have HO_282000 := n3_
             have HO_282001 := n4_
             have HO310 := n5_
             have HO313 := n6_
             have HO316 := n7_
             have HO319 := n8_
             have BK253 := n9_
             have BK254 := n10_
             have BK274 := n11_
             have BK281 := n12_
             have HB := n13_
             clear n0_ n1_ n2_ n3_ n4_ n5_ n6_ n7_ n8_ n9_ n10_ n11_ n12_ n13_
             (try clear hb)
             (try clear hb2)
             (try clear hk)
             (try clear hi)
             (try clear ho0)
             refine hK.out _ _ ⟨(blk_cell BK253.out 0).trans rfl, (blk_cell BK254.out 0).trans rfl, (blk_cell BK254.out 1).trans rfl⟩ (fun hHeld => ?_)
             clear hK K
             refine norm_ (a' := ?_) ?_ ?_
             rotate_left
             ·
              show Act.put _ (some 119) _ = _
              simp only [Act.put, sA_, sB_, sC_, i64_w, i32_w]
              rfl
             refine pure_ (i := 6) (N := some 113) (v := ?_) (a' := ?_) #[true, true, true, true, true, true, true, false, false, false, false, false, false] rfl rfl (any_of HT_.out (by kernel_rfl)) (fun _ _ _ h => h) (Or.inl ⟨by rfl, ?_⟩) ?_ ?_
             rotate_left
             ·
              intro w'
              go_simp
              with_reducible rfl
             rotate_left
             ·
              simp only [Act.put, sA_, sB_, sC_, i64_w, i32_w]
              rfl
             refine pure_ (i := 7) (N := some 120) (v := ?_) (a' := ?_) #[true, true, true, true, true, true, true, true, false, false, false, false, false] rfl rfl (any_of HT_.out (by kernel_rfl)) (fun _ _ _ h => h) (Or.inl ⟨by rfl, ?_⟩) ?_ ?_
             rotate_left
             ·
              intro w'
              go_simp
              with_reducible rfl
             rotate_left
             ·
              simp only [Act.put, sA_, sB_, sC_, i64_w, i32_w]
              rfl
             refine pure_ (i := 8) (N := some 121) (v := ?_) (a' := ?_) #[true, true, true, true, true, true, true, true, true, false, false, false, false] rfl rfl (any_of HT_.out (by kernel_rfl)) (fun _ _ _ h => h) (Or.inl ⟨by rfl, ?_⟩) ?_ ?_
             rotate_left
             ·
              intro w'
              go_simp
              with_reducible rfl
             rotate_left
             ·
              simp only [Act.put, sA_, sB_, sC_, i64_w, i32_w]
              rfl
             refine pure_ (i := 9) (N := some 122) (v := ?_) (a' := ?_) #[true, true, true, true, true, true, true, true, true, true, false, false, false] rfl rfl (any_of HT_.out (by kernel_rfl)) (fun _ _ _ h => h) (Or.inl ⟨by rfl, ?_⟩) ?_ ?_
             rotate_left
             ·
              intro w'
              go_simp
              with_reducible rfl
             rotate_left
             ·
              simp only [Act.put, sA_, sB_, sC_, i64_w, i32_w]
              rfl
             refine pure_ (i := 10) (N := some 19) (v := ?_) (a' := ?_) #[true, true, true, true, true, true, true, true, true, true, true, false, false] rfl rfl (any_of HT_.out (by kernel_rfl)) (fun _ _ _ h => h) (Or.inl ⟨by rfl, ?_⟩) ?_ ?_
             rotate_left
             ·
              intro w'
              go_simp
              with_reducible rfl
             rotate_left
             ·
              simp only [Act.put, sA_, sB_, sC_, i64_w, i32_w]
              rfl
             refine pure_ (i := 11) (N := some 20) (v := ?_) (a' := ?_) #[true, true, true, true, true, true, true, true, true, true, true, true, false] rfl rfl (any_of HT_.out (by kernel_rfl)) (fun _ _ _ h => h) (Or.inl ⟨by rfl, ?_⟩) ?_ ?_
             rotate_left
             ·
              intro w'
              go_simp
              with_reducible rfl
             rotate_left
             ·
              simp only [Act.put, sA_, sB_, sC_, i64_w, i32_w]
              rfl
             refine pure_ (i := 12) (N := some 21) (v := ?_) (a' := ?_) #[true, true, true, true, true, true, true, true, true, true, true, true, true] rfl rfl (any_of HT_.out (by kernel_rfl)) (fun _ _ _ h => h) (Or.inl ⟨by rfl, ?_⟩) ?_ ?_
             rotate_left
             ·
              intro w'
              go_simp
              with_reducible rfl
             rotate_left
             ·
              simp only [Act.put, sA_, sB_, sC_, i64_w, i32_w]
              rfl
             refine done_ (done_of HT_.out (by kernel_rfl)) ?_
             go_upto_region 32 with (fail)
             go_cut [136] (fun v136 wc => ∃ (kq : Nat) (x136_113 : Bool), v136 = .bool x136_113 ∧ Aside0 (laws_FnExactRunTree.j2 kq t306 t305 x136_113 = some true) ∧ Aside0 (kq ≤ kj76) ∧ Aside0 (Kd.R (Kd.int .i8) 86 wc w.heap.size (fun k_ => some k_ ≠ ((.slice Ao51 t302.length co51) : Value).ownBlock ∧ some k_ ≠ ((.slice Ao56 t303.length co56) : Value).ownBlock) (.slice Ao115 t282.length co115) t306) ∧ Aside0 (Kd.R k89 89 wc w.heap.size (fun _ => True) (.slice Ao44 t300.length co44) t300) ∧ Aside0 (Kd.R (Kd.int .i8) 86 wc w.heap.size (fun k_ => some k_ ≠ ((.slice Ao115 t282.length co115) : Value).ownBlock ∧ some k_ ≠ ((.slice Ao56 t303.length co56) : Value).ownBlock) (.slice Ao51 t302.length co51) t302) ∧ Aside0 (Kd.R (Kd.int .i8) 86 wc w.heap.size (fun k_ => some k_ ≠ ((.slice Ao115 t282.length co115) : Value).ownBlock ∧ some k_ ≠ ((.slice Ao51 t302.length co51) : Value).ownBlock) (.slice Ao56 t303.length co56) t303) ∧ Aside0 (wc.heap[gb253]? = some (.cells #[(.slice A0_0 l0_0.length c0_0)] 24 (0, 0))) ∧ Aside0 (wc.heap[gb254]? = some (.cells #[(.slice A1_0 l1_0.length c1_0), (.slice A1_1 l1_1.length c1_1)] 27 (0, 0))) ∧ Aside0 (wc.heap[gb274]? = some (.cells #[(.slice Ao44 t300.length co44)] 34 (0, 0))) ∧ Aside0 (wc.heap[gb281]? = some (.cells #[(.slice Ao51 t302.length co51), (.slice Ao56 t303.length co56)] 36 (0, 0))) ∧ Aside0 (Below w.heap.size w wc))
             case first =>
              have H := HC114.out
              clear HC114
              replace H := Option.bind_eq_some_iff.mp H
              obtain ⟨t322, A1240, H⟩ := H
              replace H : (if t322 = true then (if t320 = t269 then (laws_FnExactRunTree.j2 kj76 t306 t305 (t321 != t270)) else (laws_FnExactRunTree.j2 kj76 t306 t305 true)) else (laws_FnExactRunTree.j2 kj76 t306 t305 true)) = some true := H
              have A124 := Aside0.mk A1240
              clear A1240
              by_cases c125 : t322 = true
              ·
               subst c125
               have H1 : (if t320 = t269 then (laws_FnExactRunTree.j2 kj76 t306 t305 (t321 != t270)) else (laws_FnExactRunTree.j2 kj76 t306 t305 true)) = some true := by first | (rw [if_pos rfl] at H; exact H) | rfl
               clear H
               have H := H1
               clear H1
               by_cases c126 : t320 = t269
               ·
                rw [if_pos c126] at H
                have c126b0 : (t320 == t269) = true := beq_iff_eq.mpr c126
                have c126b1 : (t320 != t269) = false := bne_eq_false_iff_eq.mpr c126
                clear c126
                (first | rw [c126b0] | (simp only [i64_w, i32_w]; rw [c126b0]) | skip)
                have H' := Aside0.mk H
                clear H
                obtain ⟨Ao127, co127, eo127⟩ := Kd.R_slice HO319.out
                subst eo127
                obtain ⟨Ao128, co128, eo128⟩ := Kd.R_slice HO_8.out
                subst eo128
                go_wp2_with (first | ((with_reducible refine gate_callee (f := 20) rfl ?_); refine goesL_ (some 125) rfl rfl Try.func20 (by kernel_rfl) rfl #[.slice Ao127 t317.length co127, .slice Ao128 t266.length co128] rfl (by (try simp only [List.map_toArray, List.map_cons, List.map_nil]); first | done | rfl | (simp only [List.length_drop, List.length_take]; rfl)) ?_; (with_reducible refine (laws_eqInt8S.calls kj76 _ _ t317 _ _ t266 true _ ?side1 ?side2 ?side3 ?side4 A124.out).mono ?_); (case side1 => repeat (first | exact (Kd.R_reads' HO319.out).2.2 | (with_reducible refine Kd.C_alloc ?_ _) | (with_reducible refine Kd.C_drewN ?_ _) | (with_reducible refine Kd.C_drew ?_))); (case side2 => exact (Kd.R_reads' HO319.out).2.1); (case side3 => repeat (first | exact (Kd.R_reads' HO_8.out).2.2 | (with_reducible refine Kd.C_alloc ?_ _) | (with_reducible refine Kd.C_drewN ?_ _) | (with_reducible refine Kd.C_drew ?_))); (case side4 => exact (Kd.R_reads' HO_8.out).2.1); rintro e w' ⟨rfl, ⟨nd, rfl⟩⟩; refine ⟨_, rfl, ?_⟩))
                go_meet
                case rel => exact ⟨_, ((t321 != t270)), (by first | rfl | (simp; done) | (simp [*]; done) | (simp [isE_]; done)), H', ⟨by have := HJ25.out; have := HJ76.out; first | omega | exact Nat.le_refl _⟩, ⟨by (try simp only [hl275000_76]); (try simp only [hl282000_76]); (try simp only [hl282001_76]); (with_reducible repeat (first | apply Kd.R_alloc | apply Kd.R_drewN | apply Kd.R_drew)); exact Kd.R_mono HO_13.out (fun _ hk => ⟨hk.1.1.1.2.1, hk.1.1.1.2.2⟩)⟩, ⟨by (try simp only [hl275000_76]); (try simp only [hl282000_76]); (try simp only [hl282001_76]); (with_reducible repeat (first | apply Kd.R_alloc | apply Kd.R_drewN | apply Kd.R_drew)); exact Kd.R_mono HO_275000.out (fun _ hk => trivial)⟩, ⟨by (try simp only [hl275000_76]); (try simp only [hl282000_76]); (try simp only [hl282001_76]); (with_reducible repeat (first | apply Kd.R_alloc | apply Kd.R_drewN | apply Kd.R_drew)); exact Kd.R_mono HO_282000.out (fun _ hk => ⟨hk.1.1.1.2.1, hk.1.1.1.2.2⟩)⟩, ⟨by (try simp only [hl275000_76]); (try simp only [hl282000_76]); (try simp only [hl282001_76]); (with_reducible repeat (first | apply Kd.R_alloc | apply Kd.R_drewN | apply Kd.R_drew)); exact Kd.R_mono HO_282001.out (fun _ hk => ⟨hk.1.1.1.2.1, hk.1.1.1.2.2⟩)⟩, ⟨by (try simp only [hl275000_76]); (try simp only [hl282000_76]); (try simp only [hl282001_76]); (with_reducible repeat (first | refine blk_drewN ?_ _ | refine blk_drew ?_ | refine blk_alloc ?_ _)); exact BK253.out⟩, ⟨by (try simp only [hl275000_76]); (try simp only [hl282000_76]); (try simp only [hl282001_76]); (with_reducible repeat (first | refine blk_drewN ?_ _ | refine blk_drew ?_ | refine blk_alloc ?_ _)); exact BK254.out⟩, ⟨by (try simp only [hl275000_76]); (try simp only [hl282000_76]); (try simp only [hl282001_76]); (with_reducible repeat (first | refine blk_drewN ?_ _ | refine blk_drew ?_ | refine blk_alloc ?_ _)); exact BK274.out⟩, ⟨by (try simp only [hl275000_76]); (try simp only [hl282000_76]); (try simp only [hl282001_76]); (with_reducible repeat (first | refine blk_drewN ?_ _ | refine blk_drew ?_ | refine blk_alloc ?_ _)); exact BK281.out⟩, ⟨by repeat (first | (with_reducible first | exact HB.out | apply below_alloc | apply pw_below_drewN | apply below_drew1 | refine below_set ?_ GE253.out | refine below_set ?_ GE254.out | refine below_set ?_ GE274.out | refine below_set ?_ GE281.out) | exact HB.out)⟩⟩
               ·
                rw [if_neg c126] at H
                have c126b0 : (t320 == t269) = false := beq_eq_false_iff_ne.mpr c126
                have c126b1 : (t320 != t269) = true := bne_iff_ne.mpr c126
                (first | rw [c126b0] | (simp only [i64_w, i32_w]; rw [c126b0]) | skip)
                have H' := Aside0.mk H
                clear H
                obtain ⟨Ao129, co129, eo129⟩ := Kd.R_slice HO319.out
                subst eo129
                obtain ⟨Ao130, co130, eo130⟩ := Kd.R_slice HO_8.out
                subst eo130
                go_wp2_with (first | ((with_reducible refine gate_callee (f := 20) rfl ?_); refine goesL_ (some 125) rfl rfl Try.func20 (by kernel_rfl) rfl #[.slice Ao129 t317.length co129, .slice Ao130 t266.length co130] rfl (by (try simp only [List.map_toArray, List.map_cons, List.map_nil]); first | done | rfl | (simp only [List.length_drop, List.length_take]; rfl)) ?_; (with_reducible refine (laws_eqInt8S.calls kj76 _ _ t317 _ _ t266 true _ ?side1 ?side2 ?side3 ?side4 A124.out).mono ?_); (case side1 => repeat (first | exact (Kd.R_reads' HO319.out).2.2 | (with_reducible refine Kd.C_alloc ?_ _) | (with_reducible refine Kd.C_drewN ?_ _) | (with_reducible refine Kd.C_drew ?_))); (case side2 => exact (Kd.R_reads' HO319.out).2.1); (case side3 => repeat (first | exact (Kd.R_reads' HO_8.out).2.2 | (with_reducible refine Kd.C_alloc ?_ _) | (with_reducible refine Kd.C_drewN ?_ _) | (with_reducible refine Kd.C_drew ?_))); (case side4 => exact (Kd.R_reads' HO_8.out).2.1); rintro e w' ⟨rfl, ⟨nd, rfl⟩⟩; refine ⟨_, rfl, ?_⟩))
                go_meet
                case rel => exact ⟨_, (true), (by first | rfl | (simp; done) | (simp [*]; done) | (simp [isE_]; done)), H', ⟨by have := HJ25.out; have := HJ76.out; first | omega | exact Nat.le_refl _⟩, ⟨by (try simp only [hl275000_76]); (try simp only [hl282000_76]); (try simp only [hl282001_76]); (with_reducible repeat (first | apply Kd.R_alloc | apply Kd.R_drewN | apply Kd.R_drew)); exact Kd.R_mono HO_13.out (fun _ hk => ⟨hk.1.1.1.2.1, hk.1.1.1.2.2⟩)⟩, ⟨by (try simp only [hl275000_76]); (try simp only [hl282000_76]); (try simp only [hl282001_76]); (with_reducible repeat (first | apply Kd.R_alloc | apply Kd.R_drewN | apply Kd.R_drew)); exact Kd.R_mono HO_275000.out (fun _ hk => trivial)⟩, ⟨by (try simp only [hl275000_76]); (try simp only [hl282000_76]); (try simp only [hl282001_76]); (with_reducible repeat (first | apply Kd.R_alloc | apply Kd.R_drewN | apply Kd.R_drew)); exact Kd.R_mono HO_282000.out (fun _ hk => ⟨hk.1.1.1.2.1, hk.1.1.1.2.2⟩)⟩, ⟨by (try simp only [hl275000_76]); (try simp only [hl282000_76]); (try simp only [hl282001_76]); (with_reducible repeat (first | apply Kd.R_alloc | apply Kd.R_drewN | apply Kd.R_drew)); exact Kd.R_mono HO_282001.out (fun _ hk => ⟨hk.1.1.1.2.1, hk.1.1.1.2.2⟩)⟩, ⟨by (try simp only [hl275000_76]); (try simp only [hl282000_76]); (try simp only [hl282001_76]); (with_reducible repeat (first | refine blk_drewN ?_ _ | refine blk_drew ?_ | refine blk_alloc ?_ _)); exact BK253.out⟩, ⟨by (try simp only [hl275000_76]); (try simp only [hl282000_76]); (try simp only [hl282001_76]); (with_reducible repeat (first | refine blk_drewN ?_ _ | refine blk_drew ?_ | refine blk_alloc ?_ _)); exact BK254.out⟩, ⟨by (try simp only [hl275000_76]); (try simp only [hl282000_76]); (try simp only [hl282001_76]); (with_reducible repeat (first | refine blk_drewN ?_ _ | refine blk_drew ?_ | refine blk_alloc ?_ _)); exact BK274.out⟩, ⟨by (try simp only [hl275000_76]); (try simp only [hl282000_76]); (try simp only [hl282001_76]); (with_reducible repeat (first | refine blk_drewN ?_ _ | refine blk_drew ?_ | refine blk_alloc ?_ _)); exact BK281.out⟩, ⟨by repeat (first | (with_reducible first | exact HB.out | apply below_alloc | apply pw_below_drewN | apply below_drew1 | refine below_set ?_ GE253.out | refine below_set ?_ GE254.out | refine below_set ?_ GE274.out | refine below_set ?_ GE281.out) | exact HB.out)⟩⟩
              ·
               replace c125 := Bool.eq_false_iff.mpr c125
               subst c125
               have H1 : (laws_FnExactRunTree.j2 kj76 t306 t305 true) = some true := by first | (rw [if_neg (show ¬ (false = true) by decide)] at H; exact H) | rfl
               clear H
               have H := H1
               clear H1
               have H' := Aside0.mk H
               clear H
               obtain ⟨Ao131, co131, eo131⟩ := Kd.R_slice HO319.out
               subst eo131
               obtain ⟨Ao132, co132, eo132⟩ := Kd.R_slice HO_8.out
               subst eo132
               go_wp2_with (first | ((with_reducible refine gate_callee (f := 20) rfl ?_); refine goesL_ (some 125) rfl rfl Try.func20 (by kernel_rfl) rfl #[.slice Ao131 t317.length co131, .slice Ao132 t266.length co132] rfl (by (try simp only [List.map_toArray, List.map_cons, List.map_nil]); first | done | rfl | (simp only [List.length_drop, List.length_take]; rfl)) ?_; (with_reducible refine (laws_eqInt8S.calls kj76 _ _ t317 _ _ t266 false _ ?side1 ?side2 ?side3 ?side4 A124.out).mono ?_); (case side1 => repeat (first | exact (Kd.R_reads' HO319.out).2.2 | (with_reducible refine Kd.C_alloc ?_ _) | (with_reducible refine Kd.C_drewN ?_ _) | (with_reducible refine Kd.C_drew ?_))); (case side2 => exact (Kd.R_reads' HO319.out).2.1); (case side3 => repeat (first | exact (Kd.R_reads' HO_8.out).2.2 | (with_reducible refine Kd.C_alloc ?_ _) | (with_reducible refine Kd.C_drewN ?_ _) | (with_reducible refine Kd.C_drew ?_))); (case side4 => exact (Kd.R_reads' HO_8.out).2.1); rintro e w' ⟨rfl, ⟨nd, rfl⟩⟩; refine ⟨_, rfl, ?_⟩))
               go_meet
               case rel => exact ⟨_, (true), (by first | rfl | (simp; done) | (simp [*]; done) | (simp [isE_]; done)), H', ⟨by have := HJ25.out; have := HJ76.out; first | omega | exact Nat.le_refl _⟩, ⟨by (try simp only [hl275000_76]); (try simp only [hl282000_76]); (try simp only [hl282001_76]); (with_reducible repeat (first | apply Kd.R_alloc | apply Kd.R_drewN | apply Kd.R_drew)); exact Kd.R_mono HO_13.out (fun _ hk => ⟨hk.1.1.1.2.1, hk.1.1.1.2.2⟩)⟩, ⟨by (try simp only [hl275000_76]); (try simp only [hl282000_76]); (try simp only [hl282001_76]); (with_reducible repeat (first | apply Kd.R_alloc | apply Kd.R_drewN | apply Kd.R_drew)); exact Kd.R_mono HO_275000.out (fun _ hk => trivial)⟩, ⟨by (try simp only [hl275000_76]); (try simp only [hl282000_76]); (try simp only [hl282001_76]); (with_reducible repeat (first | apply Kd.R_alloc | apply Kd.R_drewN | apply Kd.R_drew)); exact Kd.R_mono HO_282000.out (fun _ hk => ⟨hk.1.1.1.2.1, hk.1.1.1.2.2⟩)⟩, ⟨by (try simp only [hl275000_76]); (try simp only [hl282000_76]); (try simp only [hl282001_76]); (with_reducible repeat (first | apply Kd.R_alloc | apply Kd.R_drewN | apply Kd.R_drew)); exact Kd.R_mono HO_282001.out (fun _ hk => ⟨hk.1.1.1.2.1, hk.1.1.1.2.2⟩)⟩, ⟨by (try simp only [hl275000_76]); (try simp only [hl282000_76]); (try simp only [hl282001_76]); (with_reducible repeat (first | refine blk_drewN ?_ _ | refine blk_drew ?_ | refine blk_alloc ?_ _)); exact BK253.out⟩, ⟨by (try simp only [hl275000_76]); (try simp only [hl282000_76]); (try simp only [hl282001_76]); (with_reducible repeat (first | refine blk_drewN ?_ _ | refine blk_drew ?_ | refine blk_alloc ?_ _)); exact BK254.out⟩, ⟨by (try simp only [hl275000_76]); (try simp only [hl282000_76]); (try simp only [hl282001_76]); (with_reducible repeat (first | refine blk_drewN ?_ _ | refine blk_drew ?_ | refine blk_alloc ?_ _)); exact BK274.out⟩, ⟨by (try simp only [hl275000_76]); (try simp only [hl282000_76]); (try simp only [hl282001_76]); (with_reducible repeat (first | refine blk_drewN ?_ _ | refine blk_drew ?_ | refine blk_alloc ?_ _)); exact BK281.out⟩, ⟨by repeat (first | (with_reducible first | exact HB.out | apply below_alloc | apply pw_below_drewN | apply below_drew1 | refine below_set ?_ GE253.out | refine below_set ?_ GE254.out | refine below_set ?_ GE274.out | refine below_set ?_ GE281.out) | exact HB.out)⟩⟩
             case rest =>
              clear HC114
              try clear c1
              try clear c2
              try clear p2
              try clear c3
              try clear c4
              try clear c5
              try clear c5b0
              try clear c6
              try clear c7
              try clear c8
              try clear c9
              try clear c10
              try clear c11
              try clear c12
              try clear c12b0
              try clear c14
              try clear c15
              try clear c16
              try clear c17
              try clear c18
              try clear c19
              try clear c20
              try clear c21
              try clear c22
              try clear c23
              try clear c24
              try clear c25
              try clear c26
              try clear c29
              try clear c45
              try clear c46
              try clear c52
              try clear c53
              try clear c54
              try clear c60
              try clear c61
              try clear c61b0
              try clear c61b1
              try clear c68
              try clear c71
              try clear c74
              try clear c87
              try clear c88
              try clear c89
              try clear c92
              try clear c93
              try clear c96
              try clear c96b0
              try clear c98
              try clear c99
              try clear c99b0
              try clear c99b1
              try clear c106
              try clear c109
              try clear c109b0
              try clear c110
              try clear c110b0
              try clear c110b1
              try clear c125
              try clear c126
              try clear c126b0
              try clear c126b1
              try clear hcz16_0
              try clear hcz18_0
              try clear hcz18_1
              try clear hcz30_0
              try clear hcz32_0
              try clear hcz32_1
              try clear hcz41_0
              try clear hcz47_0
              try clear hcz48_0
              try clear hcz48_1
              try clear hcz55_0
              try clear hcz55_1
              try clear hcz57_0
              try clear hcz90_0
              try clear hcz94_0
              try clear hcz94_1
              try clear hcz9_0
              try clear hfz16_0
              try clear hfz18_0
              try clear hfz18_1
              try clear hfz30_0
              try clear hfz32_0
              try clear hfz32_1
              try clear hfz41_0
              try clear hfz47_0
              try clear hfz48_0
              try clear hfz48_1
              try clear hfz55_0
              try clear hfz55_1
              try clear hfz57_0
              try clear hfz90_0
              try clear hfz94_0
              try clear hfz94_1
              try clear hfz9_0
              try clear p2
              obtain ⟨kq, x136_113, rfl, HA, HJ113, HO_13, HO_275000, HO_282000, HO_282001, BK253, BK254, BK274, BK281, HB⟩ := hcut
              have hl13_113 := (Kd.R_reads' HO_13.out).1
              rw [hl13_113] at HO_13
              (try simp only [hl13_113])
              (try simp only [hl13_113] at BK253)
              (try simp only [hl13_113] at BK254)
              (try simp only [hl13_113] at BK274)
              (try simp only [hl13_113] at BK281)
              (try simp only [hl13_113] at HO_275000)
              (try simp only [hl13_113] at HO_282000)
              (try simp only [hl13_113] at HO_282001)
              cases kq with
              | zero => exact absurd HA.out (by simp [laws_FnExactRunTree.j2])
              | succ kj113 =>
               have H := HA.out
               clear HA
               simp only [laws_FnExactRunTree.j2] at H
               by_cases c133 : x136_113 = true
               ·
                subst c133
                have H1 : (some false) = some true := by first | (rw [if_pos rfl] at H; exact H) | rfl
                clear H
                have H := H1
                clear H1
                exact absurd H (by decide)
               ·
                replace c133 := Bool.eq_false_iff.mpr c133
                subst c133
                have H1 : ((laws_heldInt8S.f kj113 t306 1).bind fun t323 => (if t323 < 0 then (some false) else (if t323 = t305 then (some true) else (some false)))) = some true := by first | (rw [if_neg (show ¬ (false = true) by decide)] at H; exact H) | rfl
                clear H
                have H := H1
                clear H1
                replace H := Option.bind_eq_some_iff.mp H
                obtain ⟨t323, A1340, H⟩ := H
                replace H : (if t323 < 0 then (some false) else (if t323 = t305 then (some true) else (some false))) = some true := H
                have A134 := Aside0.mk A1340
                clear A1340
                by_cases c135 : t323 < 0
                ·
                 rw [if_pos c135] at H
                 have c135b0 : decide (t323 < 0) = true := decide_eq_true c135
                 clear c135
                 exact absurd H (by decide)
                ·
                 rw [if_neg c135] at H
                 have c135b0 : decide (t323 < 0) = false := decide_eq_false c135
                 clear c135
                 by_cases c136 : t323 = t305
                 ·
                  rw [if_pos c136] at H
                  have c136b0 : (t323 == t305) = true := beq_iff_eq.mpr c136
                  have c136b1 : (t323 != t305) = false := bne_eq_false_iff_eq.mpr c136
                  clear c136
                  clear H
                  go_wp2_with (first | ((with_reducible refine gate_callee (f := 26) rfl ?_); refine goesL_ (some 139) rfl rfl Try.func26 (by kernel_rfl) rfl #[.slice Ao115 t306.length co115, .int .i64 1] rfl (by (try simp only [List.map_toArray, List.map_cons, List.map_nil]); first | done | rfl | (simp only [List.length_drop, List.length_take]; rfl)) ?_; (with_reducible refine (laws_heldInt8S.calls kj113 _ _ t306 1 t323 _ ?side1 ?side2 A134.out).mono ?_); (case side1 => repeat (first | exact (Kd.R_reads' HO_13.out).2.2 | (with_reducible refine Kd.C_alloc ?_ _) | (with_reducible refine Kd.C_drewN ?_ _) | (with_reducible refine Kd.C_drew ?_))); (case side2 => exact (Kd.R_reads' HO_13.out).2.1); rintro e w' ⟨rfl, ⟨nd, rfl⟩⟩; refine ⟨_, rfl, ?_⟩))
                  go_ret
                  exact ⟨by first | rfl | (simp [errW_none, errW_some] <;> rfl) | (simp [*, errW_none, errW_some] <;> rfl), by repeat (first | (with_reducible first | exact HB.out | apply below_alloc | apply pw_below_drewN | apply below_drew1 | refine below_set ?_ GE253.out | refine below_set ?_ GE254.out | refine below_set ?_ GE274.out | refine below_set ?_ GE281.out) | exact HB.out)⟩
                 ·
                  rw [if_neg c136] at H
                  have c136b0 : (t323 == t305) = false := beq_eq_false_iff_ne.mpr c136
                  have c136b1 : (t323 != t305) = true := bne_iff_ne.mpr c136
                  exact absurd H (by decide)
            ·
             rw [if_neg c110] at H
             have c110b0 : (t307 == t305) = false := beq_eq_false_iff_ne.mpr c110
             have c110b1 : (t307 != t305) = true := bne_iff_ne.mpr c110
             exact absurd H (by decide)
       ·
        replace c74 := Bool.eq_false_iff.mpr c74
        subst c74
        have H1 : (some false) = some true := by first | (rw [if_neg (show ¬ (false = true) by decide)] at H; exact H) | rfl
        clear H
        have H := H1
        clear H1
        exact absurd H (by decide)
      ·
       replace c71 := Bool.eq_false_iff.mpr c71
       subst c71
       have H1 : (some false) = some true := by first | (rw [if_neg (show ¬ (false = true) by decide)] at H; exact H) | rfl
       clear H
       have H := H1
       clear H1
       exact absurd H (by decide)
end Go.Proofs.Ytpfnohdnaocpdaa.PT

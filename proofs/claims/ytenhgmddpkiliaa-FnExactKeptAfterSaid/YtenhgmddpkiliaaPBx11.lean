import Derived.Test.YtenhgmddpkiliaaPBx0
import Derived.Test.YtenhgmddpkiliaaPBkept
import Derived.Test.YtenhgmddpkiliaaPBusersOf
import Derived.Test.YtenhgmddpkiliaaPBx10
import Derived.Test.YtenhgmddpkiliaaPBx5
namespace Go.Proofs.Ytenhgmddpkiliaa.PB
open Go.RowKit Go.Proofs.YtenhgmddpkiliaaW.PrintWords Go.Proofs.YtenhgmddpkiliaaW.PrintLast Go.Proofs.YtenhgmddpkiliaaW.PrintMore Go.Proofs.YtenhgmddpkiliaaRP
attribute [local go_sem] max2_int min2_int max_two min_two max_three min_three max_four min_four Go.Proofs.YtenhgmddpkiliaaRP.max_eight Go.Proofs.YtenhgmddpkiliaaRP.tmod_len   -- for this text's walks alone
set_option linter.unusedVariables false
set_option linter.unusedSimpArgs false
theorem z11_1_ {P : Prop} (h : P := by repeat (first | (with_reducible first | exact HB.out | apply below_alloc | apply pw_below_drewN | apply below_drew1 | refine below_set ?_ GE382.out) | exact HB.out)) : P := h
theorem z11_2_ {P : Prop} (h : P := by (with_reducible repeat (first | refine blk_drewN ?_ _ | refine blk_drew ?_ | refine blk_alloc ?_ _)); exact BK382.out) : P := h
theorem z11_3_ {P : Prop} (h : P := by (with_reducible repeat (first | apply Kd.R_alloc | apply Kd.R_drewN | apply Kd.R_drew)); exact (Kd.R_mono (Kd.R_far (p := ⟨gb403, 8, none⟩) (Kd.R_far (p := ⟨gb403, 7, none⟩) (Kd.R_far (p := ⟨gb403, 6, none⟩) (Kd.R_far (p := ⟨gb403, 5, none⟩) (Kd.R_far (p := ⟨gb403, 4, none⟩) (Kd.R_far (p := ⟨gb403, 3, none⟩) (Kd.R_far (p := ⟨gb403, 2, none⟩) (Kd.R_far (p := ⟨gb403, 1, none⟩) (Kd.R_far (p := ⟨gb403, 0, none⟩) (Kd.R_types HO_11.out BK403.out (by decide)) (fun _ hk => hk.2) (.string ((rd_T124 l1 x49_2).f0))) (fun _ hk => hk.2) (.int .i64 ((rd_T124 l1 x49_2).f1))) (fun _ hk => hk.2) (.bool ((rd_T124 l1 x49_2).f2.f0))) (fun _ hk => hk.2) (.int .u32 ((rd_T124 l1 x49_2).f2.f1.f0))) (fun _ hk => hk.2) (.int .u32 ((rd_T124 l1 x49_2).f2.f1.f1))) (fun _ hk => hk.2) (.int .u32 ((rd_T124 l1 x49_2).f2.f1.f2))) (fun _ hk => hk.2) (.int .u32 ((rd_T124 l1 x49_2).f2.f1.f3))) (fun _ hk => hk.2) (.int .u32 ((rd_T124 l1 x49_2).f2.f1.f4))) (fun _ hk => hk.2) (.int .u32 ((rd_T124 l1 x49_2).f2.f1.f5))) (fun _ h_ => h_.1))) : P := h
theorem z11_4_ {P : Prop} (h : P := by (with_reducible repeat (first | refine blk_drewN ?_ _ | refine blk_drew ?_ | refine blk_alloc ?_ _)); refine blk_far ?_ NB382_403.out _; (with_reducible repeat (first | refine blk_drewN ?_ _ | refine blk_drew ?_ | refine blk_alloc ?_ _)); refine blk_far ?_ NB382_403.out _; (with_reducible repeat (first | refine blk_drewN ?_ _ | refine blk_drew ?_ | refine blk_alloc ?_ _)); refine blk_far ?_ NB382_403.out _; (with_reducible repeat (first | refine blk_drewN ?_ _ | refine blk_drew ?_ | refine blk_alloc ?_ _)); refine blk_far ?_ NB382_403.out _; (with_reducible repeat (first | refine blk_drewN ?_ _ | refine blk_drew ?_ | refine blk_alloc ?_ _)); refine blk_far ?_ NB382_403.out _; (with_reducible repeat (first | refine blk_drewN ?_ _ | refine blk_drew ?_ | refine blk_alloc ?_ _)); refine blk_far ?_ NB382_403.out _; (with_reducible repeat (first | refine blk_drewN ?_ _ | refine blk_drew ?_ | refine blk_alloc ?_ _)); refine blk_far ?_ NB382_403.out _; (with_reducible repeat (first | refine blk_drewN ?_ _ | refine blk_drew ?_ | refine blk_alloc ?_ _)); refine blk_far ?_ NB382_403.out _; (with_reducible repeat (first | refine blk_drewN ?_ _ | refine blk_drew ?_ | refine blk_alloc ?_ _)); refine blk_far ?_ NB382_403.out _; (with_reducible repeat (first | refine blk_drewN ?_ _ | refine blk_drew ?_ | refine blk_alloc ?_ _)); exact BK382.out) : P := h
theorem z11_5_ {P : Prop} (h : P := by (try simp only [List.map_toArray, List.map_cons, List.map_nil]); first | done | rfl | (simp only [List.length_drop, List.length_take]; rfl)) : P := h
theorem z11_6_ {P : Prop} (h : P := by (with_reducible repeat (first | apply Kd.R_alloc | apply Kd.R_drewN | apply Kd.R_drew)); exact (Kd.R_mono (Kd.R_far (p := ⟨gb403, 8, none⟩) (Kd.R_far (p := ⟨gb403, 7, none⟩) (Kd.R_far (p := ⟨gb403, 6, none⟩) (Kd.R_far (p := ⟨gb403, 5, none⟩) (Kd.R_far (p := ⟨gb403, 4, none⟩) (Kd.R_far (p := ⟨gb403, 3, none⟩) (Kd.R_far (p := ⟨gb403, 2, none⟩) (Kd.R_far (p := ⟨gb403, 1, none⟩) (Kd.R_far (p := ⟨gb403, 0, none⟩) (Kd.R_mono HO_12.out (fun k_ hk => (⟨hk, hk.2⟩ : _ ∧ k_ ≠ gb403))) (fun _ hk => hk.2) (.string ((rd_T124 l1 x49_2).f0))) (fun _ hk => hk.2) (.int .i64 ((rd_T124 l1 x49_2).f1))) (fun _ hk => hk.2) (.bool ((rd_T124 l1 x49_2).f2.f0))) (fun _ hk => hk.2) (.int .u32 ((rd_T124 l1 x49_2).f2.f1.f0))) (fun _ hk => hk.2) (.int .u32 ((rd_T124 l1 x49_2).f2.f1.f1))) (fun _ hk => hk.2) (.int .u32 ((rd_T124 l1 x49_2).f2.f1.f2))) (fun _ hk => hk.2) (.int .u32 ((rd_T124 l1 x49_2).f2.f1.f3))) (fun _ hk => hk.2) (.int .u32 ((rd_T124 l1 x49_2).f2.f1.f4))) (fun _ hk => hk.2) (.int .u32 ((rd_T124 l1 x49_2).f2.f1.f5))) (fun _ h_ => h_.1))) : P := h
theorem z11_7_ {P : Prop} (h : P := by repeat (first | (with_reducible first | exact HB.out | apply below_alloc | apply pw_below_drewN | apply below_drew1 | refine below_set ?_ GE382.out | refine below_set ?_ GE403.out) | exact HB.out)) : P := h
theorem z11_8_ {P : Prop} (h : P := by (with_reducible repeat (first | apply Kd.R_alloc | apply Kd.R_drewN | apply Kd.R_drew)); exact HO388.out) : P := h
theorem z11_9_ {P : Prop} (h : P := by first | exact Kd.R_nil _ _ _ _ _ | exact Kd.N_nil _ _ _ _ _ | exact Kd.V_nil _ _ _ _ _ | exact Kd.Q_nil _ _ _ _ _ | exact Kd.S_nil _ _ _ _ _) : P := h
theorem z11_10_ {P : Prop} (h : P := by (with_reducible repeat (first | apply Kd.R_alloc | apply Kd.R_drewN | apply Kd.R_drew)); exact HO_12.out) : P := h
theorem z11_11_ {P : Prop} (h : P := by first | rfl | (simp; done) | (simp [*]; done) | (simp [isE_]; done)) : P := h
theorem z11_12_ {P : Prop} (h : P := by (with_reducible repeat (first | apply Kd.R_alloc | apply Kd.R_drewN | apply Kd.R_drew)); exact HO_11.out) : P := h
theorem z11_13_ {P : Prop} (h : P := by (with_reducible repeat (first | apply Kd.R_alloc | apply Kd.R_drewN | apply Kd.R_drew)); exact HO395.out) : P := h
theorem z11_14_ {P : Prop} (h : P := by (with_reducible repeat (first | apply Kd.R_alloc | apply Kd.R_drewN | apply Kd.R_drew)); exact HO392.out) : P := h
theorem z11_15_ {P : Prop} (h : P := by (with_reducible repeat (first | apply Kd.R_alloc | apply Kd.R_drewN | apply Kd.R_drew)); exact HO_9.out) : P := h
theorem z11_16_ {P : Prop} (h : P := by repeat (first | (with_reducible first | exact HB.out | apply below_alloc | apply pw_below_drewN | apply below_drew1) | exact HB.out)) : P := h
theorem z11_17_ {P : Prop} (h : P := by first | rfl | (simp [errW_none, errW_some] <;> rfl) | (simp [*, errW_none, errW_some] <;> rfl)) : P := h
theorem z11_18_ {P : Prop} (h : P := by (with_reducible repeat (first | apply Kd.R_alloc | apply Kd.R_drewN | apply Kd.R_drew)); exact Kd.R_mono HO395.out (fun _ hk => hk.2)) : P := h
theorem z11_19_ {P : Prop} (h : P := by (with_reducible repeat (first | apply Kd.R_alloc | apply Kd.R_drewN | apply Kd.R_drew)); exact Kd.R_mono HO392.out (fun _ hk => hk.2)) : P := h
theorem z11_20_ {P : Prop} (h : P := by (with_reducible repeat (first | apply Kd.R_alloc | apply Kd.R_drewN | apply Kd.R_drew)); exact Kd.R_mono HO388.out (fun _ hk => hk.2)) : P := h
theorem z11_21_ {P : Prop} (h : P := by (with_reducible repeat (first | refine blk_drewN ?_ _ | refine blk_drew ?_ | refine blk_alloc ?_ _)); exact BK403.out) : P := h
/-! ### impl_KeptAfter: function 58 -/
mutual
def impl_KeptAfter.j0 : Nat → List (S45) → List (S124) → Bool → ByteArray → Int → ByteArray → ByteArray → Int → Int → Option ((List (S45)) × (List (S124)) × Int)
 | 0, _, _, _, _, _, _, _, _, _ => none
 | k + 1, x0, x1, x28, x383000, x383001, x383002, x383003, x383004, x383005 => if x28 = true then (some (([] : List (S45)), ([] : List (S124)), 1)) else ((impl_WriteLine.f k x0 x383000 x383001 x383002 x383003 x383004 x383005).bind fun bt386 => (if bt386.2 = 0 then ((impl_usersOf.f k bt386.1 x383000).bind fun t390 => ((some (([x383000] : List ByteArray) : List ByteArray)).bind fun y393 => (if t390.length + y393.length < 8796093022208 then (impl_KeptAfter.l0 k bt386.1 (t390 ++ y393) (([] : List (S124))) x1 (x1.length : Int) 0) else (none)))) else (some (([] : List (S45)), ([] : List (S124)), bt386.2))))
def impl_KeptAfter.l0 : Nat → List (S45) → List ByteArray → List (S124) → List (S124) → Int → Int → Option ((List (S45)) × (List (S124)) × Int)
 | 0, _, _, _, _, _, _ => none
 | k + 1, x9, x11, x12, x47, x48, x49 => if x49 < x48 then (if 0 ≤ x49 then (if x49 < (x47.length : Int) then ((slices_Contains_string_string.f k x11 ((rd_T124 x47 x49).f0)).bind fun t404 => (if t404 = true then (impl_KeptAfter.l0 k x9 x11 x12 x47 x48 (wrap64 (x49 + 1))) else ((some (([(⟨(rd_T124 x47 x49).f0, (rd_T124 x47 x49).f1, (⟨(rd_T124 x47 x49).f2.f0, (⟨(rd_T124 x47 x49).f2.f1.f0, (rd_T124 x47 x49).f2.f1.f1, (rd_T124 x47 x49).f2.f1.f2, (rd_T124 x47 x49).f2.f1.f3, (rd_T124 x47 x49).f2.f1.f4, (rd_T124 x47 x49).f2.f1.f5⟩ : S116)⟩ : S122)⟩ : S124)] : List (S124)) : List (S124))).bind fun y405 => (if x12.length + y405.length < 2513169434916 then (impl_KeptAfter.l0 k x9 x11 (x12 ++ y405) x47 x48 (wrap64 (x49 + 1))) else (none))))) else (none)) else (none)) else (some (x9, x12, 0))
end
def impl_KeptAfter.f (k : Nat) (l0 : List (S45)) (l1 : List (S124)) (a2_0 : ByteArray) (a2_1 : Int) (a2_2 : ByteArray) (a2_3 : ByteArray) (a2_4 : Int) (a2_5 : Int) : Option ((List (S45)) × (List (S124)) × Int) := (impl_ValidBook.f k l0).bind fun t383 => (if t383 = true then ((impl_keptOk.f l0 l1).bind fun t384 => (if t384 = true then ((impl_valuesOk.f l1).bind fun t385 => (impl_KeptAfter.j0 k l0 l1 (!t385) a2_0 a2_1 a2_2 a2_3 a2_4 a2_5)) else (impl_KeptAfter.j0 k l0 l1 true a2_0 a2_1 a2_2 a2_3 a2_4 a2_5))) else (impl_KeptAfter.j0 k l0 l1 true a2_0 a2_1 a2_2 a2_3 a2_4 a2_5))
theorem impl_KeptAfter.mono_l : ∀ k, (∀ y0 y1 y2 y3 y4 y5 y6 y7 y8, LeO (impl_KeptAfter.j0 k y0 y1 y2 y3 y4 y5 y6 y7 y8) (impl_KeptAfter.j0 (k + 1) y0 y1 y2 y3 y4 y5 y6 y7 y8)) ∧ (∀ y0 y1 y2 y3 y4 y5, LeO (impl_KeptAfter.l0 k y0 y1 y2 y3 y4 y5) (impl_KeptAfter.l0 (k + 1) y0 y1 y2 y3 y4 y5))
 | 0 => ⟨fun _ _ _ _ _ _ _ _ _ r h => by simp [impl_KeptAfter.j0] at h, fun _ _ _ _ _ _ r h => by simp [impl_KeptAfter.l0] at h⟩
 | k + 1 => by
  obtain ⟨ih0, ih1⟩ := impl_KeptAfter.mono_l k
  refine ⟨?_, ?_⟩
  ·
   intro y0 y1 y2 y3 y4 y5 y6 y7 y8
   unfold impl_KeptAfter.j0
   repeat' first
   | (with_reducible exact ih0 _ _ _ _ _ _ _ _ _)
   | (with_reducible exact ih1 _ _ _ _ _ _)
   | (with_reducible exact impl_ValidBook.mono _ _)
   | (with_reducible exact impl_WriteLine.mono _ _ _ _ _ _ _ _)
   | (with_reducible exact impl_usersOf.mono _ _ _)
   | (with_reducible exact slices_Contains_string_string.mono _ _ _)
   | (with_reducible exact LeO.refl _)
   | (with_reducible exact LeO.none _)
   | (with_reducible refine LeO.ite ?_ ?_)
   | (with_reducible refine LeO.bind ?_ (fun _ => ?_))
   | exact ih0 _ _ _ _ _ _ _ _ _
   | exact ih1 _ _ _ _ _ _
   | exact LeO.none _
   | refine LeO.ite ?_ ?_
   | refine LeO.bind ?_ (fun _ => ?_)
  ·
   intro y0 y1 y2 y3 y4 y5
   unfold impl_KeptAfter.l0
   repeat' first
   | (with_reducible exact ih0 _ _ _ _ _ _ _ _ _)
   | (with_reducible exact ih1 _ _ _ _ _ _)
   | (with_reducible exact impl_ValidBook.mono _ _)
   | (with_reducible exact impl_WriteLine.mono _ _ _ _ _ _ _ _)
   | (with_reducible exact impl_usersOf.mono _ _ _)
   | (with_reducible exact slices_Contains_string_string.mono _ _ _)
   | (with_reducible exact LeO.refl _)
   | (with_reducible exact LeO.none _)
   | (with_reducible refine LeO.ite ?_ ?_)
   | (with_reducible refine LeO.bind ?_ (fun _ => ?_))
   | exact ih0 _ _ _ _ _ _ _ _ _
   | exact ih1 _ _ _ _ _ _
   | exact LeO.none _
   | refine LeO.ite ?_ ?_
   | refine LeO.bind ?_ (fun _ => ?_)
theorem impl_KeptAfter.mono : ∀ a0 a1 a2 a3 a4 a5 a6 a7 k, LeO (impl_KeptAfter.f k a0 a1 a2 a3 a4 a5 a6 a7) (impl_KeptAfter.f (k + 1) a0 a1 a2 a3 a4 a5 a6 a7) := by
 intro a0 a1 a2 a3 a4 a5 a6 a7 k
 obtain ⟨ih0, ih1⟩ := impl_KeptAfter.mono_l k
 unfold impl_KeptAfter.f
 repeat' first
   | (with_reducible exact ih0 _ _ _ _ _ _ _ _ _)
   | (with_reducible exact ih1 _ _ _ _ _ _)
   | (with_reducible exact impl_ValidBook.mono _ _)
   | (with_reducible exact impl_WriteLine.mono _ _ _ _ _ _ _ _)
   | (with_reducible exact impl_usersOf.mono _ _ _)
   | (with_reducible exact slices_Contains_string_string.mono _ _ _)
   | (with_reducible exact LeO.refl _)
   | (with_reducible exact LeO.none _)
   | (with_reducible refine LeO.ite ?_ ?_)
   | (with_reducible refine LeO.bind ?_ (fun _ => ?_))
   | exact ih0 _ _ _ _ _ _ _ _ _
   | exact ih1 _ _ _ _ _ _
   | exact LeO.none _
   | refine LeO.ite ?_ ?_
   | refine LeO.bind ?_ (fun _ => ?_)
def impl_KeptAfter.T6 : Bool × List (List Nat × List Nat) := (true, [([], []), ([], []), ([1], [1]), ([0, 2], [0, 2]), ([], []), ([4], [4]), ([5], [5]), ([3, 6, 3], [3, 6]), ([7, 7, 0, 1, 2, 3, 4, 5, 6, 7], [7])])
def impl_KeptAfter.B6 : List Nat := [0, 0, 2, 7, 0, 16, 48, 127, 255]
theorem impl_KeptAfter.tab6 : rtab .any (opsOf Try.f58 6) = impl_KeptAfter.T6 := by kernel_rfl
theorem impl_KeptAfter.bits6 : waitsOk impl_KeptAfter.T6.2 impl_KeptAfter.B6 = true := by kernel_rfl
set_option maxHeartbeats 8000000 in
set_option maxRecDepth 100000 in
theorem impl_KeptAfter.calls (k : Nat) (A0 : Option Addr) (c0 : Nat) (l0 : List (S45)) (A1 : Option Addr) (c1 : Nat) (l1 : List (S124)) (a2_0 : ByteArray) (a2_1 : Int) (a2_2 : ByteArray) (a2_3 : ByteArray) (a2_4 : Int) (a2_5 : Int) (r1 : List (S45)) (r2 : List (S124)) (r3 : Int) (w : World) (hr0 : Kd.C k45 w A0 l0.length l0) (hc0 : l0.length ≤ c0) (hr1 : Kd.C k124 w A1 l1.length l1) (hc1 : l1.length ≤ c1) (h : impl_KeptAfter.f k l0 l1 a2_0 a2_1 a2_2 a2_3 a2_4 a2_5 = some (r1, r2, r3)) :
  Calls Try.prog 58 #[.slice A0 l0.length c0, .slice A1 l1.length c1, .agg #[.string a2_0, .int .i8 a2_1, .string a2_2, .string a2_3, .int .i64 a2_4, .int .i64 a2_5]] w fun e w' => ∃ v0_ v1_ : Value, e = .returned (.tuple #[v0_, v1_, .int .i64 r3]) ∧ Kd.R k45 45 w' w.heap.size (fun _ => True) v0_ r1 ∧ Kd.R k124 124 w' w.heap.size (fun _ => True) v1_ r2 ∧ Below w.heap.size w w' := by
 have hu45 := Try.underlying45
 have hu124 := Try.underlying124
 have HR0 := A_ hr0
 have HC0 := A_ hc0
 clear hr0 hc0
 have HR1 := A_ hr1
 have HC1 := A_ hc1
 clear hr1 hc1
 have HB := A_ (Below.refl w.heap.size w)
 have H : ((impl_ValidBook.f k l0).bind fun t383 => (if t383 = true then ((impl_keptOk.f l0 l1).bind fun t384 => (if t384 = true then ((impl_valuesOk.f l1).bind fun t385 => (impl_KeptAfter.j0 k l0 l1 (!t385) a2_0 a2_1 a2_2 a2_3 a2_4 a2_5)) else (impl_KeptAfter.j0 k l0 l1 true a2_0 a2_1 a2_2 a2_3 a2_4 a2_5))) else (impl_KeptAfter.j0 k l0 l1 true a2_0 a2_1 a2_2 a2_3 a2_4 a2_5))) = some (r1, r2, r3) := h
 clear h
 have HC4 := A_ H
 clear H
 go_enter Try.func58, Try.ntmps58
 go_upto_region 1 with (first | ((with_reducible refine gate_dst (N := 5) rfl ?_); refine box_event ?hg (N := 5) ?hd (cs := #[.string a2_0, .int .i8 a2_1, .string a2_2, .string a2_3, .int .i64 a2_4, .int .i64 a2_5]) (t := 45) ?hr ?_; (case hd => rfl); (case hg => rfl); (case hr => first | (go_simp; done) | (go_simp; rfl)); intro gb382 hg w5 hbox hb; have _ := A_ (below_step z11_16_ hb); have _ := A_ (hbox); have _ := A_ ((by rw [hg]; exact (below_size z11_16_) : w.heap.size ≤ gb382)); have _ := A_ ((by rw [hg]; exact (below_size z11_16_) : w.heap.size ≤ gb382)); clear HB; rename_i HB BK382 GW382 GE382; clear hb hbox hg))
 (try simp only [Act.put, sA_, sB_, sC_])
 go_cut [28] (fun v28 wc => ∃ (kq : Nat) (x28_3 : Bool), v28 = .bool x28_3 ∧ Aside0 (impl_KeptAfter.j0 kq l0 l1 x28_3 a2_0 a2_1 a2_2 a2_3 a2_4 a2_5 = some (r1, r2, r3)) ∧ Aside0 (kq ≤ k) ∧ Aside0 (wc.heap[gb382]? = some (.cells #[.string a2_0, .int .i8 a2_1, .string a2_2, .string a2_3, .int .i64 a2_4, .int .i64 a2_5] 45 (0, 0))) ∧ Aside0 (Below w.heap.size w wc))
 case first =>
  have H := HC4.out
  clear HC4
  replace H := Option.bind_eq_some_iff.mp H
  obtain ⟨t383, A60, H⟩ := H
  try dsimp only at H
  have A6 := A_ A60
  clear A60
  by_cases c7 : t383 = true
  ·
   subst c7
   have H1 := H; rw [if_pos rfl] at H1
   clear H
   have H := H1
   clear H1
   replace H := Option.bind_eq_some_iff.mp H
   obtain ⟨t384, A80, H⟩ := H
   try dsimp only at H
   have A8 := A_ A80
   clear A80
   by_cases c9 : t384 = true
   ·
    subst c9
    have H1 := H; rw [if_pos rfl] at H1
    clear H
    have H := H1
    clear H1
    replace H := Option.bind_eq_some_iff.mp H
    obtain ⟨t385, A100, H⟩ := H
    try dsimp only at H
    have A10 := A_ A100
    clear A100
    have H' := A_ H
    clear H
    go_wp2_with (first | ((with_reducible refine gate_callee (f := 20) rfl ?_); refine goesL_ (some 16) rfl rfl Try.func20 (by kernel_rfl) rfl #[.slice A0 l0.length c0] rfl z11_5_ ?_; (with_reducible refine (impl_ValidBook.calls k _ _ l0 true _ ?side1 ?side2 A6.out).mono ?_); (case side1 => have hx_ := (Kd.C_below HR0.out HB.out); exact kc_); (case side2 => exact HC0.out); rintro e w11 ⟨rfl, hb⟩; refine ⟨_, rfl, ?_⟩; have _ := A_ (blk_below (g := gb382) (o := .cells #[.string a2_0, .int .i8 a2_1, .string a2_2, .string a2_3, .int .i64 a2_4, .int .i64 a2_5] 45 (0, 0)) z11_2_ hb); have _ := A_ (below_step z11_1_ hb); clear BK382 HB; rename_i BK382 HB; (try clear hb)) | (go_at_call 99; (with_reducible refine (impl_keptOk.calls _ _ l0 _ _ l1 true _ ?side1 ?side2 ?side3 ?side4 A8.out).mono ?_); (case side1 => have hx_ := (Kd.C_below HR0.out HB.out); exact kc_); (case side2 => exact HC0.out); (case side3 => have hx_ := (Kd.C_below HR1.out HB.out); exact kc_); (case side4 => exact HC1.out); rintro e w12 ⟨rfl, hb⟩; have _ := A_ (blk_below (g := gb382) (o := .cells #[.string a2_0, .int .i8 a2_1, .string a2_2, .string a2_3, .int .i64 a2_4, .int .i64 a2_5] 45 (0, 0)) z11_2_ hb); have _ := A_ (below_step z11_1_ hb); clear BK382 HB; rename_i BK382 HB; (try clear hb)) | (go_at_call 100; (with_reducible refine (impl_valuesOk.calls _ _ l1 t385 _ ?side1 ?side2 A10.out).mono ?_); (case side1 => have hx_ := (Kd.C_below HR1.out HB.out); exact kc_); (case side2 => exact HC1.out); rintro e w13 ⟨rfl, hb⟩; have _ := A_ (blk_below (g := gb382) (o := .cells #[.string a2_0, .int .i8 a2_1, .string a2_2, .string a2_3, .int .i64 a2_4, .int .i64 a2_5] 45 (0, 0)) z11_2_ hb); have _ := A_ (below_step z11_1_ hb); clear BK382 HB; rename_i BK382 HB; (try clear hb)))
    go_meet
    case rel => exact ⟨_, (!t385), z11_11_, H', ⟨(by first | omega | exact Nat.le_refl _)⟩, ⟨z11_2_⟩, ⟨z11_1_⟩⟩
   ·
    replace c9 := Bool.eq_false_iff.mpr c9
    subst c9
    have H1 := H; rw [if_neg (show ¬ (false = true) by decide)] at H1
    clear H
    have H := H1
    clear H1
    have H' := A_ H
    clear H
    go_wp2_with (first | ((with_reducible refine gate_callee (f := 20) rfl ?_); refine goesL_ (some 16) rfl rfl Try.func20 (by kernel_rfl) rfl #[.slice A0 l0.length c0] rfl z11_5_ ?_; (with_reducible refine (impl_ValidBook.calls k _ _ l0 true _ ?side1 ?side2 A6.out).mono ?_); (case side1 => have hx_ := (Kd.C_below HR0.out HB.out); exact kc_); (case side2 => exact HC0.out); rintro e w14 ⟨rfl, hb⟩; refine ⟨_, rfl, ?_⟩; have _ := A_ (blk_below (g := gb382) (o := .cells #[.string a2_0, .int .i8 a2_1, .string a2_2, .string a2_3, .int .i64 a2_4, .int .i64 a2_5] 45 (0, 0)) z11_2_ hb); have _ := A_ (below_step z11_1_ hb); clear BK382 HB; rename_i BK382 HB; (try clear hb)) | (go_at_call 99; (with_reducible refine (impl_keptOk.calls _ _ l0 _ _ l1 false _ ?side1 ?side2 ?side3 ?side4 A8.out).mono ?_); (case side1 => have hx_ := (Kd.C_below HR0.out HB.out); exact kc_); (case side2 => exact HC0.out); (case side3 => have hx_ := (Kd.C_below HR1.out HB.out); exact kc_); (case side4 => exact HC1.out); rintro e w15 ⟨rfl, hb⟩; have _ := A_ (blk_below (g := gb382) (o := .cells #[.string a2_0, .int .i8 a2_1, .string a2_2, .string a2_3, .int .i64 a2_4, .int .i64 a2_5] 45 (0, 0)) z11_2_ hb); have _ := A_ (below_step z11_1_ hb); clear BK382 HB; rename_i BK382 HB; (try clear hb)))
    go_meet
    case rel => exact ⟨_, (true), z11_11_, H', ⟨(by first | omega | exact Nat.le_refl _)⟩, ⟨z11_2_⟩, ⟨z11_1_⟩⟩
  ·
   replace c7 := Bool.eq_false_iff.mpr c7
   subst c7
   have H1 := H; rw [if_neg (show ¬ (false = true) by decide)] at H1
   clear H
   have H := H1
   clear H1
   have H' := A_ H
   clear H
   go_wp2_with (first | ((with_reducible refine gate_callee (f := 20) rfl ?_); refine goesL_ (some 16) rfl rfl Try.func20 (by kernel_rfl) rfl #[.slice A0 l0.length c0] rfl z11_5_ ?_; (with_reducible refine (impl_ValidBook.calls k _ _ l0 false _ ?side1 ?side2 A6.out).mono ?_); (case side1 => have hx_ := (Kd.C_below HR0.out HB.out); exact kc_); (case side2 => exact HC0.out); rintro e w16 ⟨rfl, hb⟩; refine ⟨_, rfl, ?_⟩; have _ := A_ (blk_below (g := gb382) (o := .cells #[.string a2_0, .int .i8 a2_1, .string a2_2, .string a2_3, .int .i64 a2_4, .int .i64 a2_5] 45 (0, 0)) z11_2_ hb); have _ := A_ (below_step z11_1_ hb); clear BK382 HB; rename_i BK382 HB; (try clear hb)))
   go_meet
   case rel => exact ⟨_, (true), z11_11_, H', ⟨(by first | omega | exact Nat.le_refl _)⟩, ⟨z11_2_⟩, ⟨z11_1_⟩⟩
 case rest =>
  clear HC4
  try clear c1
  try clear c2
  try clear p2
  try clear c5
  try clear c7
  try clear c9
  obtain ⟨kq, x28_3, rfl, HA, HJ3, BK382, HB⟩ := hcut
  cases kq with
  | zero => exact absurd HA.out (by simp [impl_KeptAfter.j0])
  | succ kj3 =>
   have H := HA.out
   clear HA
   simp only [impl_KeptAfter.j0] at H
   by_cases c17 : x28_3 = true
   ·
    subst c17
    have H1 := H; rw [if_pos rfl] at H1
    clear H
    have H := H1
    clear H1
    simp only [Option.some.injEq, Prod.mk.injEq] at H
    obtain ⟨rfl, rfl, rfl⟩ := H
    go_wp2
    go_ret3
    exact ⟨_, _, z11_17_, z11_9_, z11_9_, z11_1_⟩
   ·
    replace c17 := Bool.eq_false_iff.mpr c17
    subst c17
    have H1 := H; rw [if_neg (show ¬ (false = true) by decide)] at H1
    clear H
    have H := H1
    clear H1
    replace H := Option.bind_eq_some_iff.mp H
    obtain ⟨⟨t386, t389⟩, A180, H⟩ := H
    try dsimp only at H
    have A18 := A_ A180
    clear A180
    by_cases c19 : t389 = 0
    ·
     rw [if_pos c19] at H
     have c19b0 := beq_iff_eq.mpr c19
     have c19b1 := bne_eq_false_iff_eq.mpr c19
     clear c19
     replace H := Option.bind_eq_some_iff.mp H
     obtain ⟨t390, A200, H⟩ := H
     try dsimp only at H
     have A20 := A_ A200
     clear A200
     obtain ⟨y393, hy393⟩ : ∃ y_ : List ByteArray, y_ = (([a2_0] : List ByteArray)) := ⟨_, rfl⟩
     replace H : (if t390.length + y393.length < 8796093022208 then (impl_KeptAfter.l0 kj3 t386 (t390 ++ y393) (([] : List (S124))) l1 (l1.length : Int) 0) else (none)) = some (r1, r2, r3) := by first | (rw [hy393]; with_reducible exact H) | (have H2_ := (Option.bind_some _ _).symm.trans H; rw [hy393]; with_reducible exact H2_) | (have H2_ := (Option.bind_some _ _).symm.trans H; with_reducible exact H2_) | with_reducible exact H | (rw [hy393]; exact H) | exact H
     have Ny393 := A_ hy393
     clear hy393
     by_cases c21 : t390.length + y393.length < 8796093022208
     ·
      rw [if_pos c21] at H
      have LMc21 := A_ c21
      clear c21
      obtain ⟨y396, hy396⟩ : ∃ y_ : List ByteArray, y_ = (t390 ++ y393) := ⟨_, rfl⟩
      replace H : (impl_KeptAfter.l0 kj3 t386 y396 (([] : List (S124))) l1 (l1.length : Int) 0) = some (r1, r2, r3) := by first | (rw [hy396]; with_reducible exact H) | (have H2_ := (Option.bind_some _ _).symm.trans H; rw [hy396]; with_reducible exact H2_) | (have H2_ := (Option.bind_some _ _).symm.trans H; with_reducible exact H2_) | with_reducible exact H | (rw [hy396]; exact H) | exact H
      have Ny396 := A_ hy396
      clear hy396
      obtain ⟨y399, hy399⟩ : ∃ y_ : List (S124), y_ = (([] : List (S124))) := ⟨_, rfl⟩
      replace H : (impl_KeptAfter.l0 kj3 t386 y396 y399 l1 (l1.length : Int) 0) = some (r1, r2, r3) := by first | (rw [hy399]; with_reducible exact H) | (have H2_ := (Option.bind_some _ _).symm.trans H; rw [hy399]; with_reducible exact H2_) | (have H2_ := (Option.bind_some _ _).symm.trans H; with_reducible exact H2_) | with_reducible exact H | (rw [hy399]; exact H) | exact H
      have Ny399 := A_ hy399
      clear hy399
      have H' := A_ H
      clear H
      obtain ⟨hcz22_0, hcz22_1, hcz22_2, hcz22_3, hcz22_4, hcz22_5⟩ := bc6 BK382.out
      obtain ⟨hfz22_0, hfz22_1, hfz22_2, hfz22_3, hfz22_4, hfz22_5⟩ := bf6 BK382.out
      try go_wp2_with (first | ((with_reducible refine gate_callee (f := 32) rfl ?_); refine goesL_ (some 32) rfl rfl Try.func32 (by kernel_rfl) rfl #[.slice A0 l0.length c0, .agg #[.string a2_0, .int .i8 a2_1, .string a2_2, .string a2_3, .int .i64 a2_4, .int .i64 a2_5]] rfl z11_5_ ?_; (with_reducible refine (impl_WriteLine.calls kj3 _ _ l0 a2_0 a2_1 a2_2 a2_3 a2_4 a2_5 t386 t389 _ ?side1 ?side2 A18.out).mono ?_); (case side1 => have hx_ := (Kd.C_below HR0.out HB.out); exact kc_); (case side2 => exact HC0.out); rintro e w23 ⟨v387, rfl, ho0, hb⟩; refine ⟨_, rfl, ?_⟩; have _ := A_ (Kd.R_lower (Kd.R_newB ho0 (g := gb382) (o := .cells #[.string a2_0, .int .i8 a2_1, .string a2_2, .string a2_3, .int .i64 a2_4, .int .i64 a2_5] 45 (0, 0)) z11_2_) (below_size z11_1_)); have _ := A_ (blk_below (g := gb382) (o := .cells #[.string a2_0, .int .i8 a2_1, .string a2_2, .string a2_3, .int .i64 a2_4, .int .i64 a2_5] 45 (0, 0)) z11_2_ hb); have _ := A_ (below_step z11_1_ hb); clear BK382 HB; rename_i HO388 BK382 HB; (try clear hb); (try clear ho0); obtain ⟨Ao24, co24, eo24⟩ := Kd.R_slice HO388.out; subst eo24))
      have _ := A_ (Kd.R_drew HO388.out)
      have _ := A_ (blk_drew BK382.out)
      have _ := A_ (below_drew1 HB.out)
      clear HO388 BK382 HB
      rename_i HO388 BK382 HB
      refine start_ (n := 9) (S := fun w' => w'.cell? ⟨gb382, 0, none⟩ = some (.string a2_0) ∧ w'.cell? ⟨gb382, 1, none⟩ = some (.int .i8 a2_1) ∧ w'.cell? ⟨gb382, 2, none⟩ = some (.string a2_2) ∧ w'.cell? ⟨gb382, 3, none⟩ = some (.string a2_3) ∧ w'.cell? ⟨gb382, 4, none⟩ = some (.int .i64 a2_4) ∧ w'.cell? ⟨gb382, 5, none⟩ = some (.int .i64 a2_5)) (ds := []) #[false, false, false, false, false, false, false, false, false] (by kernel_rfl) rfl rfl ⟨(blk_cell BK382.out 0).trans rfl, (blk_cell BK382.out 1).trans rfl, (blk_cell BK382.out 2).trans rfl, (blk_cell BK382.out 3).trans rfl, (blk_cell BK382.out 4).trans rfl, (blk_cell BK382.out 5).trans rfl⟩ (fun hHeld => ?_); refine with_tabW impl_KeptAfter.tab6 impl_KeptAfter.bits6 (fun HT_ HW_ => ?_)
      generalize w23.drew = w25 at HO388 BK382 HB hHeld ⊢
      refine pure_ (i := 0) (N := some 38) (v := ?_) (a' := ?_) #[true, false, false, false, false, false, false, false, false] rfl rfl (any_of HT_.out (by kernel_rfl)) (fun _ _ _ h => h) (Or.inl ⟨by rfl, ?_⟩) ?_ ?_
      rotate_left
      ·
       intro w'
       go_simp
       with_reducible rfl
      rotate_left
      ·
       simp only [Act.put, sA_, sB_, sC_, i64_w, i32_w]
       rfl
      refine pure_ (i := 1) (N := some 39) (v := ?_) (a' := ?_) #[true, true, false, false, false, false, false, false, false] rfl rfl (any_of HT_.out (by kernel_rfl)) (fun _ _ _ h => h) (Or.inl ⟨by rfl, ?_⟩) ?_ ?_
      rotate_left
      ·
       intro w'
       go_simp
       with_reducible rfl
      rotate_left
      ·
       simp only [Act.put, sA_, sB_, sC_, i64_w, i32_w]
       rfl
      refine pure_ (i := 4) (N := some 42) (v := ?_) (a' := ?_) #[true, true, false, false, true, false, false, false, false] rfl rfl (any_of HT_.out (by kernel_rfl)) (fun _ _ _ h => h) (Or.inl ⟨by rfl, ?_⟩) ?_ ?_
      rotate_left
      ·
       intro w'
       go_simp
       with_reducible rfl
      rotate_left
      ·
       simp only [Act.put, sA_, sB_, sC_, i64_w, i32_w]
       rfl
      refine take_ (i := 2) (N := some 40) (v := ?_) (a' := ?_) #[true, true, true, false, true, false, false, false, false] rfl rfl (take_ofW HT_.out HW_.out (by kernel_rfl)) (fun _ _ _ h => h) (Or.inl ⟨by rfl, ?_⟩) hHeld ?_ ?_
      rotate_left
      ·
       rintro w' ⟨s0, s1, s2, s3, s4, s5⟩
       go_simp
       with_reducible rfl
      rotate_left
      ·
       simp only [Act.put, sA_, sB_, sC_, i64_w, i32_w]
       rfl
      refine take_ (i := 5) (N := some 43) (v := ?_) (a' := ?_) #[true, true, true, false, true, true, false, false, false] rfl rfl (take_ofW HT_.out HW_.out (by kernel_rfl)) (fun _ _ _ h => h) (Or.inl ⟨by rfl, ?_⟩) hHeld ?_ ?_
      rotate_left
      ·
       rintro w' ⟨s0, s1, s2, s3, s4, s5⟩
       go_simp
       with_reducible rfl
      rotate_left
      ·
       simp only [Act.put, sA_, sB_, sC_, i64_w, i32_w]
       rfl
      refine join_ (σ := Value × Value) 2 #[true, true, true, true, true, true, true, false, false] (fun s_ => [(41, s_.1), (44, s_.2)]) (fun s_ w' => (w'.cell? ⟨gb382, 0, none⟩ = some (.string a2_0) ∧ w'.cell? ⟨gb382, 1, none⟩ = some (.int .i8 a2_1) ∧ w'.cell? ⟨gb382, 2, none⟩ = some (.string a2_2) ∧ w'.cell? ⟨gb382, 3, none⟩ = some (.string a2_3) ∧ w'.cell? ⟨gb382, 4, none⟩ = some (.int .i64 a2_4) ∧ w'.cell? ⟨gb382, 5, none⟩ = some (.int .i64 a2_5)) ∧ (Kd.R k45 45 w' w.heap.size (fun k_ => k_ ≠ gb382) (.slice Ao24 t386.length co24) t386) ∧ (Kd.R Kd.string 9 w' w.heap.size (fun k_ => some k_ ≠ (s_.2 : Value).ownBlock) s_.1 t390) ∧ (Kd.R Kd.string 9 w' w.heap.size (fun k_ => some k_ ≠ (s_.1 : Value).ownBlock) s_.2 y393) ∧ (w'.heap[gb382]? = some (.cells #[.string a2_0, .int .i8 a2_1, .string a2_2, .string a2_3, .int .i64 a2_4, .int .i64 a2_5] 45 (0, 0))) ∧ (Below w.heap.size w w')) ?_ ?_
      rotate_left
      ·
       intro hCont
       refine two_ (i := 3) (j := 6) (Ni := some 41) (Nj := some 44) #[true, true, true, true, true, true, false, false, false] #[true, true, true, false, true, true, true, false, false] rfl rfl rfl rfl (two_of HT_.out (by kernel_rfl)) (by decide) (by decide) (fun K hK => ?_) (fun K hK => ?_)
       ·
        skip
        refine goes_ Try.func87 (by kernel_rfl) rfl #[.slice Ao24 t386.length co24, .string a2_0] (by rfl) rfl rfl z11_5_ ?_
        with_reducible refine (impl_usersOf.calls kj3 _ _ t386 a2_0 t390 _ ?side1 ?side2 A20.out).mono ?_
        (case side1 => have hx_ := (Kd.R_reads' HO388.out).2.2; exact kc_)
        (case side2 => exact (Kd.R_reads' HO388.out).2.1)
        rintro e w26 ⟨v391, rfl, ho0, hb⟩
        refine ⟨_, rfl, ?_⟩
        have _ := A_ (Kd.R_below z11_8_ hb)
        have _ := A_ (Kd.R_lower ho0 (below_size z11_1_))
        have _ := A_ (blk_below (g := gb382) (o := .cells #[.string a2_0, .int .i8 a2_1, .string a2_2, .string a2_3, .int .i64 a2_4, .int .i64 a2_5] 45 (0, 0)) z11_2_ hb)
        have _ := A_ (below_step z11_1_ hb)
        clear HO388 BK382 HB
        rename_i HO388 HO392 BK382 HB
        (try clear hb)
        (try clear hb2)
        (try clear hk)
        (try clear hi)
        (try clear ho0)
        refine hK.out _ _ ⟨(blk_cell BK382.out 0).trans rfl, (blk_cell BK382.out 1).trans rfl, (blk_cell BK382.out 2).trans rfl, (blk_cell BK382.out 3).trans rfl, (blk_cell BK382.out 4).trans rfl, (blk_cell BK382.out 5).trans rfl⟩ (fun hHeld => ?_)
        clear hK K
        refine norm_ (a' := ?_) ?_ ?_
        rotate_left
        ·
         show Act.put _ (some 41) _ = _
         simp only [Act.put, sA_, sB_, sC_, i64_w, i32_w]
         rfl
        refine one_ (i := 6) (N := some 44) #[true, true, true, true, true, true, true, false, false] rfl rfl (one_of HT_.out (by kernel_rfl)) (by decide) (fun K hK => ?_)
        refine Kd.R_lit_step Kd.string _ 9 ?hg (N := 44) ?hd (xs := ([a2_0] : List ByteArray)) (inner := [.string a2_0]) (ok := fun _ => True) (okp := fun _ => True) ?hr ?hp (fun _ hk => hk) trivial (Below.refl _ _) (Nat.le_refl _) (by simp) ?_; (case hd => rfl); (case hg => rfl); (case hr => first | (go_simp; done) | (go_simp; rfl)); (case hp => exact (Reps.one (show Kd.M Kd.string _ _ _ a2_0 [.string a2_0] from rfl) (Reps.none _ _)))
        intro v394 w27 ho28 hb hg_ hnew_
        clear hg_ hnew_
        (first | rw [← Ny393.out] at ho28 | (simp only [Int.reduceToNat] at ho28; rw [← Ny393.out] at ho28))
        have _ := A_ (Kd.R_below z11_8_ hb)
        have _ := A_ (Kd.R_elder' z11_14_ (Kd.R_base ho28) hb)
        have _ := A_ (Kd.R_lower (Kd.R_new' ho28 (Kd.R_lt z11_14_)) (below_size z11_1_))
        have _ := A_ (blk_below (g := gb382) (o := .cells #[.string a2_0, .int .i8 a2_1, .string a2_2, .string a2_3, .int .i64 a2_4, .int .i64 a2_5] 45 (0, 0)) z11_2_ hb)
        have _ := A_ (below_step z11_1_ hb)
        clear HO388 HO392 BK382 HB
        rename_i HO388 HO392 HO395 BK382 HB
        clear hb ho28
        refine hK.out _ _ ⟨(blk_cell BK382.out 0).trans rfl, (blk_cell BK382.out 1).trans rfl, (blk_cell BK382.out 2).trans rfl, (blk_cell BK382.out 3).trans rfl, (blk_cell BK382.out 4).trans rfl, (blk_cell BK382.out 5).trans rfl⟩ (fun hHeld => ?_)
        clear hK K
        refine norm_ (a' := ?_) ?_ ?_
        rotate_left
        ·
         show Act.put _ (some 44) _ = _
         simp only [Act.put, sA_, sB_, sC_, i64_w, i32_w]
         rfl
        exact norm_ (by simp only [putAll, Act.put, sA_, sB_, sC_]) (hCont (v391, v394) _ ⟨hHeld, z11_20_, z11_19_, z11_18_, z11_2_, z11_1_⟩)
       ·
        skip
        refine Kd.R_lit_step Kd.string _ 9 ?hg (N := 44) ?hd (xs := ([a2_0] : List ByteArray)) (inner := [.string a2_0]) (ok := fun _ => True) (okp := fun _ => True) ?hr ?hp (fun _ hk => hk) trivial (Below.refl _ _) (Nat.le_refl _) (by simp) ?_; (case hd => rfl); (case hg => rfl); (case hr => first | (go_simp; done) | (go_simp; rfl)); (case hp => exact (Reps.one (show Kd.M Kd.string _ _ _ a2_0 [.string a2_0] from rfl) (Reps.none _ _)))
        intro v394 w26 ho27 hb hg_ hnew_
        clear hg_ hnew_
        (first | rw [← Ny393.out] at ho27 | (simp only [Int.reduceToNat] at ho27; rw [← Ny393.out] at ho27))
        have _ := A_ (Kd.R_below z11_8_ hb)
        have _ := A_ (Kd.R_lower ho27 (below_size z11_1_))
        have _ := A_ (blk_below (g := gb382) (o := .cells #[.string a2_0, .int .i8 a2_1, .string a2_2, .string a2_3, .int .i64 a2_4, .int .i64 a2_5] 45 (0, 0)) z11_2_ hb)
        have _ := A_ (below_step z11_1_ hb)
        clear HO388 BK382 HB
        rename_i HO388 HO395 BK382 HB
        clear hb ho27
        refine hK.out _ _ ⟨(blk_cell BK382.out 0).trans rfl, (blk_cell BK382.out 1).trans rfl, (blk_cell BK382.out 2).trans rfl, (blk_cell BK382.out 3).trans rfl, (blk_cell BK382.out 4).trans rfl, (blk_cell BK382.out 5).trans rfl⟩ (fun hHeld => ?_)
        clear hK K
        refine norm_ (a' := ?_) ?_ ?_
        rotate_left
        ·
         show Act.put _ (some 44) _ = _
         simp only [Act.put, sA_, sB_, sC_, i64_w, i32_w]
         rfl
        refine one_ (i := 3) (N := some 41) #[true, true, true, true, true, true, true, false, false] rfl rfl (one_of HT_.out (by kernel_rfl)) (by decide) (fun K hK => ?_)
        refine goes_ Try.func87 (by kernel_rfl) rfl #[.slice Ao24 t386.length co24, .string a2_0] (by rfl) rfl rfl z11_5_ ?_
        with_reducible refine (impl_usersOf.calls kj3 _ _ t386 a2_0 t390 _ ?side1 ?side2 A20.out).mono ?_
        (case side1 => have hx_ := (Kd.R_reads' HO388.out).2.2; exact kc_)
        (case side2 => exact (Kd.R_reads' HO388.out).2.1)
        rintro e w28 ⟨v391, rfl, ho0, hb⟩
        refine ⟨_, rfl, ?_⟩
        have _ := A_ (Kd.R_below z11_8_ hb)
        have _ := A_ (Kd.R_elder' z11_13_ (Kd.R_base ho0) hb)
        have _ := A_ (Kd.R_lower (Kd.R_new' ho0 (Kd.R_lt z11_13_)) (below_size z11_1_))
        have _ := A_ (blk_below (g := gb382) (o := .cells #[.string a2_0, .int .i8 a2_1, .string a2_2, .string a2_3, .int .i64 a2_4, .int .i64 a2_5] 45 (0, 0)) z11_2_ hb)
        have _ := A_ (below_step z11_1_ hb)
        clear HO388 HO395 BK382 HB
        rename_i HO388 HO395 HO392 BK382 HB
        (try clear hb)
        (try clear hb2)
        (try clear hk)
        (try clear hi)
        (try clear ho0)
        refine hK.out _ _ ⟨(blk_cell BK382.out 0).trans rfl, (blk_cell BK382.out 1).trans rfl, (blk_cell BK382.out 2).trans rfl, (blk_cell BK382.out 3).trans rfl, (blk_cell BK382.out 4).trans rfl, (blk_cell BK382.out 5).trans rfl⟩ (fun hHeld => ?_)
        clear hK K
        refine norm_ (a' := ?_) ?_ ?_
        rotate_left
        ·
         show Act.put _ (some 41) _ = _
         simp only [Act.put, sA_, sB_, sC_, i64_w, i32_w]
         rfl
        exact norm_ (by simp only [putAll, Act.put, sA_, sB_, sC_]) (hCont (v391, v394) _ ⟨hHeld, z11_20_, z11_19_, z11_18_, z11_2_, z11_1_⟩)
      rintro ⟨v391, v394⟩ w29 ⟨hS_, h0_, h1_, h2_, h3_, h4_⟩
      have n0_ : Aside0 (Kd.R k45 45 w29 w.heap.size (fun k_ => k_ ≠ gb382) (.slice Ao24 t386.length co24) t386) := ⟨h0_⟩
      have n1_ : Aside0 (Kd.R Kd.string 9 w29 w.heap.size (fun k_ => some k_ ≠ (v394 : Value).ownBlock) v391 t390) := ⟨h1_⟩
      have n2_ : Aside0 (Kd.R Kd.string 9 w29 w.heap.size (fun k_ => some k_ ≠ (v391 : Value).ownBlock) v394 y393) := ⟨h2_⟩
      have n3_ : Aside0 (w29.heap[gb382]? = some (.cells #[.string a2_0, .int .i8 a2_1, .string a2_2, .string a2_3, .int .i64 a2_4, .int .i64 a2_5] 45 (0, 0))) := ⟨h3_⟩
      have n4_ : Aside0 (Below w.heap.size w w29) := ⟨h4_⟩
      clear HO388
      clear BK382
      clear HB
      clear h0_ h1_ h2_ h3_ h4_
      have HO388 := n0_
      have HO392 := n1_
      have HO395 := n2_
      have BK382 := n3_
      have HB := n4_
      clear n0_ n1_ n2_ n3_ n4_
      have hHeld : w29.cell? ⟨gb382, 0, none⟩ = some (.string a2_0) ∧ w29.cell? ⟨gb382, 1, none⟩ = some (.int .i8 a2_1) ∧ w29.cell? ⟨gb382, 2, none⟩ = some (.string a2_2) ∧ w29.cell? ⟨gb382, 3, none⟩ = some (.string a2_3) ∧ w29.cell? ⟨gb382, 4, none⟩ = some (.int .i64 a2_4) ∧ w29.cell? ⟨gb382, 5, none⟩ = some (.int .i64 a2_5) := hS_
      obtain ⟨Ao31, co31, eo31⟩ := Kd.R_slice HO395.out
      (first | subst eo31 | (injection eo31 with f1_ f2_ f3_; have f4_ := f1_.symm; have f5_ := f3_.symm; clear f1_ f2_ f3_; subst f4_; subst f5_))
      refine norm_ (a' := ?_) ?_ ?_
      rotate_left
      ·
       simp only [putAll, Act.put, sA_, sB_, sC_]
       rfl
      refine one_ (i := 7) (N := some 45) #[true, true, true, true, true, true, true, true, false] rfl rfl (one_of HT_.out (by kernel_rfl)) (by decide) (fun K hK => ?_)
      refine Kd.R_append_rows_step Kd.string (w0 := w) w.heap.size (by rfl) (.tmp 41) (.tmp 44) 48 9 (.string ⟨#[]⟩) 16 rfl Try.underlying48 info9 rfl (by decide) (by omega) v391 t390 y393 _ _ _ (fun k_ => some k_ ≠ (.slice Ao31 y393.length co31 : Value).ownBlock) (fun _ => False) rfl rfl ?aO ?aR (fun _ _ h => h) (fun _ h => h.elim) ?aF ?aB ?aS ?aL ?_
      (case aR => have hx_ := (Kd.R_reads' HO395.out).2.2; exact kc_)
      (case aB => exact z11_1_)
      (case aF => exact (fun k_ hk => Kd.fresh' (Kd.R_lt z11_13_) k_ hk))
      (case aO => exact z11_14_)
      (case aS => exact (below_size z11_1_))
      (case aL => have := LMc21.out; omega)
      intro v397 w30 ho hb hg hat
      rw [← Ny396.out] at ho
      have _ := A_ (blk_grown (g := gb382) (o := .cells #[.string a2_0, .int .i8 a2_1, .string a2_2, .string a2_3, .int .i64 a2_4, .int .i64 a2_5] 45 (0, 0)) z11_2_ hg (Kd.R_ne HO392.out BK382.out (by decide)))
      have _ := A_ (Kd.R_over' z11_8_ (Kd.R_typed z11_14_) (by decide) hg)
      have _ := A_ (Kd.R_after (ok := (fun _ => True)) (by (with_reducible repeat (first | apply Kd.R_alloc | apply Kd.R_drewN | apply Kd.R_drew)); exact Kd.R_mono HO395.out (fun _ hk => ⟨trivial, hk⟩)) hg hat)
      have _ := A_ (hb)
      have _ := A_ (ho)
      clear BK382 HO388 HO395 HB HO392
      rename_i BK382 HO388 HO395 HB HO398
      clear ho hb hg hat
      refine hK.out _ _ ⟨(blk_cell BK382.out 0).trans rfl, (blk_cell BK382.out 1).trans rfl, (blk_cell BK382.out 2).trans rfl, (blk_cell BK382.out 3).trans rfl, (blk_cell BK382.out 4).trans rfl, (blk_cell BK382.out 5).trans rfl⟩ (fun hHeld => ?_)
      clear hK K
      refine norm_ (a' := ?_) ?_ ?_
      rotate_left
      ·
       show Act.put _ (some 45) _ = _
       simp only [Act.put, sA_, sB_, sC_, i64_w, i32_w]
       rfl
      refine pure_ (i := 8) (N := some 11) (v := ?_) (a' := ?_) #[true, true, true, true, true, true, true, true, true] rfl rfl (any_of HT_.out (by kernel_rfl)) (fun _ _ _ h => h) (Or.inl ⟨by rfl, ?_⟩) ?_ ?_
      rotate_left
      ·
       intro w'
       go_simp
       with_reducible rfl
      rotate_left
      ·
       simp only [Act.put, sA_, sB_, sC_, i64_w, i32_w]
       rfl
      refine done_ (done_of HT_.out (by kernel_rfl)) ?_
      try go_wp2_with (first | ((with_reducible refine gate_dst (N := 46) rfl ?_); refine Kd.R_lit k124 _ 124 ?hg (N := 46) ?hd (xs := ([] : List (S124))) (inner := []) (ok := fun _ => True) (okp := fun _ => True) ?hr ?hp (fun _ hk => hk) trivial (Below.refl _ _) (Nat.le_refl _) (by simp) ?_; (case hd => rfl); (case hg => rfl); (case hr => first | (go_simp; done) | (go_simp; rfl)); (case hp => exact (Reps.none _ _)); intro v400 w32 ho33 hb hg_ hnew_; clear hg_ hnew_; (first | rw [← Ny399.out] at ho33 | (simp only [Int.reduceToNat] at ho33; rw [← Ny399.out] at ho33)); have _ := A_ (Kd.R_below z11_8_ hb); have _ := A_ (Kd.R_below z11_13_ hb); have _ := A_ (Kd.R_below (by (with_reducible repeat (first | apply Kd.R_alloc | apply Kd.R_drewN | apply Kd.R_drew)); exact HO398.out) hb); have _ := A_ (Kd.R_lower ho33 (below_size z11_1_)); have _ := A_ (blk_below (g := gb382) (o := .cells #[.string a2_0, .int .i8 a2_1, .string a2_2, .string a2_3, .int .i64 a2_4, .int .i64 a2_5] 45 (0, 0)) z11_2_ hb); have _ := A_ (below_step z11_1_ hb); clear HO388 HO395 HO398 BK382 HB; rename_i HO388 HO395 HO398 HO401 BK382 HB; clear hb ho33))
      go_loopg [12, 49] kj3 (fun kq v12 v49 w' => ∃ (x12_2 : List (S124)) (x49_2 : Int), v49 = .int .i64 x49_2 ∧ Aside0 (impl_KeptAfter.l0 kq t386 y396 x12_2 l1 (l1.length : Int) x49_2 = some (r1, r2, r3)) ∧ Aside0 (kq ≤ kj3) ∧ Aside0 (Kd.R k45 45 w' w.heap.size (fun k_ => k_ ≠ gb382) (.slice Ao24 t386.length co24) t386) ∧ Aside0 (Kd.R Kd.string 9 w' w.heap.size (fun _ => True) v397 y396) ∧ Aside0 (Kd.R k124 124 w' w.heap.size (fun _ => True) v12 x12_2) ∧ Aside0 (w'.heap[gb382]? = some (.cells #[.string a2_0, .int .i8 a2_1, .string a2_2, .string a2_3, .int .i64 a2_4, .int .i64 a2_5] 45 (0, 0))) ∧ Aside0 (Below w.heap.size w w'))
      case atStart => exact ⟨(y399), (0), z11_11_, H', ⟨Nat.le_refl _⟩, ⟨z11_8_⟩, ⟨(by (with_reducible repeat (first | apply Kd.R_alloc | apply Kd.R_drewN | apply Kd.R_drew)); exact Kd.R_mono HO398.out (fun _ hk => trivial))⟩, ⟨(by (with_reducible repeat (first | apply Kd.R_alloc | apply Kd.R_drewN | apply Kd.R_drew)); exact HO401.out)⟩, ⟨z11_2_⟩, ⟨z11_1_⟩⟩
      case round =>
       clear H'
       try clear c1
       try clear c2
       try clear p2
       try clear c3
       try clear c5
       try clear c7
       try clear c8
       try clear c9
       try clear c17
       try clear c19
       try clear c19b0
       try clear c19b1
       try clear c20
       try clear c21
       try clear c32
       try clear hcz22_0
       try clear hcz22_1
       try clear hcz22_2
       try clear hcz22_3
       try clear hcz22_4
       try clear hcz22_5
       try clear hfz22_0
       try clear hfz22_1
       try clear hfz22_2
       try clear hfz22_3
       try clear hfz22_4
       try clear hfz22_5
       try clear p2
       obtain ⟨x12_2, x49_2, rfl, HA, HK2, HO_9, HO_11, HO_12, BK382, HB⟩ := hrel
       cases gk with
       | zero => exact absurd HA.out (by simp [impl_KeptAfter.l0])
       | succ k2 =>
        have H := HA.out
        clear HA
        simp only [impl_KeptAfter.l0] at H
        by_cases c34 : x49_2 < (l1.length : Int)
        ·
         rw [if_pos c34] at H
         have c34b0 := decide_eq_true c34
         clear c34
         by_cases c35 : 0 ≤ x49_2
         ·
          rw [if_pos c35] at H
          have c35b0 := decide_eq_true c35
          clear c35
          by_cases c36 : x49_2 < (l1.length : Int)
          ·
           rw [if_pos c36] at H
           have c36b0 := decide_eq_true c36
           clear c36
           replace H := Option.bind_eq_some_iff.mp H
           obtain ⟨t404, A370, H⟩ := H
           try dsimp only at H
           have A37 := A_ A370
           clear A370
           by_cases c38 : t404 = true
           ·
            subst c38
            have H1 := H; rw [if_pos rfl] at H1
            clear H
            have H := H1
            clear H1
            have H' := A_ H
            clear H
            have p402 : 0 ≤ (x49_2 : Int) := of_decide_eq_true (by assumption)
            have q402 : x49_2 < (l1.length : Int) := of_decide_eq_true (by assumption)
            obtain ⟨ad402, e402, hx402_0, hx402_1, hx402_2, hx402_3, hx402_4, hx402_5, hx402_6, hx402_7, hx402_8⟩ := at_T124 HR1.out x49_2 p402 q402
            cases e402
            replace hx402_0 := cel HB.out hx402_0
            replace hx402_1 := cel HB.out hx402_1
            replace hx402_2 := cel HB.out hx402_2
            replace hx402_3 := cel HB.out hx402_3
            replace hx402_4 := cel HB.out hx402_4
            replace hx402_5 := cel HB.out hx402_5
            replace hx402_6 := cel HB.out hx402_6
            replace hx402_7 := cel HB.out hx402_7
            replace hx402_8 := cel HB.out hx402_8
            replace p402 := eq_true p402
            replace q402 := eq_true q402
            go_wp2_with (first | ((with_reducible refine gate_dst (N := 14) rfl ?_); refine box_event ?hg (N := 14) ?hd (cs := #[.string (⟨#[]⟩ : ByteArray), .int .i64 0, .bool false, .int .u32 0, .int .u32 0, .int .u32 0, .int .u32 0, .int .u32 0, .int .u32 0]) (t := 124) ?hr ?_; (case hd => rfl); (case hg => rfl); (case hr => first | (go_simp; done) | (go_simp; rfl)); intro gb403 hg w39 hbox hb; have _ := A_ (Kd.R_below z11_15_ hb); have _ := A_ (Kd.R_below z11_12_ hb); have _ := A_ (Kd.R_below (Kd.R_elderB z11_10_ gb403 (Nat.le_of_eq hg.symm)) hb); have _ := A_ (blk_below (g := gb382) (o := .cells #[.string a2_0, .int .i8 a2_1, .string a2_2, .string a2_3, .int .i64 a2_4, .int .i64 a2_5] 45 (0, 0)) z11_2_ hb); have _ := A_ (below_step z11_1_ hb); have _ := A_ (hbox); have _ := A_ ((by rw [hg]; exact (below_size z11_1_) : w.heap.size ≤ gb403)); have _ := A_ ((by rw [hg]; exact (below_size z11_1_) : w.heap.size ≤ gb403)); have _ := A_ ((by rw [hg]; exact Nat.ne_of_lt (blk_lt (g := gb382) (o := .cells #[.string a2_0, .int .i8 a2_1, .string a2_2, .string a2_3, .int .i64 a2_4, .int .i64 a2_5] 45 (0, 0)) z11_2_) : gb382 ≠ gb403)); have _ := A_ ((by rw [hg]; exact Nat.ne_of_gt (blk_lt (g := gb382) (o := .cells #[.string a2_0, .int .i8 a2_1, .string a2_2, .string a2_3, .int .i64 a2_4, .int .i64 a2_5] 45 (0, 0)) z11_2_) : gb403 ≠ gb382)); clear HO_9 HO_11 HO_12 BK382 HB; rename_i HO_9 HO_11 HO_12 BK382 HB BK403 GW403 GE403 NB382_403 NB403_382; clear hb hbox hg; have hnb40 := NB403_382.out; have hnc40 := NB382_403.out; obtain ⟨hcz41_0, hcz41_1, hcz41_2, hcz41_3, hcz41_4, hcz41_5, hcz41_6, hcz41_7, hcz41_8⟩ := bc9 BK403.out; obtain ⟨hfz41_0, hfz41_1, hfz41_2, hfz41_3, hfz41_4, hfz41_5, hfz41_6, hfz41_7, hfz41_8⟩ := bf9 BK403.out; obtain ⟨Ao42, co42, eo42⟩ := Kd.R_slice HO_11.out; subst eo42) | ((with_reducible refine gate_callee (f := 101) rfl ?_); refine goesL_ (some 56) rfl rfl Try.func101 (by kernel_rfl) rfl #[.slice Ao42 y396.length co42, .string ((rd_T124 l1 x49_2).f0)] rfl z11_5_ ?_; (with_reducible refine (slices_Contains_string_string.calls k2 _ _ y396 ((rd_T124 l1 x49_2).f0) true _ ?side1 ?side2 A37.out).mono ?_); (case side1 => refine (Kd.R_reads' (e := 9) (base := w.heap.size) (ok := fun k_ => True) (n := y396.length) (c := co42) ?_).2.2; exact z11_3_); (case side2 => exact (Kd.R_reads' HO_11.out).2.1); rintro e w' ⟨rfl, ⟨nd, rfl⟩⟩; refine ⟨_, rfl, ?_⟩))
            go_roundg k2
            case measure => have := HJ3.out; have := HK2.out; omega
            case rel => exact ⟨(x12_2), (wrap64 (x49_2 + 1)), z11_11_, H', ⟨(by have := HJ3.out; have := HK2.out; omega)⟩, ⟨(by (with_reducible repeat (first | apply Kd.R_alloc | apply Kd.R_drewN | apply Kd.R_drew)); exact Kd.R_mono (Kd.R_far (p := ⟨gb403, 8, none⟩) (Kd.R_far (p := ⟨gb403, 7, none⟩) (Kd.R_far (p := ⟨gb403, 6, none⟩) (Kd.R_far (p := ⟨gb403, 5, none⟩) (Kd.R_far (p := ⟨gb403, 4, none⟩) (Kd.R_far (p := ⟨gb403, 3, none⟩) (Kd.R_far (p := ⟨gb403, 2, none⟩) (Kd.R_far (p := ⟨gb403, 1, none⟩) (Kd.R_far (p := ⟨gb403, 0, none⟩) (Kd.R_types HO_9.out BK403.out (by decide)) (fun _ hk => hk.2) (.string ((rd_T124 l1 x49_2).f0))) (fun _ hk => hk.2) (.int .i64 ((rd_T124 l1 x49_2).f1))) (fun _ hk => hk.2) (.bool ((rd_T124 l1 x49_2).f2.f0))) (fun _ hk => hk.2) (.int .u32 ((rd_T124 l1 x49_2).f2.f1.f0))) (fun _ hk => hk.2) (.int .u32 ((rd_T124 l1 x49_2).f2.f1.f1))) (fun _ hk => hk.2) (.int .u32 ((rd_T124 l1 x49_2).f2.f1.f2))) (fun _ hk => hk.2) (.int .u32 ((rd_T124 l1 x49_2).f2.f1.f3))) (fun _ hk => hk.2) (.int .u32 ((rd_T124 l1 x49_2).f2.f1.f4))) (fun _ hk => hk.2) (.int .u32 ((rd_T124 l1 x49_2).f2.f1.f5))) (fun _ hk => hk.1))⟩, ⟨(by (with_reducible repeat (first | apply Kd.R_alloc | apply Kd.R_drewN | apply Kd.R_drew)); exact Kd.R_mono (Kd.R_far (p := ⟨gb403, 8, none⟩) (Kd.R_far (p := ⟨gb403, 7, none⟩) (Kd.R_far (p := ⟨gb403, 6, none⟩) (Kd.R_far (p := ⟨gb403, 5, none⟩) (Kd.R_far (p := ⟨gb403, 4, none⟩) (Kd.R_far (p := ⟨gb403, 3, none⟩) (Kd.R_far (p := ⟨gb403, 2, none⟩) (Kd.R_far (p := ⟨gb403, 1, none⟩) (Kd.R_far (p := ⟨gb403, 0, none⟩) (Kd.R_types HO_11.out BK403.out (by decide)) (fun _ hk => hk.2) (.string ((rd_T124 l1 x49_2).f0))) (fun _ hk => hk.2) (.int .i64 ((rd_T124 l1 x49_2).f1))) (fun _ hk => hk.2) (.bool ((rd_T124 l1 x49_2).f2.f0))) (fun _ hk => hk.2) (.int .u32 ((rd_T124 l1 x49_2).f2.f1.f0))) (fun _ hk => hk.2) (.int .u32 ((rd_T124 l1 x49_2).f2.f1.f1))) (fun _ hk => hk.2) (.int .u32 ((rd_T124 l1 x49_2).f2.f1.f2))) (fun _ hk => hk.2) (.int .u32 ((rd_T124 l1 x49_2).f2.f1.f3))) (fun _ hk => hk.2) (.int .u32 ((rd_T124 l1 x49_2).f2.f1.f4))) (fun _ hk => hk.2) (.int .u32 ((rd_T124 l1 x49_2).f2.f1.f5))) (fun _ hk => trivial))⟩, ⟨(by (with_reducible repeat (first | apply Kd.R_alloc | apply Kd.R_drewN | apply Kd.R_drew)); exact Kd.R_mono (Kd.R_far (p := ⟨gb403, 8, none⟩) (Kd.R_far (p := ⟨gb403, 7, none⟩) (Kd.R_far (p := ⟨gb403, 6, none⟩) (Kd.R_far (p := ⟨gb403, 5, none⟩) (Kd.R_far (p := ⟨gb403, 4, none⟩) (Kd.R_far (p := ⟨gb403, 3, none⟩) (Kd.R_far (p := ⟨gb403, 2, none⟩) (Kd.R_far (p := ⟨gb403, 1, none⟩) (Kd.R_far (p := ⟨gb403, 0, none⟩) (Kd.R_mono HO_12.out (fun k_ hk => (⟨hk, hk.2⟩ : _ ∧ k_ ≠ gb403))) (fun _ hk => hk.2) (.string ((rd_T124 l1 x49_2).f0))) (fun _ hk => hk.2) (.int .i64 ((rd_T124 l1 x49_2).f1))) (fun _ hk => hk.2) (.bool ((rd_T124 l1 x49_2).f2.f0))) (fun _ hk => hk.2) (.int .u32 ((rd_T124 l1 x49_2).f2.f1.f0))) (fun _ hk => hk.2) (.int .u32 ((rd_T124 l1 x49_2).f2.f1.f1))) (fun _ hk => hk.2) (.int .u32 ((rd_T124 l1 x49_2).f2.f1.f2))) (fun _ hk => hk.2) (.int .u32 ((rd_T124 l1 x49_2).f2.f1.f3))) (fun _ hk => hk.2) (.int .u32 ((rd_T124 l1 x49_2).f2.f1.f4))) (fun _ hk => hk.2) (.int .u32 ((rd_T124 l1 x49_2).f2.f1.f5))) (fun _ hk => trivial))⟩, ⟨z11_4_⟩, ⟨z11_7_⟩⟩
           ·
            replace c38 := Bool.eq_false_iff.mpr c38
            subst c38
            have H1 := H; rw [if_neg (show ¬ (false = true) by decide)] at H1
            clear H
            have H := H1
            clear H1
            obtain ⟨y405, hy405⟩ : ∃ y_ : List (S124), y_ = (([(⟨(rd_T124 l1 x49_2).f0, (rd_T124 l1 x49_2).f1, (⟨(rd_T124 l1 x49_2).f2.f0, (⟨(rd_T124 l1 x49_2).f2.f1.f0, (rd_T124 l1 x49_2).f2.f1.f1, (rd_T124 l1 x49_2).f2.f1.f2, (rd_T124 l1 x49_2).f2.f1.f3, (rd_T124 l1 x49_2).f2.f1.f4, (rd_T124 l1 x49_2).f2.f1.f5⟩ : S116)⟩ : S122)⟩ : S124)] : List (S124))) := ⟨_, rfl⟩
            replace H : (if x12_2.length + y405.length < 2513169434916 then (impl_KeptAfter.l0 k2 t386 y396 (x12_2 ++ y405) l1 (l1.length : Int) (wrap64 (x49_2 + 1))) else (none)) = some (r1, r2, r3) := by first | (rw [hy405]; with_reducible exact H) | (have H2_ := (Option.bind_some _ _).symm.trans H; rw [hy405]; with_reducible exact H2_) | (have H2_ := (Option.bind_some _ _).symm.trans H; with_reducible exact H2_) | with_reducible exact H | (rw [hy405]; exact H) | exact H
            have Ny405 := A_ hy405
            clear hy405
            by_cases c43 : x12_2.length + y405.length < 2513169434916
            ·
             rw [if_pos c43] at H
             have LMc43 := A_ c43
             clear c43
             obtain ⟨y408, hy408⟩ : ∃ y_ : List (S124), y_ = (x12_2 ++ y405) := ⟨_, rfl⟩
             replace H : (impl_KeptAfter.l0 k2 t386 y396 y408 l1 (l1.length : Int) (wrap64 (x49_2 + 1))) = some (r1, r2, r3) := by first | (rw [hy408]; with_reducible exact H) | (have H2_ := (Option.bind_some _ _).symm.trans H; rw [hy408]; with_reducible exact H2_) | (have H2_ := (Option.bind_some _ _).symm.trans H; with_reducible exact H2_) | with_reducible exact H | (rw [hy408]; exact H) | exact H
             have Ny408 := A_ hy408
             clear hy408
             have H' := A_ H
             clear H
             have p402 : 0 ≤ (x49_2 : Int) := of_decide_eq_true (by assumption)
             have q402 : x49_2 < (l1.length : Int) := of_decide_eq_true (by assumption)
             obtain ⟨ad402, e402, hx402_0, hx402_1, hx402_2, hx402_3, hx402_4, hx402_5, hx402_6, hx402_7, hx402_8⟩ := at_T124 HR1.out x49_2 p402 q402
             cases e402
             replace hx402_0 := cel HB.out hx402_0
             replace hx402_1 := cel HB.out hx402_1
             replace hx402_2 := cel HB.out hx402_2
             replace hx402_3 := cel HB.out hx402_3
             replace hx402_4 := cel HB.out hx402_4
             replace hx402_5 := cel HB.out hx402_5
             replace hx402_6 := cel HB.out hx402_6
             replace hx402_7 := cel HB.out hx402_7
             replace hx402_8 := cel HB.out hx402_8
             replace p402 := eq_true p402
             replace q402 := eq_true q402
             go_wp2_with (first | ((with_reducible refine gate_dst (N := 14) rfl ?_); refine box_event ?hg (N := 14) ?hd (cs := #[.string (⟨#[]⟩ : ByteArray), .int .i64 0, .bool false, .int .u32 0, .int .u32 0, .int .u32 0, .int .u32 0, .int .u32 0, .int .u32 0]) (t := 124) ?hr ?_; (case hd => rfl); (case hg => rfl); (case hr => first | (go_simp; done) | (go_simp; rfl)); intro gb403 hg w44 hbox hb; have _ := A_ (Kd.R_below z11_15_ hb); have _ := A_ (Kd.R_below z11_12_ hb); have _ := A_ (Kd.R_below (Kd.R_elderB z11_10_ gb403 (Nat.le_of_eq hg.symm)) hb); have _ := A_ (blk_below (g := gb382) (o := .cells #[.string a2_0, .int .i8 a2_1, .string a2_2, .string a2_3, .int .i64 a2_4, .int .i64 a2_5] 45 (0, 0)) z11_2_ hb); have _ := A_ (below_step z11_1_ hb); have _ := A_ (hbox); have _ := A_ ((by rw [hg]; exact (below_size z11_1_) : w.heap.size ≤ gb403)); have _ := A_ ((by rw [hg]; exact (below_size z11_1_) : w.heap.size ≤ gb403)); have _ := A_ ((by rw [hg]; exact Nat.ne_of_lt (blk_lt (g := gb382) (o := .cells #[.string a2_0, .int .i8 a2_1, .string a2_2, .string a2_3, .int .i64 a2_4, .int .i64 a2_5] 45 (0, 0)) z11_2_) : gb382 ≠ gb403)); have _ := A_ ((by rw [hg]; exact Nat.ne_of_gt (blk_lt (g := gb382) (o := .cells #[.string a2_0, .int .i8 a2_1, .string a2_2, .string a2_3, .int .i64 a2_4, .int .i64 a2_5] 45 (0, 0)) z11_2_) : gb403 ≠ gb382)); clear HO_9 HO_11 HO_12 BK382 HB; rename_i HO_9 HO_11 HO_12 BK382 HB BK403 GW403 GE403 NB382_403 NB403_382; clear hb hbox hg; have hnb45 := NB403_382.out; have hnc45 := NB382_403.out; obtain ⟨hcz46_0, hcz46_1, hcz46_2, hcz46_3, hcz46_4, hcz46_5, hcz46_6, hcz46_7, hcz46_8⟩ := bc9 BK403.out; obtain ⟨hfz46_0, hfz46_1, hfz46_2, hfz46_3, hfz46_4, hfz46_5, hfz46_6, hfz46_7, hfz46_8⟩ := bf9 BK403.out; obtain ⟨Ao47, co47, eo47⟩ := Kd.R_slice HO_11.out; subst eo47) | ((with_reducible refine gate_callee (f := 101) rfl ?_); refine goesL_ (some 56) rfl rfl Try.func101 (by kernel_rfl) rfl #[.slice Ao47 y396.length co47, .string ((rd_T124 l1 x49_2).f0)] rfl z11_5_ ?_; (with_reducible refine (slices_Contains_string_string.calls k2 _ _ y396 ((rd_T124 l1 x49_2).f0) false _ ?side1 ?side2 A37.out).mono ?_); (case side1 => refine (Kd.R_reads' (e := 9) (base := w.heap.size) (ok := fun k_ => True) (n := y396.length) (c := co47) ?_).2.2; exact z11_3_); (case side2 => exact (Kd.R_reads' HO_11.out).2.1); rintro e w' ⟨rfl, ⟨nd, rfl⟩⟩; refine ⟨_, rfl, ?_⟩) | ((with_reducible refine gate_dst (N := 60) rfl ?_); refine Kd.R_lit k124 _ 124 ?hg (N := 60) ?hd (xs := ([(⟨(rd_T124 l1 x49_2).f0, (rd_T124 l1 x49_2).f1, (⟨(rd_T124 l1 x49_2).f2.f0, (⟨(rd_T124 l1 x49_2).f2.f1.f0, (rd_T124 l1 x49_2).f2.f1.f1, (rd_T124 l1 x49_2).f2.f1.f2, (rd_T124 l1 x49_2).f2.f1.f3, (rd_T124 l1 x49_2).f2.f1.f4, (rd_T124 l1 x49_2).f2.f1.f5⟩ : S116)⟩ : S122)⟩ : S124)] : List (S124))) (inner := [.string ((rd_T124 l1 x49_2).f0), .int .i64 ((rd_T124 l1 x49_2).f1), .bool ((rd_T124 l1 x49_2).f2.f0), .int .u32 ((rd_T124 l1 x49_2).f2.f1.f0), .int .u32 ((rd_T124 l1 x49_2).f2.f1.f1), .int .u32 ((rd_T124 l1 x49_2).f2.f1.f2), .int .u32 ((rd_T124 l1 x49_2).f2.f1.f3), .int .u32 ((rd_T124 l1 x49_2).f2.f1.f4), .int .u32 ((rd_T124 l1 x49_2).f2.f1.f5)]) (ok := fun _ => True) (okp := fun _ => True) ?hr ?hp (fun _ hk => hk) trivial (Below.refl _ _) (Nat.le_refl _) (by simp) ?_; (case hd => rfl); (case hg => rfl); (case hr => first | (go_simp; done) | (go_simp; rfl)); (case hp => exact (Reps.c9 (show Kd.M k124 _ _ _ (⟨(rd_T124 l1 x49_2).f0, (rd_T124 l1 x49_2).f1, (⟨(rd_T124 l1 x49_2).f2.f0, (⟨(rd_T124 l1 x49_2).f2.f1.f0, (rd_T124 l1 x49_2).f2.f1.f1, (rd_T124 l1 x49_2).f2.f1.f2, (rd_T124 l1 x49_2).f2.f1.f3, (rd_T124 l1 x49_2).f2.f1.f4, (rd_T124 l1 x49_2).f2.f1.f5⟩ : S116)⟩ : S122)⟩ : S124) [.string ((rd_T124 l1 x49_2).f0), .int .i64 ((rd_T124 l1 x49_2).f1), .bool ((rd_T124 l1 x49_2).f2.f0), .int .u32 ((rd_T124 l1 x49_2).f2.f1.f0), .int .u32 ((rd_T124 l1 x49_2).f2.f1.f1), .int .u32 ((rd_T124 l1 x49_2).f2.f1.f2), .int .u32 ((rd_T124 l1 x49_2).f2.f1.f3), .int .u32 ((rd_T124 l1 x49_2).f2.f1.f4), .int .u32 ((rd_T124 l1 x49_2).f2.f1.f5)] from (k124_mkM _ _ _ (⟨(rd_T124 l1 x49_2).f0, (rd_T124 l1 x49_2).f1, (⟨(rd_T124 l1 x49_2).f2.f0, (⟨(rd_T124 l1 x49_2).f2.f1.f0, (rd_T124 l1 x49_2).f2.f1.f1, (rd_T124 l1 x49_2).f2.f1.f2, (rd_T124 l1 x49_2).f2.f1.f3, (rd_T124 l1 x49_2).f2.f1.f4, (rd_T124 l1 x49_2).f2.f1.f5⟩ : S116)⟩ : S122)⟩ : S124) )) (Reps.none _ _))); intro v406 w48 ho49 hb hg_ hnew_; clear hg_ hnew_; (first | rw [← Ny405.out] at ho49 | (simp only [Int.reduceToNat] at ho49; rw [← Ny405.out] at ho49)); have _ := A_ (Kd.R_below (by (with_reducible repeat (first | apply Kd.R_alloc | apply Kd.R_drewN | apply Kd.R_drew)); exact (Kd.R_mono (Kd.R_far (p := ⟨gb403, 8, none⟩) (Kd.R_far (p := ⟨gb403, 7, none⟩) (Kd.R_far (p := ⟨gb403, 6, none⟩) (Kd.R_far (p := ⟨gb403, 5, none⟩) (Kd.R_far (p := ⟨gb403, 4, none⟩) (Kd.R_far (p := ⟨gb403, 3, none⟩) (Kd.R_far (p := ⟨gb403, 2, none⟩) (Kd.R_far (p := ⟨gb403, 1, none⟩) (Kd.R_far (p := ⟨gb403, 0, none⟩) (Kd.R_types HO_9.out BK403.out (by decide)) (fun _ hk => hk.2) (.string ((rd_T124 l1 x49_2).f0))) (fun _ hk => hk.2) (.int .i64 ((rd_T124 l1 x49_2).f1))) (fun _ hk => hk.2) (.bool ((rd_T124 l1 x49_2).f2.f0))) (fun _ hk => hk.2) (.int .u32 ((rd_T124 l1 x49_2).f2.f1.f0))) (fun _ hk => hk.2) (.int .u32 ((rd_T124 l1 x49_2).f2.f1.f1))) (fun _ hk => hk.2) (.int .u32 ((rd_T124 l1 x49_2).f2.f1.f2))) (fun _ hk => hk.2) (.int .u32 ((rd_T124 l1 x49_2).f2.f1.f3))) (fun _ hk => hk.2) (.int .u32 ((rd_T124 l1 x49_2).f2.f1.f4))) (fun _ hk => hk.2) (.int .u32 ((rd_T124 l1 x49_2).f2.f1.f5))) (fun _ h_ => h_.1))) hb); have _ := A_ (Kd.R_below z11_3_ hb); have _ := A_ (Kd.R_elder' z11_6_ (Kd.R_base ho49) hb); have _ := A_ (Kd.R_lower (Kd.R_newB (Kd.R_new' ho49 (Kd.R_lt z11_6_)) (g := gb403) (o := .cells #[.string ((rd_T124 l1 x49_2).f0), .int .i64 ((rd_T124 l1 x49_2).f1), .bool ((rd_T124 l1 x49_2).f2.f0), .int .u32 ((rd_T124 l1 x49_2).f2.f1.f0), .int .u32 ((rd_T124 l1 x49_2).f2.f1.f1), .int .u32 ((rd_T124 l1 x49_2).f2.f1.f2), .int .u32 ((rd_T124 l1 x49_2).f2.f1.f3), .int .u32 ((rd_T124 l1 x49_2).f2.f1.f4), .int .u32 ((rd_T124 l1 x49_2).f2.f1.f5)] 124 (0, 0)) (by (with_reducible repeat (first | refine blk_drewN ?_ _ | refine blk_drew ?_ | refine blk_alloc ?_ _)); refine blk_put (cs := #[.string ((rd_T124 l1 x49_2).f0), .int .i64 ((rd_T124 l1 x49_2).f1), .bool ((rd_T124 l1 x49_2).f2.f0), .int .u32 ((rd_T124 l1 x49_2).f2.f1.f0), .int .u32 ((rd_T124 l1 x49_2).f2.f1.f1), .int .u32 ((rd_T124 l1 x49_2).f2.f1.f2), .int .u32 ((rd_T124 l1 x49_2).f2.f1.f3), .int .u32 ((rd_T124 l1 x49_2).f2.f1.f4), .int .u32 0]) ?_ 8 _ rfl; (with_reducible repeat (first | refine blk_drewN ?_ _ | refine blk_drew ?_ | refine blk_alloc ?_ _)); refine blk_put (cs := #[.string ((rd_T124 l1 x49_2).f0), .int .i64 ((rd_T124 l1 x49_2).f1), .bool ((rd_T124 l1 x49_2).f2.f0), .int .u32 ((rd_T124 l1 x49_2).f2.f1.f0), .int .u32 ((rd_T124 l1 x49_2).f2.f1.f1), .int .u32 ((rd_T124 l1 x49_2).f2.f1.f2), .int .u32 ((rd_T124 l1 x49_2).f2.f1.f3), .int .u32 0, .int .u32 0]) ?_ 7 _ rfl; (with_reducible repeat (first | refine blk_drewN ?_ _ | refine blk_drew ?_ | refine blk_alloc ?_ _)); refine blk_put (cs := #[.string ((rd_T124 l1 x49_2).f0), .int .i64 ((rd_T124 l1 x49_2).f1), .bool ((rd_T124 l1 x49_2).f2.f0), .int .u32 ((rd_T124 l1 x49_2).f2.f1.f0), .int .u32 ((rd_T124 l1 x49_2).f2.f1.f1), .int .u32 ((rd_T124 l1 x49_2).f2.f1.f2), .int .u32 0, .int .u32 0, .int .u32 0]) ?_ 6 _ rfl; (with_reducible repeat (first | refine blk_drewN ?_ _ | refine blk_drew ?_ | refine blk_alloc ?_ _)); refine blk_put (cs := #[.string ((rd_T124 l1 x49_2).f0), .int .i64 ((rd_T124 l1 x49_2).f1), .bool ((rd_T124 l1 x49_2).f2.f0), .int .u32 ((rd_T124 l1 x49_2).f2.f1.f0), .int .u32 ((rd_T124 l1 x49_2).f2.f1.f1), .int .u32 0, .int .u32 0, .int .u32 0, .int .u32 0]) ?_ 5 _ rfl; (with_reducible repeat (first | refine blk_drewN ?_ _ | refine blk_drew ?_ | refine blk_alloc ?_ _)); refine blk_put (cs := #[.string ((rd_T124 l1 x49_2).f0), .int .i64 ((rd_T124 l1 x49_2).f1), .bool ((rd_T124 l1 x49_2).f2.f0), .int .u32 ((rd_T124 l1 x49_2).f2.f1.f0), .int .u32 0, .int .u32 0, .int .u32 0, .int .u32 0, .int .u32 0]) ?_ 4 _ rfl; (with_reducible repeat (first | refine blk_drewN ?_ _ | refine blk_drew ?_ | refine blk_alloc ?_ _)); refine blk_put (cs := #[.string ((rd_T124 l1 x49_2).f0), .int .i64 ((rd_T124 l1 x49_2).f1), .bool ((rd_T124 l1 x49_2).f2.f0), .int .u32 0, .int .u32 0, .int .u32 0, .int .u32 0, .int .u32 0, .int .u32 0]) ?_ 3 _ rfl; (with_reducible repeat (first | refine blk_drewN ?_ _ | refine blk_drew ?_ | refine blk_alloc ?_ _)); refine blk_put (cs := #[.string ((rd_T124 l1 x49_2).f0), .int .i64 ((rd_T124 l1 x49_2).f1), .bool false, .int .u32 0, .int .u32 0, .int .u32 0, .int .u32 0, .int .u32 0, .int .u32 0]) ?_ 2 _ rfl; (with_reducible repeat (first | refine blk_drewN ?_ _ | refine blk_drew ?_ | refine blk_alloc ?_ _)); refine blk_put (cs := #[.string ((rd_T124 l1 x49_2).f0), .int .i64 0, .bool false, .int .u32 0, .int .u32 0, .int .u32 0, .int .u32 0, .int .u32 0, .int .u32 0]) ?_ 1 _ rfl; (with_reducible repeat (first | refine blk_drewN ?_ _ | refine blk_drew ?_ | refine blk_alloc ?_ _)); refine blk_put (cs := #[.string (⟨#[]⟩ : ByteArray), .int .i64 0, .bool false, .int .u32 0, .int .u32 0, .int .u32 0, .int .u32 0, .int .u32 0, .int .u32 0]) ?_ 0 _ rfl; (with_reducible repeat (first | refine blk_drewN ?_ _ | refine blk_drew ?_ | refine blk_alloc ?_ _)); exact BK403.out)) (below_size z11_7_)); have _ := A_ (blk_below (g := gb382) (o := .cells #[.string a2_0, .int .i8 a2_1, .string a2_2, .string a2_3, .int .i64 a2_4, .int .i64 a2_5] 45 (0, 0)) z11_4_ hb); have _ := A_ (blk_below (g := gb403) (o := .cells #[.string ((rd_T124 l1 x49_2).f0), .int .i64 ((rd_T124 l1 x49_2).f1), .bool ((rd_T124 l1 x49_2).f2.f0), .int .u32 ((rd_T124 l1 x49_2).f2.f1.f0), .int .u32 ((rd_T124 l1 x49_2).f2.f1.f1), .int .u32 ((rd_T124 l1 x49_2).f2.f1.f2), .int .u32 ((rd_T124 l1 x49_2).f2.f1.f3), .int .u32 ((rd_T124 l1 x49_2).f2.f1.f4), .int .u32 ((rd_T124 l1 x49_2).f2.f1.f5)] 124 (0, 0)) (by (with_reducible repeat (first | refine blk_drewN ?_ _ | refine blk_drew ?_ | refine blk_alloc ?_ _)); refine blk_put (cs := #[.string ((rd_T124 l1 x49_2).f0), .int .i64 ((rd_T124 l1 x49_2).f1), .bool ((rd_T124 l1 x49_2).f2.f0), .int .u32 ((rd_T124 l1 x49_2).f2.f1.f0), .int .u32 ((rd_T124 l1 x49_2).f2.f1.f1), .int .u32 ((rd_T124 l1 x49_2).f2.f1.f2), .int .u32 ((rd_T124 l1 x49_2).f2.f1.f3), .int .u32 ((rd_T124 l1 x49_2).f2.f1.f4), .int .u32 0]) ?_ 8 _ rfl; (with_reducible repeat (first | refine blk_drewN ?_ _ | refine blk_drew ?_ | refine blk_alloc ?_ _)); refine blk_put (cs := #[.string ((rd_T124 l1 x49_2).f0), .int .i64 ((rd_T124 l1 x49_2).f1), .bool ((rd_T124 l1 x49_2).f2.f0), .int .u32 ((rd_T124 l1 x49_2).f2.f1.f0), .int .u32 ((rd_T124 l1 x49_2).f2.f1.f1), .int .u32 ((rd_T124 l1 x49_2).f2.f1.f2), .int .u32 ((rd_T124 l1 x49_2).f2.f1.f3), .int .u32 0, .int .u32 0]) ?_ 7 _ rfl; (with_reducible repeat (first | refine blk_drewN ?_ _ | refine blk_drew ?_ | refine blk_alloc ?_ _)); refine blk_put (cs := #[.string ((rd_T124 l1 x49_2).f0), .int .i64 ((rd_T124 l1 x49_2).f1), .bool ((rd_T124 l1 x49_2).f2.f0), .int .u32 ((rd_T124 l1 x49_2).f2.f1.f0), .int .u32 ((rd_T124 l1 x49_2).f2.f1.f1), .int .u32 ((rd_T124 l1 x49_2).f2.f1.f2), .int .u32 0, .int .u32 0, .int .u32 0]) ?_ 6 _ rfl; (with_reducible repeat (first | refine blk_drewN ?_ _ | refine blk_drew ?_ | refine blk_alloc ?_ _)); refine blk_put (cs := #[.string ((rd_T124 l1 x49_2).f0), .int .i64 ((rd_T124 l1 x49_2).f1), .bool ((rd_T124 l1 x49_2).f2.f0), .int .u32 ((rd_T124 l1 x49_2).f2.f1.f0), .int .u32 ((rd_T124 l1 x49_2).f2.f1.f1), .int .u32 0, .int .u32 0, .int .u32 0, .int .u32 0]) ?_ 5 _ rfl; (with_reducible repeat (first | refine blk_drewN ?_ _ | refine blk_drew ?_ | refine blk_alloc ?_ _)); refine blk_put (cs := #[.string ((rd_T124 l1 x49_2).f0), .int .i64 ((rd_T124 l1 x49_2).f1), .bool ((rd_T124 l1 x49_2).f2.f0), .int .u32 ((rd_T124 l1 x49_2).f2.f1.f0), .int .u32 0, .int .u32 0, .int .u32 0, .int .u32 0, .int .u32 0]) ?_ 4 _ rfl; (with_reducible repeat (first | refine blk_drewN ?_ _ | refine blk_drew ?_ | refine blk_alloc ?_ _)); refine blk_put (cs := #[.string ((rd_T124 l1 x49_2).f0), .int .i64 ((rd_T124 l1 x49_2).f1), .bool ((rd_T124 l1 x49_2).f2.f0), .int .u32 0, .int .u32 0, .int .u32 0, .int .u32 0, .int .u32 0, .int .u32 0]) ?_ 3 _ rfl; (with_reducible repeat (first | refine blk_drewN ?_ _ | refine blk_drew ?_ | refine blk_alloc ?_ _)); refine blk_put (cs := #[.string ((rd_T124 l1 x49_2).f0), .int .i64 ((rd_T124 l1 x49_2).f1), .bool false, .int .u32 0, .int .u32 0, .int .u32 0, .int .u32 0, .int .u32 0, .int .u32 0]) ?_ 2 _ rfl; (with_reducible repeat (first | refine blk_drewN ?_ _ | refine blk_drew ?_ | refine blk_alloc ?_ _)); refine blk_put (cs := #[.string ((rd_T124 l1 x49_2).f0), .int .i64 0, .bool false, .int .u32 0, .int .u32 0, .int .u32 0, .int .u32 0, .int .u32 0, .int .u32 0]) ?_ 1 _ rfl; (with_reducible repeat (first | refine blk_drewN ?_ _ | refine blk_drew ?_ | refine blk_alloc ?_ _)); refine blk_put (cs := #[.string (⟨#[]⟩ : ByteArray), .int .i64 0, .bool false, .int .u32 0, .int .u32 0, .int .u32 0, .int .u32 0, .int .u32 0, .int .u32 0]) ?_ 0 _ rfl; (with_reducible repeat (first | refine blk_drewN ?_ _ | refine blk_drew ?_ | refine blk_alloc ?_ _)); exact BK403.out) hb); have _ := A_ (below_step z11_7_ hb); clear HO_9 HO_11 HO_12 BK382 BK403 HB; rename_i HO_9 HO_11 HO_12 HO407 BK382 BK403 HB; clear hb ho49; obtain ⟨Ao51, co51, eo51⟩ := Kd.R_slice HO407.out; subst eo51) | ((with_reducible refine gate_builtin (b := .append) (xs := #[.tmp 58, .tmp 60]) rfl ?_); at_builtin; refine Kd.R_append_rows k124 (w0 := w) w.heap.size rfl (.tmp 58) (.tmp 60) 69 124 (.agg #[(.string ⟨#[]⟩), (.int .i64 0), (.bool false), (.int .u32 0), (.int .u32 0), (.int .u32 0), (.int .u32 0), (.int .u32 0), (.int .u32 0)]) 56 rfl Try.underlying69 info124 rfl (by decide) (by omega) u12 x12_2 y405 _ _ _ (fun k_ => some k_ ≠ (.slice Ao51 y405.length co51 : Value).ownBlock ∧ k_ ≠ gb403) (fun _ => False) rfl rfl ?aO ?aR (fun _ _ h => h) (fun _ h => h.elim) ?aF ?aB ?aS ?aL ?_; (case aR => have hx_ := (Kd.R_reads' HO407.out).2.2; exact kc_); (case aB => exact z11_7_); (case aF => exact (fun k_ hk => ⟨Kd.fresh' (Kd.R_lt (by (with_reducible repeat (first | apply Kd.R_alloc | apply Kd.R_drewN | apply Kd.R_drew)); exact HO407.out)) k_ hk, Kd.freshB (g := gb403) (o := .cells #[.string ((rd_T124 l1 x49_2).f0), .int .i64 ((rd_T124 l1 x49_2).f1), .bool ((rd_T124 l1 x49_2).f2.f0), .int .u32 ((rd_T124 l1 x49_2).f2.f1.f0), .int .u32 ((rd_T124 l1 x49_2).f2.f1.f1), .int .u32 ((rd_T124 l1 x49_2).f2.f1.f2), .int .u32 ((rd_T124 l1 x49_2).f2.f1.f3), .int .u32 ((rd_T124 l1 x49_2).f2.f1.f4), .int .u32 ((rd_T124 l1 x49_2).f2.f1.f5)] 124 (0, 0)) z11_21_ k_ hk⟩)); (case aO => exact (by (with_reducible repeat (first | apply Kd.R_alloc | apply Kd.R_drewN | apply Kd.R_drew)); exact Kd.R_mono HO_12.out (fun _ hk => ⟨hk.2, hk.1.2⟩))); (case aS => exact (below_size z11_7_)); (case aL => have := LMc43.out; omega); intro v409 w50 ho hb hg hat; rw [← Ny408.out] at ho; have _ := A_ (Kd.R_over' z11_15_ (Kd.R_typed z11_10_) (by decide) hg); have _ := A_ (Kd.R_over' z11_12_ (Kd.R_typed z11_10_) (by decide) hg); have _ := A_ (blk_grown (g := gb382) (o := .cells #[.string a2_0, .int .i8 a2_1, .string a2_2, .string a2_3, .int .i64 a2_4, .int .i64 a2_5] 45 (0, 0)) z11_2_ hg (Kd.R_ne HO_12.out BK382.out (by decide))); have _ := A_ (blk_grown (g := gb403) (o := .cells #[.string ((rd_T124 l1 x49_2).f0), .int .i64 ((rd_T124 l1 x49_2).f1), .bool ((rd_T124 l1 x49_2).f2.f0), .int .u32 ((rd_T124 l1 x49_2).f2.f1.f0), .int .u32 ((rd_T124 l1 x49_2).f2.f1.f1), .int .u32 ((rd_T124 l1 x49_2).f2.f1.f2), .int .u32 ((rd_T124 l1 x49_2).f2.f1.f3), .int .u32 ((rd_T124 l1 x49_2).f2.f1.f4), .int .u32 ((rd_T124 l1 x49_2).f2.f1.f5)] 124 (0, 0)) z11_21_ hg (Kd.R_away HO_12.out (fun _ hk => hk.1.2))); have _ := A_ (Kd.R_after (ok := (fun k_ => k_ ≠ gb403)) (by (with_reducible repeat (first | apply Kd.R_alloc | apply Kd.R_drewN | apply Kd.R_drew)); exact Kd.R_mono HO407.out (fun _ hk => ⟨hk.2, hk.1.2⟩)) hg hat); have _ := A_ (hb); have _ := A_ (ho); clear HO_9 HO_11 BK382 BK403 HO407 HB HO_12; rename_i HO_9 HO_11 BK382 BK403 HO407 HB HO410; clear ho hb hg hat))
             go_roundg k2
             case measure => have := HJ3.out; have := HK2.out; omega
             case rel => exact ⟨(y408), (wrap64 (x49_2 + 1)), z11_11_, H', ⟨(by have := HJ3.out; have := HK2.out; omega)⟩, ⟨z11_15_⟩, ⟨z11_12_⟩, ⟨(by (with_reducible repeat (first | apply Kd.R_alloc | apply Kd.R_drewN | apply Kd.R_drew)); exact Kd.R_mono HO410.out (fun _ hk => trivial))⟩, ⟨z11_2_⟩, ⟨z11_7_⟩⟩
            ·
             rw [if_neg c43] at H
             exact absurd H (by simp)
          ·
           rw [if_neg c36] at H
           exact absurd H (by simp)
         ·
          rw [if_neg c35] at H
          exact absurd H (by simp)
        ·
         rw [if_neg c34] at H
         have c34b0 := decide_eq_false c34
         clear c34
         simp only [Option.some.injEq, Prod.mk.injEq] at H
         obtain ⟨rfl, rfl, rfl⟩ := H
         go_wp2
         go_ret3
         exact ⟨_, _, z11_17_, (by (with_reducible repeat (first | apply Kd.R_alloc | apply Kd.R_drewN | apply Kd.R_drew)); exact Kd.R_mono HO_9.out (fun _ hk => trivial)), z11_10_, z11_1_⟩
     ·
      rw [if_neg c21] at H
      exact absurd H (by simp)
    ·
     rw [if_neg c19] at H
     have c19b0 : (t389 == 0) = false := beq_eq_false_iff_ne.mpr c19
     have c19b1 : (t389 != 0) = true := bne_iff_ne.mpr c19
     simp only [Option.some.injEq, Prod.mk.injEq] at H
     obtain ⟨rfl, rfl, rfl⟩ := H
     obtain ⟨hcz52_0, hcz52_1, hcz52_2, hcz52_3, hcz52_4, hcz52_5⟩ := bc6 BK382.out
     obtain ⟨hfz52_0, hfz52_1, hfz52_2, hfz52_3, hfz52_4, hfz52_5⟩ := bf6 BK382.out
     go_wp2_with (first | ((with_reducible refine gate_callee (f := 32) rfl ?_); refine goesL_ (some 32) rfl rfl Try.func32 (by kernel_rfl) rfl #[.slice A0 l0.length c0, .agg #[.string a2_0, .int .i8 a2_1, .string a2_2, .string a2_3, .int .i64 a2_4, .int .i64 a2_5]] rfl z11_5_ ?_; (with_reducible refine (impl_WriteLine.calls kj3 _ _ l0 a2_0 a2_1 a2_2 a2_3 a2_4 a2_5 t386 t389 _ ?side1 ?side2 A18.out).mono ?_); (case side1 => have hx_ := (Kd.C_below HR0.out HB.out); exact kc_); (case side2 => exact HC0.out); rintro e w53 ⟨v387, rfl, ho0, hb⟩; refine ⟨_, rfl, ?_⟩; have _ := A_ (Kd.R_lower (Kd.R_newB ho0 (g := gb382) (o := .cells #[.string a2_0, .int .i8 a2_1, .string a2_2, .string a2_3, .int .i64 a2_4, .int .i64 a2_5] 45 (0, 0)) z11_2_) (below_size z11_1_)); have _ := A_ (blk_below (g := gb382) (o := .cells #[.string a2_0, .int .i8 a2_1, .string a2_2, .string a2_3, .int .i64 a2_4, .int .i64 a2_5] 45 (0, 0)) z11_2_ hb); have _ := A_ (below_step z11_1_ hb); clear BK382 HB; rename_i HO388 BK382 HB; (try clear hb); (try clear ho0)))
     go_ret3
     exact ⟨_, _, z11_17_, z11_9_, z11_9_, z11_1_⟩
end Go.Proofs.Ytenhgmddpkiliaa.PB

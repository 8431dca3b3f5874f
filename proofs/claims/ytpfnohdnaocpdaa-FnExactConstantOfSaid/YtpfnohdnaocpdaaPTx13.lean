-- Written by a program (xprint.py) out of the translation's own print; Lean checks it.
import Derived.Test.YtpfnohdnaocpdaaPTx0
import Derived.Test.YtpfnohdnaocpdaaPTx11
import Derived.Test.YtpfnohdnaocpdaaPTx12
import Derived.Test.YtpfnohdnaocpdaaPTvalidTree
namespace Go.Proofs.Ytpfnohdnaocpdaa.PT
open Go.RowKit Go.Proofs.YtpfnohdnaocpdaaW.PrintWords Go.Proofs.YtpfnohdnaocpdaaW.PrintLast Go.Proofs.YtpfnohdnaocpdaaW.PrintMore Go.Proofs.YtpfnohdnaocpdaaRP
attribute [local go_sem] Go.Proofs.YtpfnohdnaocpdaaRP.tmod_len   -- for this text's walks alone
set_option linter.unusedVariables false
set_option linter.unusedSimpArgs false
theorem z13_1_ {P : Prop} (h : P := by repeat (first | (with_reducible first | exact HB.out | apply below_alloc | apply pw_below_drewN | apply below_drew1 | refine below_set ?_ GE327.out | refine below_set ?_ GE328.out) | exact HB.out)) : P := h
theorem z13_2_ {P : Prop} (h : P := by (with_reducible repeat (first | refine blk_drewN ?_ _ | refine blk_drew ?_ | refine blk_alloc ?_ _)); exact BK327.out) : P := h
theorem z13_3_ {P : Prop} (h : P := by (with_reducible repeat (first | refine blk_drewN ?_ _ | refine blk_drew ?_ | refine blk_alloc ?_ _)); exact BK328.out) : P := h
theorem z13_4_ {P : Prop} (h : P := by repeat (first | (with_reducible first | exact HB.out | apply below_alloc | apply pw_below_drewN | apply below_drew1 | refine below_set ?_ GE327.out | refine below_set ?_ GE328.out | refine below_set ?_ GE354.out) | exact HB.out)) : P := h
theorem z13_5_ {P : Prop} (h : P := by (with_reducible repeat (first | apply Kd.R_alloc | apply Kd.R_drewN | apply Kd.R_drew)); exact HO_5.out) : P := h
theorem z13_6_ {P : Prop} (h : P := by (with_reducible repeat (first | apply Kd.R_alloc | apply Kd.R_drewN | apply Kd.R_drew)); exact HO_4.out) : P := h
theorem z13_7_ {P : Prop} (h : P := by repeat (first | (with_reducible first | exact HB.out | apply below_alloc | apply pw_below_drewN | apply below_drew1 | refine below_set ?_ GE327.out | refine below_set ?_ GE328.out | refine below_set ?_ GE351.out) | exact HB.out)) : P := h
theorem z13_8_ {P : Prop} (h : P := by repeat (first | (with_reducible exact HR344.out) | (with_reducible refine Kd.C_alloc ?_ _) | (with_reducible refine Kd.C_drewN ?_ _) | (with_reducible refine Kd.C_drew ?_) | exact HR344.out)) : P := h
theorem z13_9_ {P : Prop} (h : P := by repeat (first | (with_reducible exact HR340.out) | (with_reducible refine Kd.C_alloc ?_ _) | (with_reducible refine Kd.C_drewN ?_ _) | (with_reducible refine Kd.C_drew ?_) | exact HR340.out)) : P := h
theorem z13_10_ {P : Prop} (h : P := by (try simp only [List.map_toArray, List.map_cons, List.map_nil]); first | done | rfl | (simp only [List.length_drop, List.length_take]; rfl)) : P := h
theorem z13_11_ {P : Prop} (h : P := by (with_reducible repeat (first | refine blk_drewN ?_ _ | refine blk_drew ?_ | refine blk_alloc ?_ _)); exact BK354.out) : P := h
theorem z13_12_ {P : Prop} (h : P := by (with_reducible repeat (first | apply Kd.R_alloc | apply Kd.R_drewN | apply Kd.R_drew)); exact HO357.out) : P := h
theorem z13_13_ {P : Prop} (h : P := by repeat (first | (with_reducible first | exact HB.out | apply below_alloc | apply pw_below_drewN | apply below_drew1 | refine below_set ?_ GE327.out) | exact HB.out)) : P := h
theorem z13_14_ {P : Prop} (h : P := by repeat (first | (with_reducible first | exact HB.out | apply below_alloc | apply pw_below_drewN | apply below_drew1) | exact HB.out)) : P := h
theorem z13_15_ {P : Prop} (h : P := by (with_reducible repeat (first | refine blk_drewN ?_ _ | refine blk_drew ?_ | refine blk_alloc ?_ _)); exact BK351.out) : P := h
theorem z13_16_ {P : Prop} (h : P := by (with_reducible repeat (first | apply Kd.R_alloc | apply Kd.R_drewN | apply Kd.R_drew)); exact HO350.out) : P := h
theorem z13_17_ {P : Prop} (h : P := by (with_reducible repeat (first | apply Kd.R_alloc | apply Kd.R_drewN | apply Kd.R_drew)); exact HO347.out) : P := h
theorem z13_18_ {P : Prop} (h : P := by (with_reducible repeat (first | refine blk_drewN ?_ _ | refine blk_drew ?_ | refine blk_alloc ?_ _)); refine blk_put (cs := #[.slice none 0 0, .slice none 0 0]) ?_ 1 _ rfl; (with_reducible repeat (first | refine blk_drewN ?_ _ | refine blk_drew ?_ | refine blk_alloc ?_ _)); refine blk_put (cs := #[.slice none 0 0, .slice none 0 0]) ?_ 0 _ rfl; (with_reducible repeat (first | refine blk_drewN ?_ _ | refine blk_drew ?_ | refine blk_alloc ?_ _)); exact BK328.out) : P := h
theorem z13_19_ {P : Prop} (h : P := by (with_reducible repeat (first | apply Kd.R_alloc | apply Kd.R_drewN | apply Kd.R_drew)); exact Kd.R_mono HO_5.out (fun _ hk => ⟨hk.1.2, hk.2⟩)) : P := h
theorem z13_20_ {P : Prop} (h : P := by (with_reducible repeat (first | apply Kd.R_alloc | apply Kd.R_drewN | apply Kd.R_drew)); exact HO360.out) : P := h
theorem z13_21_ {P : Prop} (h : P := by (with_reducible repeat (first | refine blk_drewN ?_ _ | refine blk_drew ?_ | refine blk_alloc ?_ _)); refine blk_far ?_ NB328_351.out _; (with_reducible repeat (first | refine blk_drewN ?_ _ | refine blk_drew ?_ | refine blk_alloc ?_ _)); refine blk_far ?_ NB328_351.out _; (with_reducible repeat (first | refine blk_drewN ?_ _ | refine blk_drew ?_ | refine blk_alloc ?_ _)); exact BK328.out) : P := h
theorem z13_22_ {P : Prop} (h : P := by (with_reducible repeat (first | refine blk_drewN ?_ _ | refine blk_drew ?_ | refine blk_alloc ?_ _)); refine blk_far ?_ NB327_351.out _; (with_reducible repeat (first | refine blk_drewN ?_ _ | refine blk_drew ?_ | refine blk_alloc ?_ _)); refine blk_far ?_ NB327_351.out _; (with_reducible repeat (first | refine blk_drewN ?_ _ | refine blk_drew ?_ | refine blk_alloc ?_ _)); exact BK327.out) : P := h
theorem z13_23_ {P : Prop} (h : P := by (with_reducible repeat (first | apply Kd.R_alloc | apply Kd.R_drewN | apply Kd.R_drew)); exact (Kd.R_mono (Kd.R_far (p := ⟨gb351, 1, none⟩) (Kd.R_far (p := ⟨gb351, 0, none⟩) (Kd.R_types HO350.out BK351.out (by decide)) (fun _ hk => hk.2) (.slice Ao49 t345.length co49)) (fun _ hk => hk.2) (.slice Ao51 t348.length co51)) (fun _ h_ => h_.1))) : P := h
theorem z13_24_ {P : Prop} (h : P := by (with_reducible repeat (first | apply Kd.R_alloc | apply Kd.R_drewN | apply Kd.R_drew)); exact (Kd.R_mono (Kd.R_far (p := ⟨gb351, 1, none⟩) (Kd.R_far (p := ⟨gb351, 0, none⟩) (Kd.R_types HO350.out BK351.out (by decide)) (fun _ hk => hk.2) (.slice Ao30 t345.length co30)) (fun _ hk => hk.2) (.slice Ao32 t348.length co32)) (fun _ h_ => h_.1))) : P := h
theorem z13_25_ {P : Prop} (h : P := by (with_reducible repeat (first | apply Kd.R_alloc | apply Kd.R_drewN | apply Kd.R_drew)); exact (Kd.R_mono (Kd.R_far (p := ⟨gb351, 1, none⟩) (Kd.R_far (p := ⟨gb351, 0, none⟩) (Kd.R_types HO347.out BK351.out (by decide)) (fun _ hk => hk.2) (.slice Ao49 t345.length co49)) (fun _ hk => hk.2) (.slice Ao51 t348.length co51)) (fun _ h_ => h_.1))) : P := h
theorem z13_26_ {P : Prop} (h : P := by (with_reducible repeat (first | apply Kd.R_alloc | apply Kd.R_drewN | apply Kd.R_drew)); exact (Kd.R_mono (Kd.R_far (p := ⟨gb351, 1, none⟩) (Kd.R_far (p := ⟨gb351, 0, none⟩) (Kd.R_types HO347.out BK351.out (by decide)) (fun _ hk => hk.2) (.slice Ao30 t345.length co30)) (fun _ hk => hk.2) (.slice Ao32 t348.length co32)) (fun _ h_ => h_.1))) : P := h
theorem z13_27_ {P : Prop} (h : P := by (with_reducible repeat (first | apply Kd.R_alloc | apply Kd.R_drewN | apply Kd.R_drew)); exact HO363.out) : P := h
theorem z13_28_ {P : Prop} (h : P := by (with_reducible repeat (first | apply Kd.R_alloc | apply Kd.R_drewN | apply Kd.R_drew)); exact Kd.R_mono HO363.out (fun _ hk => hk.2)) : P := h
theorem z13_29_ {P : Prop} (h : P := by (with_reducible repeat (first | apply Kd.R_alloc | apply Kd.R_drewN | apply Kd.R_drew)); exact Kd.R_mono HO357.out (fun _ hk => hk.2)) : P := h
theorem z13_30_ {P : Prop} (h : P := by (with_reducible repeat (first | apply Kd.R_alloc | apply Kd.R_drewN | apply Kd.R_drew)); exact Kd.R_mono HO_5.out (fun _ hk => hk.2)) : P := h
theorem z13_31_ {P : Prop} (h : P := by (with_reducible repeat (first | apply Kd.R_alloc | apply Kd.R_drewN | apply Kd.R_drew)); exact Kd.R_mono HO_4.out (fun _ hk => hk.2)) : P := h
theorem z13_32_ {P : Prop} (h : P := by simp only [putAll, Act.put, sA_, sB_, sC_]) : P := h
/-! ### impl_ConstantOf: function 44 -/
def impl_ConstantOf.l0 : Nat → List Int → List Int → Int → List (S89) → Option (List Int × List Int × Int)
 | 0, _, _, _, _ => none
 | k + 1, x4, x5, x6, x328000 => (slices_Index_int16_int16.f k x4 x6).bind fun t336 => (if t336 ≥ 0 then (if 0 ≤ t336 then (if t336 ≤ (x5.length : Int) then ((impl_normal.f k (x5.take (t336 : Int).toNat) (x5.drop (t336 : Int).toNat)).bind fun bt345 => ((impl_ValidStream.f bt345.1 bt345.2).bind fun t352 => (if t352 = true then (some (bt345.1, bt345.2, 0)) else (some (([] : List Int), ([] : List Int), 3))))) else (none)) else (none)) else (if 0 ≤ x6 then (if x6 < (x328000.length : Int) then (if ((rd_T89 x328000 x6).f0) = 1 then (some (([] : List Int), ([] : List Int), 4)) else ((some (([x6] : List Int) : List Int)).bind fun y355 => (if x4.length + y355.length < 70368744177664 then ((some (([(rd_T89 x328000 x6).f1] : List Int) : List Int)).bind fun y361 => (if x5.length + y361.length < 140737488355328 then (impl_ConstantOf.l0 k (x4 ++ y355) (x5 ++ y361) ((rd_T89 x328000 x6).f2.f0) x328000) else (none))) else (none)))) else (none)) else (none)))
def impl_ConstantOf.f (k : Nat) (l0_0 : List (S89)) : Option (List Int × List Int × Int) := (impl_ValidTree.f l0_0).bind fun t329 => (if t329 = true then (impl_ConstantOf.l0 k (([] : List Int)) (([] : List Int)) 0 l0_0) else (some (([] : List Int), ([] : List Int), 1)))
theorem impl_ConstantOf.mono_l : ∀ k, (∀ y0 y1 y2 y3, LeO (impl_ConstantOf.l0 k y0 y1 y2 y3) (impl_ConstantOf.l0 (k + 1) y0 y1 y2 y3))
 | 0 => fun _ _ _ _ r h => by simp [impl_ConstantOf.l0] at h
 | k + 1 => by
  have ih0 := impl_ConstantOf.mono_l k
  ·
   intro y0 y1 y2 y3
   unfold impl_ConstantOf.l0
   repeat' first
   | (with_reducible exact ih0 _ _ _ _)
   | (with_reducible exact impl_normal.mono _ _ _)
   | (with_reducible exact slices_Index_int16_int16.mono _ _ _)
   | (with_reducible exact LeO.refl _)
   | (with_reducible exact LeO.none _)
   | (with_reducible refine LeO.ite ?_ ?_)
   | (with_reducible refine LeO.bind ?_ (fun _ => ?_))
   | refine LeO.bind ?_ (fun _ => ?_)
theorem impl_ConstantOf.mono : ∀ a0 k, LeO (impl_ConstantOf.f k a0) (impl_ConstantOf.f (k + 1) a0) := by
 intro a0 k
 have ih0 := impl_ConstantOf.mono_l k
 unfold impl_ConstantOf.f
 repeat' first
   | (with_reducible exact ih0 _ _ _ _)
   | (with_reducible exact impl_normal.mono _ _ _)
   | (with_reducible exact slices_Index_int16_int16.mono _ _ _)
   | (with_reducible exact LeO.refl _)
   | (with_reducible exact LeO.none _)
   | (with_reducible refine LeO.ite ?_ ?_)
   | (with_reducible refine LeO.bind ?_ (fun _ => ?_))
   | refine LeO.bind ?_ (fun _ => ?_)
def impl_ConstantOf.T7 : Bool × List (List Nat × List Nat) := (true, [([], []), ([], []), ([0, 1], [0, 1]), ([], []), ([], []), ([3, 4], [3, 4]), ([2, 5], [2, 5]), ([], []), ([7, 6, 6, 0, 1, 2, 3, 4, 5, 6, 7], [6, 7])])
def impl_ConstantOf.B7 : List Nat := [0, 0, 3, 0, 0, 24, 63, 0, 255]
theorem impl_ConstantOf.tab7 : rtab .any (opsOf Try.f44 7) = impl_ConstantOf.T7 := by kernel_rfl
theorem impl_ConstantOf.bits7 : waitsOk impl_ConstantOf.T7.2 impl_ConstantOf.B7 = true := by kernel_rfl
def impl_ConstantOf.T14 : Bool × List (List Nat × List Nat) := (true, [([], []), ([], []), ([1], [1]), ([0, 2], [0, 2]), ([], []), ([], []), ([5], [5]), ([6], [6]), ([4, 7, 3], [4, 7]), ([3, 8, 0, 1, 2, 3], [0, 3]), ([8, 9, 0, 1, 2, 3, 4, 5, 6, 7, 8, 9], [4, 8])])
def impl_ConstantOf.B14 : List Nat := [0, 0, 2, 7, 0, 0, 32, 96, 255, 511, 1023]
theorem impl_ConstantOf.tab14 : rtab .any (opsOf Try.f44 14) = impl_ConstantOf.T14 := by kernel_rfl
theorem impl_ConstantOf.bits14 : waitsOk impl_ConstantOf.T14.2 impl_ConstantOf.B14 = true := by kernel_rfl
set_option maxHeartbeats 8000000 in
set_option maxRecDepth 100000 in
theorem impl_ConstantOf.calls (k : Nat) (A0_0 : Option Addr) (c0_0 : Nat) (l0_0 : List (S89)) (r1 : List Int) (r2 : List Int) (r3 : Int) (w : World) (hr0_0 : Kd.C k89 w A0_0 l0_0.length l0_0) (hc0_0 : l0_0.length ≤ c0_0) (h : impl_ConstantOf.f k l0_0 = some (r1, r2, r3)) :
  Calls Try.prog 44 #[.agg #[.slice A0_0 l0_0.length c0_0]] w fun e w' => ∃ v0_ v1_ : Value, e = .returned (.tuple #[.agg #[v0_, v1_], .int .i64 r3]) ∧ Kd.R (Kd.int .i8) 86 w' w.heap.size (fun k_ => some k_ ≠ (v1_ : Value).ownBlock) v0_ r1 ∧ Kd.R (Kd.int .i8) 86 w' w.heap.size (fun k_ => some k_ ≠ (v0_ : Value).ownBlock) v1_ r2 ∧ Below w.heap.size w w' := by
 have hu34 := Try.underlying34
 have hu36 := Try.underlying36
 have hu89 := Try.underlying89
 have HR0_0 := Aside0.mk hr0_0
 have HC0_0 := Aside0.mk hc0_0
 clear hr0_0 hc0_0
 have HB := Aside0.mk (Below.refl w.heap.size w)
 have H : ((impl_ValidTree.f l0_0).bind fun t329 => (if t329 = true then (impl_ConstantOf.l0 k (([] : List Int)) (([] : List Int)) 0 l0_0) else (some (([] : List Int), ([] : List Int), 1)))) = some (r1, r2, r3) := h
 clear h
 replace H := Option.bind_eq_some_iff.mp H
 obtain ⟨t329, A20, H⟩ := H
 replace H : (if t329 = true then (impl_ConstantOf.l0 k (([] : List Int)) (([] : List Int)) 0 l0_0) else (some (([] : List Int), ([] : List Int), 1))) = some (r1, r2, r3) := H
 have A2 := Aside0.mk A20
 clear A20
 by_cases c3 : t329 = true
 ·
  subst c3
  have H1 : (impl_ConstantOf.l0 k (([] : List Int)) (([] : List Int)) 0 l0_0) = some (r1, r2, r3) := by first | (rw [if_pos rfl] at H; exact H) | rfl
  clear H
  have H := H1
  clear H1
  obtain ⟨y330, hy330⟩ : ∃ y_ : List Int, y_ = (([] : List Int)) := ⟨_, rfl⟩
  replace H : (impl_ConstantOf.l0 k y330 (([] : List Int)) 0 l0_0) = some (r1, r2, r3) := by first | (rw [hy330]; with_reducible exact H) | (have H2_ := (Option.bind_some _ _).symm.trans H; rw [hy330]; with_reducible exact H2_) | (have H2_ := (Option.bind_some _ _).symm.trans H; with_reducible exact H2_) | with_reducible exact H | (rw [hy330]; exact H) | exact H
  have Ny330 := Aside0.mk hy330
  clear hy330
  obtain ⟨y333, hy333⟩ : ∃ y_ : List Int, y_ = (([] : List Int)) := ⟨_, rfl⟩
  replace H : (impl_ConstantOf.l0 k y330 y333 0 l0_0) = some (r1, r2, r3) := by first | (rw [hy333]; with_reducible exact H) | (have H2_ := (Option.bind_some _ _).symm.trans H; rw [hy333]; with_reducible exact H2_) | (have H2_ := (Option.bind_some _ _).symm.trans H; with_reducible exact H2_) | with_reducible exact H | (rw [hy333]; exact H) | exact H
  have Ny333 := Aside0.mk hy333
  clear hy333
  have H' := Aside0.mk H
  clear H
  go_enter Try.func44, Try.ntmps44
  go_wp2_with (first | ((with_reducible refine gate_dst (N := 1) rfl ?_); refine box_event ?hg (N := 1) ?hd (cs := #[.slice A0_0 l0_0.length c0_0]) (t := 34) ?hr ?_; (case hd => rfl); (case hg => rfl); (case hr => first | (go_simp; done) | (go_simp; rfl)); intro gb327 hg w4 hbox hb; have n0_ := Aside0.mk (below_step z13_14_ hb); have n1_ := Aside0.mk (hbox); have n2_ := Aside0.mk ((by rw [hg]; exact (below_size z13_14_) : w.heap.size ≤ gb327)); have n3_ := Aside0.mk ((by rw [hg]; exact (below_size z13_14_) : w.heap.size ≤ gb327)); clear HB; have HB := n0_; have BK327 := n1_; have GW327 := n2_; have GE327 := n3_; clear n0_ n1_ n2_ n3_; clear hb hbox hg) | ((with_reducible refine gate_dst (N := 2) rfl ?_); refine box_event ?hg (N := 2) ?hd (cs := #[.slice none 0 0, .slice none 0 0]) (t := 36) ?hr ?_; (case hd => rfl); (case hg => rfl); (case hr => first | (go_simp; done) | (go_simp; rfl)); intro gb328 hg w5 hbox hb; have n0_ := Aside0.mk (blk_below (g := gb327) (o := .cells #[.slice A0_0 l0_0.length c0_0] 34 (0, 0)) z13_2_ hb); have n1_ := Aside0.mk (below_step z13_13_ hb); have n2_ := Aside0.mk (hbox); have n3_ := Aside0.mk ((by rw [hg]; exact (below_size z13_13_) : w.heap.size ≤ gb328)); have n4_ := Aside0.mk ((by rw [hg]; exact (below_size z13_13_) : w.heap.size ≤ gb328)); have n5_ := Aside0.mk ((by rw [hg]; exact Nat.ne_of_lt (blk_lt (g := gb327) (o := .cells #[.slice A0_0 l0_0.length c0_0] 34 (0, 0)) z13_2_) : gb327 ≠ gb328)); have n6_ := Aside0.mk ((by rw [hg]; exact Nat.ne_of_gt (blk_lt (g := gb327) (o := .cells #[.slice A0_0 l0_0.length c0_0] 34 (0, 0)) z13_2_) : gb328 ≠ gb327)); clear BK327; clear HB; have BK327 := n0_; have HB := n1_; have BK328 := n2_; have GW328 := n3_; have GE328 := n4_; have NB327_328 := n5_; have NB328_327 := n6_; clear n0_ n1_ n2_ n3_ n4_ n5_ n6_; clear hb hbox hg; have hnb6 := NB327_328.out; have hnc6 := NB328_327.out; have hcz7_0 : w5.cell? ⟨gb327, 0, none⟩ = some (.slice A0_0 l0_0.length c0_0) := (blk_cell BK327.out 0).trans rfl; have hfz7_0 := blk_frozen BK327.out 0) | ((with_reducible refine gate_callee (f := 60) rfl ?_); refine goesL_ (some 11) rfl rfl Try.func60 (by kernel_rfl) rfl #[.agg #[.slice A0_0 l0_0.length c0_0]] rfl z13_10_ ?_; (with_reducible refine (impl_ValidTree.calls _ _ l0_0 true _ ?side1 ?side2 A2.out).mono ?_); (case side1 => repeat (first | exact (Kd.C_below HR0_0.out HB.out) | (with_reducible refine Kd.C_alloc ?_ _) | (with_reducible refine Kd.C_drewN ?_ _) | (with_reducible refine Kd.C_drew ?_))); (case side2 => exact HC0_0.out); rintro e w8 ⟨rfl, hb⟩; refine ⟨_, rfl, ?_⟩; have n0_ := Aside0.mk (blk_below (g := gb327) (o := .cells #[.slice A0_0 l0_0.length c0_0] 34 (0, 0)) z13_2_ hb); have n1_ := Aside0.mk (blk_below (g := gb328) (o := .cells #[.slice none 0 0, .slice none 0 0] 36 (0, 0)) z13_3_ hb); have n2_ := Aside0.mk (below_step z13_1_ hb); clear BK327; clear BK328; clear HB; have BK327 := n0_; have BK328 := n1_; have HB := n2_; clear n0_ n1_ n2_; (try clear hb); (try clear hb2); (try clear hk); (try clear hi)) | ((with_reducible refine gate_dst (N := 14) rfl ?_); refine Kd.R_lit (Kd.int .i16) _ 85 ?hg (N := 14) ?hd (xs := ([] : List Int)) (inner := []) (ok := fun _ => True) (okp := fun _ => True) ?hr ?hp (fun _ hk => hk) trivial (Below.refl _ _) (Nat.le_refl _) (by simp) ?_; (case hd => rfl); (case hg => rfl); (case hr => first | (go_simp; done) | (go_simp; rfl)); (case hp => exact (Reps.none _ _)); intro v331 w9 ho10 hb hg_ hnew_; clear hg_ hnew_; (first | rw [← Ny330.out] at ho10 | (simp only [Int.reduceToNat] at ho10; rw [← Ny330.out] at ho10)); have n0_ := Aside0.mk (Kd.R_lower ho10 (below_size z13_1_)); have n1_ := Aside0.mk (blk_below (g := gb327) (o := .cells #[.slice A0_0 l0_0.length c0_0] 34 (0, 0)) z13_2_ hb); have n2_ := Aside0.mk (blk_below (g := gb328) (o := .cells #[.slice none 0 0, .slice none 0 0] 36 (0, 0)) z13_3_ hb); have n3_ := Aside0.mk (below_step z13_1_ hb); clear BK327; clear BK328; clear HB; have HO332 := n0_; have BK327 := n1_; have BK328 := n2_; have HB := n3_; clear n0_ n1_ n2_ n3_; clear hb ho10) | ((with_reducible refine gate_dst (N := 15) rfl ?_); refine Kd.R_lit (Kd.int .i8) _ 86 ?hg (N := 15) ?hd (xs := ([] : List Int)) (inner := []) (ok := fun _ => True) (okp := fun _ => True) ?hr ?hp (fun _ hk => hk) trivial (Below.refl _ _) (Nat.le_refl _) (by simp) ?_; (case hd => rfl); (case hg => rfl); (case hr => first | (go_simp; done) | (go_simp; rfl)); (case hp => exact (Reps.none _ _)); intro v334 w11 ho12 hb hg_ hnew_; clear hg_ hnew_; (first | rw [← Ny333.out] at ho12 | (simp only [Int.reduceToNat] at ho12; rw [← Ny333.out] at ho12)); have n0_ := Aside0.mk (Kd.R_below (by (with_reducible repeat (first | apply Kd.R_alloc | apply Kd.R_drewN | apply Kd.R_drew)); exact HO332.out) hb); have n1_ := Aside0.mk (Kd.R_lower ho12 (below_size z13_1_)); have n2_ := Aside0.mk (blk_below (g := gb327) (o := .cells #[.slice A0_0 l0_0.length c0_0] 34 (0, 0)) z13_2_ hb); have n3_ := Aside0.mk (blk_below (g := gb328) (o := .cells #[.slice none 0 0, .slice none 0 0] 36 (0, 0)) z13_3_ hb); have n4_ := Aside0.mk (below_step z13_1_ hb); clear HO332; clear BK327; clear BK328; clear HB; have HO332 := n0_; have HO335 := n1_; have BK327 := n2_; have BK328 := n3_; have HB := n4_; clear n0_ n1_ n2_ n3_ n4_; clear hb ho12))
  go_loopg [4, 5, 6] k (fun kq v4 v5 v6 w' => ∃ (x4_1 : List Int) (x5_1 : List Int) (x6_1 : Int), v6 = .int .i16 x6_1 ∧ Aside0 (impl_ConstantOf.l0 kq x4_1 x5_1 x6_1 l0_0 = some (r1, r2, r3)) ∧ Aside0 (kq ≤ k) ∧ Aside0 (Kd.R (Kd.int .i16) 85 w' w.heap.size (fun _ => True) v4 x4_1) ∧ Aside0 (Kd.R (Kd.int .i8) 86 w' w.heap.size (fun _ => True) v5 x5_1) ∧ Aside0 (w'.heap[gb327]? = some (.cells #[(.slice A0_0 l0_0.length c0_0)] 34 (0, 0))) ∧ Aside0 (w'.heap[gb328]? = some (.cells #[(.slice none 0 0), (.slice none 0 0)] 36 (0, 0))) ∧ Aside0 (Below w.heap.size w w'))
  case atStart => exact ⟨(y330), (y333), (0), (by first | rfl | (simp; done) | (simp [*]; done) | (simp [isE_]; done)), H', ⟨Nat.le_refl _⟩, ⟨by (with_reducible repeat (first | apply Kd.R_alloc | apply Kd.R_drewN | apply Kd.R_drew)); exact HO332.out⟩, ⟨by (with_reducible repeat (first | apply Kd.R_alloc | apply Kd.R_drewN | apply Kd.R_drew)); exact HO335.out⟩, ⟨by (with_reducible repeat (first | refine blk_drewN ?_ _ | refine blk_drew ?_ | refine blk_alloc ?_ _)); exact BK327.out⟩, ⟨by (with_reducible repeat (first | refine blk_drewN ?_ _ | refine blk_drew ?_ | refine blk_alloc ?_ _)); exact BK328.out⟩, ⟨by repeat (first | (with_reducible first | exact HB.out | apply below_alloc | apply pw_below_drewN | apply below_drew1 | refine below_set ?_ GE327.out | refine below_set ?_ GE328.out) | exact HB.out)⟩⟩
  case round =>
   clear H'
   try clear p2
   try clear c3
   try clear c4
   try clear c6
   try clear hcz7_0
   try clear hfz7_0
   obtain ⟨x4_1, x5_1, x6_1, rfl, HA, HK1, HO_4, HO_5, BK327, BK328, HB⟩ := hrel
   cases gk with
   | zero => exact absurd HA.out (by simp [impl_ConstantOf.l0])
   | succ k1 =>
    have H := HA.out
    clear HA
    simp only [impl_ConstantOf.l0] at H
    replace H := Option.bind_eq_some_iff.mp H
    obtain ⟨t336, A130, H⟩ := H
    replace H : (if t336 ≥ 0 then (if 0 ≤ t336 then (if t336 ≤ (x5_1.length : Int) then ((impl_normal.f k1 (x5_1.take (t336 : Int).toNat) (x5_1.drop (t336 : Int).toNat)).bind fun bt345 => ((impl_ValidStream.f bt345.1 bt345.2).bind fun t352 => (if t352 = true then (some (bt345.1, bt345.2, 0)) else (some (([] : List Int), ([] : List Int), 3))))) else (none)) else (none)) else (if 0 ≤ x6_1 then (if x6_1 < (l0_0.length : Int) then (if ((rd_T89 l0_0 x6_1).f0) = 1 then (some (([] : List Int), ([] : List Int), 4)) else ((some (([x6_1] : List Int) : List Int)).bind fun y355 => (if x4_1.length + y355.length < 70368744177664 then ((some (([(rd_T89 l0_0 x6_1).f1] : List Int) : List Int)).bind fun y361 => (if x5_1.length + y361.length < 140737488355328 then (impl_ConstantOf.l0 k1 (x4_1 ++ y355) (x5_1 ++ y361) ((rd_T89 l0_0 x6_1).f2.f0) l0_0) else (none))) else (none)))) else (none)) else (none))) = some (r1, r2, r3) := H
    have A13 := Aside0.mk A130
    clear A130
    by_cases c14 : t336 ≥ 0
    ·
     rw [if_pos c14] at H
     have c14b0 : decide (0 ≤ t336) = true := decide_eq_true c14
     clear c14
     by_cases c15 : 0 ≤ t336
     ·
      rw [if_pos c15] at H
      have c15b0 := eq_true c15
      have c15b1 : decide (0 ≤ t336) = true := decide_eq_true c15
      clear c15
      by_cases c16 : t336 ≤ (x5_1.length : Int)
      ·
       rw [if_pos c16] at H
       have c16b0 := eq_true c16
       have c16b1 : decide (t336 ≤ (x5_1.length : Int)) = true := decide_eq_true c16
       clear c16
       obtain ⟨y337, hy337⟩ : ∃ y_ : List Int, y_ = (x5_1.take (t336 : Int).toNat) := ⟨_, rfl⟩
       replace H : ((impl_normal.f k1 y337 (x5_1.drop (t336 : Int).toNat)).bind fun bt345 => ((impl_ValidStream.f bt345.1 bt345.2).bind fun t352 => (if t352 = true then (some (bt345.1, bt345.2, 0)) else (some (([] : List Int), ([] : List Int), 3))))) = some (r1, r2, r3) := by first | (rw [hy337]; with_reducible exact H) | (have H2_ := (Option.bind_some _ _).symm.trans H; rw [hy337]; with_reducible exact H2_) | (have H2_ := (Option.bind_some _ _).symm.trans H; with_reducible exact H2_) | with_reducible exact H | (rw [hy337]; exact H) | exact H
       have Ny337 := Aside0.mk hy337
       clear hy337
       have c17b0 := eq_true (of_decide_eq_true (by assumption) : 0 ≤ t336)
       have c18b0 := eq_true (of_decide_eq_true (by assumption) : t336 ≤ (x5_1.length : Int))
       obtain ⟨y341, hy341⟩ : ∃ y_ : List Int, y_ = (x5_1.drop (t336 : Int).toNat) := ⟨_, rfl⟩
       replace H : ((impl_normal.f k1 y337 y341).bind fun bt345 => ((impl_ValidStream.f bt345.1 bt345.2).bind fun t352 => (if t352 = true then (some (bt345.1, bt345.2, 0)) else (some (([] : List Int), ([] : List Int), 3))))) = some (r1, r2, r3) := by first | (rw [hy341]; with_reducible exact H) | (have H2_ := (Option.bind_some _ _).symm.trans H; rw [hy341]; with_reducible exact H2_) | (have H2_ := (Option.bind_some _ _).symm.trans H; with_reducible exact H2_) | with_reducible exact H | (rw [hy341]; exact H) | exact H
       have Ny341 := Aside0.mk hy341
       clear hy341
       replace H := Option.bind_eq_some_iff.mp H
       obtain ⟨⟨t345, t348⟩, A190, H⟩ := H
       replace H : ((impl_ValidStream.f t345 t348).bind fun t352 => (if t352 = true then (some (t345, t348, 0)) else (some (([] : List Int), ([] : List Int), 3)))) = some (r1, r2, r3) := H
       have A19 := Aside0.mk A190
       clear A190
       replace H := Option.bind_eq_some_iff.mp H
       obtain ⟨t352, A200, H⟩ := H
       replace H : (if t352 = true then (some (t345, t348, 0)) else (some (([] : List Int), ([] : List Int), 3))) = some (r1, r2, r3) := H
       have A20 := Aside0.mk A200
       clear A200
       by_cases c21 : t352 = true
       ·
        subst c21
        have H1 : (some (t345, t348, 0)) = some (r1, r2, r3) := by first | (rw [if_pos rfl] at H; exact H) | rfl
        clear H
        have H := H1
        clear H1
        simp only [Option.some.injEq, Prod.mk.injEq] at H
        obtain ⟨rfl, rfl, rfl⟩ := H
        obtain ⟨Ao22, co22, eo22⟩ := Kd.R_slice HO_4.out
        subst eo22
        try go_wp2_with (first | ((with_reducible refine gate_callee (f := 99) rfl ?_); refine goesL_ (some 18) rfl rfl Try.func99 (by kernel_rfl) rfl #[.slice Ao22 x4_1.length co22, .int .i16 x6_1] rfl z13_10_ ?_; (with_reducible refine (slices_Index_int16_int16.calls k1 _ _ x4_1 x6_1 t336 _ ?side1 ?side2 A13.out).mono ?_); (case side1 => repeat (first | exact (Kd.R_reads' HO_4.out).2.2 | (with_reducible refine Kd.C_alloc ?_ _) | (with_reducible refine Kd.C_drewN ?_ _) | (with_reducible refine Kd.C_drew ?_))); (case side2 => exact (Kd.R_reads' HO_4.out).2.1); rintro e w' ⟨rfl, ⟨nd, rfl⟩⟩; refine ⟨_, rfl, ?_⟩; (try (rw [drewN_self wr]; generalize hq_ : World.drewN wr _ = wr; have n0_ : Aside0 (Kd.R (Kd.int .i16) 85 wr w.heap.size (fun _ => True) (.slice Ao22 x4_1.length co22) x4_1) := ⟨by rw [← hq_]; exact z13_6_⟩; have n1_ : Aside0 (Kd.R (Kd.int .i8) 86 wr w.heap.size (fun _ => True) u5 x5_1) := ⟨by rw [← hq_]; exact z13_5_⟩; have n2_ : Aside0 (wr.heap[gb327]? = some (.cells #[.slice A0_0 l0_0.length c0_0] 34 (0, 0))) := ⟨by rw [← hq_]; exact z13_2_⟩; have n3_ : Aside0 (wr.heap[gb328]? = some (.cells #[.slice none 0 0, .slice none 0 0] 36 (0, 0))) := ⟨by rw [← hq_]; exact z13_3_⟩; have n4_ : Aside0 (Below w.heap.size w wr) := ⟨by rw [← hq_]; exact z13_1_⟩; clear HO_4 HO_5 BK327 BK328 HB hq_; have HO_4 := n0_; have HO_5 := n1_; have BK327 := n2_; have BK328 := n3_; have HB := n4_; clear n0_ n1_ n2_ n3_ n4_))))
        have n0_ := Aside0.mk (Kd.R_drew HO_4.out)
        have n1_ := Aside0.mk (Kd.R_drew HO_5.out)
        have n2_ := Aside0.mk (blk_drew BK327.out)
        have n3_ := Aside0.mk (blk_drew BK328.out)
        have n4_ := Aside0.mk (below_drew1 HB.out)
        clear HO_4
        clear HO_5
        clear BK327
        clear BK328
        clear HB
        have HO_4 := n0_
        have HO_5 := n1_
        have BK327 := n2_
        have BK328 := n3_
        have HB := n4_
        clear n0_ n1_ n2_ n3_ n4_
        obtain ⟨Ao25, co25, eo25⟩ := Kd.R_slice HO_5.out
        (first | subst eo25 | (injection eo25 with f1_ f2_ f3_; have f4_ := f1_.symm; have f5_ := f3_.symm; clear f1_ f2_ f3_; subst f4_; subst f5_))
        have q24 : (t336 : Int) ≤ ((x5_1.length : Int) : Int) := of_decide_eq_true (by assumption)
        obtain ⟨i024, hi024, _, hsz24, _⟩ := info_parts info86
        have hroom24 : x5_1.length ≤ co25 := (Kd.R_reads' HO_5.out).2.1
        have hC24 : Kd.C (Kd.int .i8) _ Ao25 x5_1.length x5_1 := (Kd.R_reads' HO_5.out).2.2
        have hcut24 := cut_to (P := Try.prog) 25 86 .i64 Try.underlying25 hi024 Ao25 x5_1.length co25 t336 (of_decide_eq_true (by assumption)) q24 hroom24
        have hr24 := Kd.C_take (m := (t336 : Int).toNat) hC24 (by omega)
        have hy24 : y337.length = (t336 : Int).toNat := (by rw [Ny337.out, List.length_take]; omega)
        rw [← Ny337.out] at hr24
        rw [← hy24] at hcut24
        have HR340 := Aside0.mk hr24
        have HC340 := Aside0.mk (show y337.length ≤ co25 from by omega)
        clear hr24 hC24 hroom24 hi024 hsz24
        have KY24 := Aside0.mk hy24
        clear hy24
        have KL24 := Aside0.mk (show (t336 : Int).toNat ≤ x5_1.length from by omega)
        replace q24 := eq_true q24
        have q26 : (t336 : Int) ≤ ((x5_1.length : Int) : Int) := of_decide_eq_true (by assumption)
        obtain ⟨i026, hi026, _, hsz26, _⟩ := info_parts info86
        have hroom26 : x5_1.length ≤ co25 := (Kd.R_reads' HO_5.out).2.1
        have hC26 : Kd.C (Kd.int .i8) _ Ao25 x5_1.length x5_1 := (Kd.R_reads' HO_5.out).2.2
        have q026 : (0 : Int) ≤ (t336 : Int) := of_decide_eq_true (by assumption)
        have hcut26 := cut_from (P := Try.prog) 25 86 .i64 Try.underlying25 hi026 1 hsz26 Ao25 x5_1.length co25 t336 q026 q26
        have hr26 := Kd.C_drop (m := (t336 : Int).toNat) (c := co25) hC26 (by omega) hroom26
        obtain ⟨A26, hA26⟩ : ∃ A1, A1 = (if co25 = (t336 : Int).toNat then Ao25 else (Ao25 : Option Addr).map (·.add ((t336 : Int).toNat * 1))) := ⟨_, rfl⟩
        obtain ⟨c26, hc26⟩ : ∃ c1, c1 = co25 - (t336 : Int).toNat := ⟨_, rfl⟩
        have hy26 : y341.length = x5_1.length - (t336 : Int).toNat := (by rw [Ny341.out, List.length_drop] <;> omega)
        rw [show (x5_1).drop (t336 : Int).toNat = y341 from Ny341.out.symm] at hr26
        replace hr26 : Kd.C (Kd.int .i8) _ A26 y341.length y341 := (by rw [hA26]; exact hr26)
        rw [← hy26, ← hA26, ← hc26] at hcut26
        have HR344 := Aside0.mk hr26
        have HC344 := Aside0.mk (show y341.length ≤ c26 from by rw [hy26, hc26]; exact Nat.sub_le_sub_right hroom26 _)
        clear hr26 hC26 hroom26 hi026 hsz26 hc26
        have KY26 := Aside0.mk hy26
        have KA26 := Aside0.mk hA26
        clear hy26 hA26
        have KL26 := Aside0.mk (show (t336 : Int).toNat ≤ x5_1.length from by omega)
        replace q26 := eq_true q26
        refine start_ (n := 9) (S := fun w' => True) (ds := []) #[false, false, false, false, false, false, false, false, false] (by kernel_rfl) rfl rfl trivial (fun hHeld => ?_); refine with_tabW impl_ConstantOf.tab7 impl_ConstantOf.bits7 (fun HT_ HW_ => ?_)
        generalize wr.drew = w23 at HO_4 HO_5 BK327 BK328 HB HR340 HR344 hHeld ⊢
        refine pure_ (i := 0) (N := some 21) (v := ?_) (a' := ?_) #[true, false, false, false, false, false, false, false, false] rfl rfl (any_of HT_.out (by kernel_rfl)) (fun _ _ _ h => h) (Or.inl ⟨by rfl, ?_⟩) ?_ ?_
        rotate_left
        ·
         intro w'
         go_simp
         with_reducible rfl
        rotate_left
        ·
         simp only [Act.put, sA_, sB_, sC_, i64_w, i32_w]
         rfl
        refine pure_ (i := 1) (N := some 22) (v := ?_) (a' := ?_) #[true, true, false, false, false, false, false, false, false] rfl rfl (any_of HT_.out (by kernel_rfl)) (fun _ _ _ h => h) (Or.inl ⟨by rfl, ?_⟩) ?_ ?_
        rotate_left
        ·
         intro w'
         go_simp
         with_reducible rfl
        rotate_left
        ·
         simp only [Act.put, sA_, sB_, sC_, i64_w, i32_w]
         rfl
        refine pure_ (i := 2) (N := some 23) (v := ?_) (a' := ?_) #[true, true, true, false, false, false, false, false, false] rfl rfl (any_of HT_.out (by kernel_rfl)) (fun _ _ _ h => h) (Or.inl ⟨by rfl, ?_⟩) ?_ ?_
        rotate_left
        ·
         intro w'
         go_simp
         with_reducible rfl
        rotate_left
        ·
         simp only [Act.put, sA_, sB_, sC_, i64_w, i32_w]
         rfl
        refine pure_ (i := 3) (N := some 24) (v := ?_) (a' := ?_) #[true, true, true, true, false, false, false, false, false] rfl rfl (any_of HT_.out (by kernel_rfl)) (fun _ _ _ h => h) (Or.inl ⟨by rfl, ?_⟩) ?_ ?_
        rotate_left
        ·
         intro w'
         go_simp
         with_reducible rfl
        rotate_left
        ·
         simp only [Act.put, sA_, sB_, sC_, i64_w, i32_w]
         rfl
        refine pure_ (i := 4) (N := some 25) (v := ?_) (a' := ?_) #[true, true, true, true, true, false, false, false, false] rfl rfl (any_of HT_.out (by kernel_rfl)) (fun _ _ _ h => h) (Or.inl ⟨by rfl, ?_⟩) ?_ ?_
        rotate_left
        ·
         intro w'
         go_simp
         with_reducible rfl
        rotate_left
        ·
         simp only [Act.put, sA_, sB_, sC_, i64_w, i32_w]
         rfl
        refine pure_ (i := 5) (N := some 26) (v := ?_) (a' := ?_) #[true, true, true, true, true, true, false, false, false] rfl rfl (any_of HT_.out (by kernel_rfl)) (fun _ _ _ h => h) (Or.inl ⟨by rfl, ?_⟩) ?_ ?_
        rotate_left
        ·
         intro w'
         go_simp
         with_reducible rfl
        rotate_left
        ·
         simp only [Act.put, sA_, sB_, sC_, i64_w, i32_w]
         rfl
        refine join_ (σ := Value × Value × Nat) 1 #[true, true, true, true, true, true, true, true, false] (fun s_ => [(27, .agg #[s_.1, s_.2.1]), (8, .pointer (some ⟨s_.2.2, 0, none⟩))]) (fun s_ w' => (Kd.R (Kd.int .i8) 86 w' w.heap.size (fun k_ => some k_ ≠ (s_.2.1 : Value).ownBlock ∧ some k_ ≠ (.slice Ao25 x5_1.length co25 : Value).ownBlock) s_.1 t345) ∧ (Kd.R (Kd.int .i8) 86 w' w.heap.size (fun k_ => some k_ ≠ (s_.1 : Value).ownBlock ∧ some k_ ≠ (.slice Ao25 x5_1.length co25 : Value).ownBlock) s_.2.1 t348) ∧ (Kd.R (Kd.int .i16) 85 w' w.heap.size (fun _ => True) (.slice Ao22 x4_1.length co22) x4_1) ∧ (Kd.R (Kd.int .i8) 86 w' w.heap.size (fun k_ => some k_ ≠ (s_.1 : Value).ownBlock ∧ some k_ ≠ (s_.2.1 : Value).ownBlock) (.slice Ao25 x5_1.length co25) x5_1) ∧ (w'.heap[gb327]? = some (.cells #[.slice A0_0 l0_0.length c0_0] 34 (0, 0))) ∧ (w'.heap[gb328]? = some (.cells #[.slice none 0 0, .slice none 0 0] 36 (0, 0))) ∧ (w'.heap[s_.2.2]? = some (.cells #[.slice none 0 0, .slice none 0 0] 36 (0, 0))) ∧ (w.heap.size ≤ s_.2.2) ∧ (w.heap.size ≤ s_.2.2) ∧ (gb327 ≠ s_.2.2) ∧ (s_.2.2 ≠ gb327) ∧ (gb328 ≠ s_.2.2) ∧ (s_.2.2 ≠ gb328) ∧ (Below w.heap.size w w')) ?_ ?_
        rotate_left
        ·
         intro hCont
         refine two_ (i := 6) (j := 7) (Ni := some 27) (Nj := some 8) #[true, true, true, true, true, true, true, false, false] #[true, true, true, true, true, true, false, true, false] rfl rfl rfl rfl (two_of HT_.out (by kernel_rfl)) (by decide) (by decide) (fun K hK => ?_) (fun K hK => ?_)
         ·
          skip
          refine goes_ Try.func100 (by kernel_rfl) rfl #[.slice Ao25 y337.length co25, .slice A26 y341.length c26] (by rfl) rfl rfl z13_10_ ?_
          with_reducible refine (impl_normal.calls k1 _ _ y337 _ _ y341 t345 t348 _ ?side1 ?side2 ?side3 ?side4 A19.out).mono ?_
          (case side1 => repeat (first | exact z13_9_ | (with_reducible refine Kd.C_alloc ?_ _) | (with_reducible refine Kd.C_drewN ?_ _) | (with_reducible refine Kd.C_drew ?_)))
          (case side2 => exact HC340.out)
          (case side3 => repeat (first | exact z13_8_ | (with_reducible refine Kd.C_alloc ?_ _) | (with_reducible refine Kd.C_drewN ?_ _) | (with_reducible refine Kd.C_drew ?_)))
          (case side4 => exact HC344.out)
          rintro e w27 ⟨v346, v349, rfl, ho0, ho1, hb⟩
          refine ⟨_, rfl, ?_⟩
          have n0_ := Aside0.mk (Kd.R_below z13_6_ hb)
          have n1_ := Aside0.mk (Kd.R_mono (Kd.R_told (Kd.R_told (Kd.R_old z13_5_ hb) (Kd.R_base ho0)) (Kd.R_base ho1)) (fun _ h_ => h_.1))
          have n2_ := Aside0.mk (Kd.R_lower (Kd.R_new' ho0 (Kd.R_lt z13_5_)) (below_size z13_1_))
          have n3_ := Aside0.mk (Kd.R_lower (Kd.R_new' ho1 (Kd.R_lt z13_5_)) (below_size z13_1_))
          have n4_ := Aside0.mk (blk_below (g := gb327) (o := .cells #[.slice A0_0 l0_0.length c0_0] 34 (0, 0)) z13_2_ hb)
          have n5_ := Aside0.mk (blk_below (g := gb328) (o := .cells #[.slice none 0 0, .slice none 0 0] 36 (0, 0)) z13_3_ hb)
          have n6_ := Aside0.mk (Kd.C_below z13_9_ hb)
          have n7_ := Aside0.mk (Kd.C_below z13_8_ hb)
          have n8_ := Aside0.mk (below_step z13_1_ hb)
          clear HO_4
          clear HO_5
          clear BK327
          clear BK328
          clear HR340
          clear HR344
          clear HB
          have HO_4 := n0_
          have HO_5 := n1_
          have HO347 := n2_
          have HO350 := n3_
          have BK327 := n4_
          have BK328 := n5_
          have HR340 := n6_
          have HR344 := n7_
          have HB := n8_
          clear n0_ n1_ n2_ n3_ n4_ n5_ n6_ n7_ n8_
          (try clear hb)
          (try clear hb2)
          (try clear hk)
          (try clear hi)
          (try clear ho0)
          (try clear ho1)
          refine hK.out _ _ trivial (fun hHeld => ?_)
          clear hK K
          refine norm_ (a' := ?_) ?_ ?_
          rotate_left
          ·
           show Act.put _ (some 27) _ = _
           simp only [Act.put, sA_, sB_, sC_, i64_w, i32_w]
           rfl
          refine one_ (i := 7) (N := some 8) #[true, true, true, true, true, true, true, true, false] rfl rfl (one_of HT_.out (by kernel_rfl)) (by decide) (fun K hK => ?_)
          refine box_step ?hg (N := 8) ?hd (cs := #[.slice none 0 0, .slice none 0 0]) (t := 36) ?hr ?_; (case hd => rfl); (case hg => rfl); (case hr => first | (go_simp; done) | (go_simp; rfl))
          intro gb351 hg w28 hbox hb
          have n0_ := Aside0.mk (Kd.R_below z13_6_ hb)
          have n1_ := Aside0.mk (Kd.R_below z13_5_ hb)
          have n2_ := Aside0.mk (Kd.R_below z13_17_ hb)
          have n3_ := Aside0.mk (Kd.R_below z13_16_ hb)
          have n4_ := Aside0.mk (blk_below (g := gb327) (o := .cells #[.slice A0_0 l0_0.length c0_0] 34 (0, 0)) z13_2_ hb)
          have n5_ := Aside0.mk (blk_below (g := gb328) (o := .cells #[.slice none 0 0, .slice none 0 0] 36 (0, 0)) z13_3_ hb)
          have n6_ := Aside0.mk (Kd.C_below z13_9_ hb)
          have n7_ := Aside0.mk (Kd.C_below z13_8_ hb)
          have n8_ := Aside0.mk (below_step z13_1_ hb)
          have n9_ := Aside0.mk (hbox)
          have n10_ := Aside0.mk ((by rw [hg]; exact (below_size z13_1_) : w.heap.size ≤ gb351))
          have n11_ := Aside0.mk ((by rw [hg]; exact (below_size z13_1_) : w.heap.size ≤ gb351))
          have n12_ := Aside0.mk ((by rw [hg]; exact Nat.ne_of_lt (blk_lt (g := gb327) (o := .cells #[.slice A0_0 l0_0.length c0_0] 34 (0, 0)) z13_2_) : gb327 ≠ gb351))
          have n13_ := Aside0.mk ((by rw [hg]; exact Nat.ne_of_gt (blk_lt (g := gb327) (o := .cells #[.slice A0_0 l0_0.length c0_0] 34 (0, 0)) z13_2_) : gb351 ≠ gb327))
          have n14_ := Aside0.mk ((by rw [hg]; exact Nat.ne_of_lt (blk_lt (g := gb328) (o := .cells #[.slice none 0 0, .slice none 0 0] 36 (0, 0)) z13_3_) : gb328 ≠ gb351))
          have n15_ := Aside0.mk ((by rw [hg]; exact Nat.ne_of_gt (blk_lt (g := gb328) (o := .cells #[.slice none 0 0, .slice none 0 0] 36 (0, 0)) z13_3_) : gb351 ≠ gb328))
          clear HO_4
          clear HO_5
          clear HO347
          clear HO350
          clear BK327
          clear BK328
          clear HR340
          clear HR344
          clear HB
          have HO_4 := n0_
          have HO_5 := n1_
          have HO347 := n2_
          have HO350 := n3_
          have BK327 := n4_
          have BK328 := n5_
          have HR340 := n6_
          have HR344 := n7_
          have HB := n8_
          have BK351 := n9_
          have GW351 := n10_
          have GE351 := n11_
          have NB327_351 := n12_
          have NB351_327 := n13_
          have NB328_351 := n14_
          have NB351_328 := n15_
          clear n0_ n1_ n2_ n3_ n4_ n5_ n6_ n7_ n8_ n9_ n10_ n11_ n12_ n13_ n14_ n15_
          clear hb hbox hg
          refine hK.out _ _ trivial (fun hHeld => ?_)
          clear hK K
          refine norm_ (a' := ?_) ?_ ?_
          rotate_left
          ·
           show Act.put _ (some 8) _ = _
           simp only [Act.put, sA_, sB_, sC_, i64_w, i32_w]
           rfl
          exact norm_ z13_32_ (hCont (v346, v349, gb351) _ ⟨z13_17_, z13_16_, z13_6_, z13_19_, z13_2_, z13_3_, z13_15_, GW351.out, GE351.out, NB327_351.out, NB351_327.out, NB328_351.out, NB351_328.out, z13_7_⟩)
         ·
          skip
          refine box_step ?hg (N := 8) ?hd (cs := #[.slice none 0 0, .slice none 0 0]) (t := 36) ?hr ?_; (case hd => rfl); (case hg => rfl); (case hr => first | (go_simp; done) | (go_simp; rfl))
          intro gb351 hg w27 hbox hb
          have n0_ := Aside0.mk (Kd.R_below z13_6_ hb)
          have n1_ := Aside0.mk (Kd.R_below z13_5_ hb)
          have n2_ := Aside0.mk (blk_below (g := gb327) (o := .cells #[.slice A0_0 l0_0.length c0_0] 34 (0, 0)) z13_2_ hb)
          have n3_ := Aside0.mk (blk_below (g := gb328) (o := .cells #[.slice none 0 0, .slice none 0 0] 36 (0, 0)) z13_3_ hb)
          have n4_ := Aside0.mk (Kd.C_below z13_9_ hb)
          have n5_ := Aside0.mk (Kd.C_below z13_8_ hb)
          have n6_ := Aside0.mk (below_step z13_1_ hb)
          have n7_ := Aside0.mk (hbox)
          have n8_ := Aside0.mk ((by rw [hg]; exact (below_size z13_1_) : w.heap.size ≤ gb351))
          have n9_ := Aside0.mk ((by rw [hg]; exact (below_size z13_1_) : w.heap.size ≤ gb351))
          have n10_ := Aside0.mk ((by rw [hg]; exact Nat.ne_of_lt (blk_lt (g := gb327) (o := .cells #[.slice A0_0 l0_0.length c0_0] 34 (0, 0)) z13_2_) : gb327 ≠ gb351))
          have n11_ := Aside0.mk ((by rw [hg]; exact Nat.ne_of_gt (blk_lt (g := gb327) (o := .cells #[.slice A0_0 l0_0.length c0_0] 34 (0, 0)) z13_2_) : gb351 ≠ gb327))
          have n12_ := Aside0.mk ((by rw [hg]; exact Nat.ne_of_lt (blk_lt (g := gb328) (o := .cells #[.slice none 0 0, .slice none 0 0] 36 (0, 0)) z13_3_) : gb328 ≠ gb351))
          have n13_ := Aside0.mk ((by rw [hg]; exact Nat.ne_of_gt (blk_lt (g := gb328) (o := .cells #[.slice none 0 0, .slice none 0 0] 36 (0, 0)) z13_3_) : gb351 ≠ gb328))
          clear HO_4
          clear HO_5
          clear BK327
          clear BK328
          clear HR340
          clear HR344
          clear HB
          have HO_4 := n0_
          have HO_5 := n1_
          have BK327 := n2_
          have BK328 := n3_
          have HR340 := n4_
          have HR344 := n5_
          have HB := n6_
          have BK351 := n7_
          have GW351 := n8_
          have GE351 := n9_
          have NB327_351 := n10_
          have NB351_327 := n11_
          have NB328_351 := n12_
          have NB351_328 := n13_
          clear n0_ n1_ n2_ n3_ n4_ n5_ n6_ n7_ n8_ n9_ n10_ n11_ n12_ n13_
          clear hb hbox hg
          refine hK.out _ _ trivial (fun hHeld => ?_)
          clear hK K
          refine norm_ (a' := ?_) ?_ ?_
          rotate_left
          ·
           show Act.put _ (some 8) _ = _
           simp only [Act.put, sA_, sB_, sC_, i64_w, i32_w]
           rfl
          refine one_ (i := 6) (N := some 27) #[true, true, true, true, true, true, true, true, false] rfl rfl (one_of HT_.out (by kernel_rfl)) (by decide) (fun K hK => ?_)
          refine goes_ Try.func100 (by kernel_rfl) rfl #[.slice Ao25 y337.length co25, .slice A26 y341.length c26] (by rfl) rfl rfl z13_10_ ?_
          with_reducible refine (impl_normal.calls k1 _ _ y337 _ _ y341 t345 t348 _ ?side1 ?side2 ?side3 ?side4 A19.out).mono ?_
          (case side1 => repeat (first | exact z13_9_ | (with_reducible refine Kd.C_alloc ?_ _) | (with_reducible refine Kd.C_drewN ?_ _) | (with_reducible refine Kd.C_drew ?_)))
          (case side2 => exact HC340.out)
          (case side3 => repeat (first | exact z13_8_ | (with_reducible refine Kd.C_alloc ?_ _) | (with_reducible refine Kd.C_drewN ?_ _) | (with_reducible refine Kd.C_drew ?_)))
          (case side4 => exact HC344.out)
          rintro e w28 ⟨v346, v349, rfl, ho0, ho1, hb⟩
          refine ⟨_, rfl, ?_⟩
          have n0_ := Aside0.mk (Kd.R_below z13_6_ hb)
          have n1_ := Aside0.mk (Kd.R_mono (Kd.R_told (Kd.R_told (Kd.R_old z13_5_ hb) (Kd.R_base ho0)) (Kd.R_base ho1)) (fun _ h_ => h_.1))
          have n2_ := Aside0.mk (Kd.R_lower (Kd.R_new' ho0 (Kd.R_lt z13_5_)) (below_size z13_7_))
          have n3_ := Aside0.mk (Kd.R_lower (Kd.R_new' ho1 (Kd.R_lt z13_5_)) (below_size z13_7_))
          have n4_ := Aside0.mk (blk_below (g := gb327) (o := .cells #[.slice A0_0 l0_0.length c0_0] 34 (0, 0)) z13_2_ hb)
          have n5_ := Aside0.mk (blk_below (g := gb328) (o := .cells #[.slice none 0 0, .slice none 0 0] 36 (0, 0)) z13_3_ hb)
          have n6_ := Aside0.mk (Kd.C_below z13_9_ hb)
          have n7_ := Aside0.mk (Kd.C_below z13_8_ hb)
          have n8_ := Aside0.mk (blk_below (g := gb351) (o := .cells #[.slice none 0 0, .slice none 0 0] 36 (0, 0)) z13_15_ hb)
          have n9_ := Aside0.mk (below_step z13_7_ hb)
          clear HO_4
          clear HO_5
          clear BK327
          clear BK328
          clear HR340
          clear HR344
          clear BK351
          clear HB
          have HO_4 := n0_
          have HO_5 := n1_
          have HO347 := n2_
          have HO350 := n3_
          have BK327 := n4_
          have BK328 := n5_
          have HR340 := n6_
          have HR344 := n7_
          have BK351 := n8_
          have HB := n9_
          clear n0_ n1_ n2_ n3_ n4_ n5_ n6_ n7_ n8_ n9_
          (try clear hb)
          (try clear hb2)
          (try clear hk)
          (try clear hi)
          (try clear ho0)
          (try clear ho1)
          refine hK.out _ _ trivial (fun hHeld => ?_)
          clear hK K
          refine norm_ (a' := ?_) ?_ ?_
          rotate_left
          ·
           show Act.put _ (some 27) _ = _
           simp only [Act.put, sA_, sB_, sC_, i64_w, i32_w]
           rfl
          exact norm_ z13_32_ (hCont (v346, v349, gb351) _ ⟨z13_17_, z13_16_, z13_6_, z13_19_, z13_2_, z13_3_, z13_15_, GW351.out, GE351.out, NB327_351.out, NB351_327.out, NB328_351.out, NB351_328.out, z13_7_⟩)
        rintro ⟨v346, v349, gb351⟩ w29 ⟨h0_, h1_, h2_, h3_, h4_, h5_, h6_, h7_, h8_, h9_, h10_, h11_, h12_, h13_⟩
        have n0_ : Aside0 (Kd.R (Kd.int .i8) 86 w29 w.heap.size (fun k_ => some k_ ≠ (v349 : Value).ownBlock ∧ some k_ ≠ (.slice Ao25 x5_1.length co25 : Value).ownBlock) v346 t345) := ⟨h0_⟩
        have n1_ : Aside0 (Kd.R (Kd.int .i8) 86 w29 w.heap.size (fun k_ => some k_ ≠ (v346 : Value).ownBlock ∧ some k_ ≠ (.slice Ao25 x5_1.length co25 : Value).ownBlock) v349 t348) := ⟨h1_⟩
        have n2_ : Aside0 (Kd.R (Kd.int .i16) 85 w29 w.heap.size (fun _ => True) (.slice Ao22 x4_1.length co22) x4_1) := ⟨h2_⟩
        have n3_ : Aside0 (Kd.R (Kd.int .i8) 86 w29 w.heap.size (fun k_ => some k_ ≠ (v346 : Value).ownBlock ∧ some k_ ≠ (v349 : Value).ownBlock) (.slice Ao25 x5_1.length co25) x5_1) := ⟨h3_⟩
        have n4_ : Aside0 (w29.heap[gb327]? = some (.cells #[.slice A0_0 l0_0.length c0_0] 34 (0, 0))) := ⟨h4_⟩
        have n5_ : Aside0 (w29.heap[gb328]? = some (.cells #[.slice none 0 0, .slice none 0 0] 36 (0, 0))) := ⟨h5_⟩
        have n6_ : Aside0 (w29.heap[gb351]? = some (.cells #[.slice none 0 0, .slice none 0 0] 36 (0, 0))) := ⟨h6_⟩
        have n7_ : Aside0 (w.heap.size ≤ gb351) := ⟨h7_⟩
        have n8_ : Aside0 (w.heap.size ≤ gb351) := ⟨h8_⟩
        have n9_ : Aside0 (gb327 ≠ gb351) := ⟨h9_⟩
        have n10_ : Aside0 (gb351 ≠ gb327) := ⟨h10_⟩
        have n11_ : Aside0 (gb328 ≠ gb351) := ⟨h11_⟩
        have n12_ : Aside0 (gb351 ≠ gb328) := ⟨h12_⟩
        have n13_ : Aside0 (Below w.heap.size w w29) := ⟨h13_⟩
        clear HO_4
        clear HO_5
        clear BK327
        clear BK328
        clear HB
        clear h0_ h1_ h2_ h3_ h4_ h5_ h6_ h7_ h8_ h9_ h10_ h11_ h12_ h13_
        have HO347 := n0_
        have HO350 := n1_
        have HO_4 := n2_
        have HO_5 := n3_
        have BK327 := n4_
        have BK328 := n5_
        have BK351 := n6_
        have GW351 := n7_
        have GE351 := n8_
        have NB327_351 := n9_
        have NB351_327 := n10_
        have NB328_351 := n11_
        have NB351_328 := n12_
        have HB := n13_
        clear n0_ n1_ n2_ n3_ n4_ n5_ n6_ n7_ n8_ n9_ n10_ n11_ n12_ n13_
        have hHeld := trivial
        obtain ⟨Ao30, co30, eo30⟩ := Kd.R_slice HO347.out
        (first | subst eo30 | (injection eo30 with f1_ f2_ f3_; have f4_ := f1_.symm; have f5_ := f3_.symm; clear f1_ f2_ f3_; subst f4_; subst f5_))
        obtain ⟨Ao32, co32, eo32⟩ := Kd.R_slice HO350.out
        (first | subst eo32 | (injection eo32 with f1_ f2_ f3_; have f4_ := f1_.symm; have f5_ := f3_.symm; clear f1_ f2_ f3_; subst f4_; subst f5_))
        refine norm_ (a' := ?_) ?_ ?_
        rotate_left
        ·
         simp only [putAll, Act.put, sA_, sB_, sC_]
         rfl
        refine one_ (i := 8) (N := none) #[true, true, true, true, true, true, true, true, true] rfl rfl (one_of HT_.out (by kernel_rfl)) (by decide) (fun K hK => ?_)
        have hs31 : w29.cell? ⟨gb351, 0, none⟩ = some (.slice none 0 0) := (blk_cell BK351.out 0).trans rfl
        have hfs31 := blk_frozen BK351.out 0
        have hns31_0 := NB327_351.out
        have hns31_1 := NB328_351.out
        have hms31_0 := NB351_327.out
        have hms31_1 := NB351_328.out
        have hs33 : w29.cell? ⟨gb351, 1, none⟩ = some (.slice none 0 0) := (blk_cell BK351.out 1).trans rfl
        have hfs33 := blk_frozen BK351.out 1
        have hns33_0 := NB327_351.out
        have hns33_1 := NB328_351.out
        have hms33_0 := NB351_327.out
        have hms33_1 := NB351_328.out
        refine skip_ (w1 := ?_) (by rfl) rfl ?_ ?_
        rotate_left
        ·
         go_simp
         rfl
        refine hK.out _ _ trivial (fun hHeld => ?_)
        clear hK K
        refine done_ (done_of HT_.out (by kernel_rfl)) ?_
        have hnb34 := NB351_327.out
        have hnc34 := NB327_351.out
        have hnb35 := NB351_328.out
        have hnc35 := NB328_351.out
        have hcz36_0 : w29.cell? ⟨gb351, 0, none⟩ = some (.slice none 0 0) := (blk_cell BK351.out 0).trans rfl
        have hcz36_1 : w29.cell? ⟨gb351, 1, none⟩ = some (.slice none 0 0) := (blk_cell BK351.out 1).trans rfl
        have hfz36_0 := blk_frozen BK351.out 0
        have hfz36_1 := blk_frozen BK351.out 1
        try go_wp2_with (first | ((with_reducible refine gate_callee (f := 61) rfl ?_); refine goesL_ (some 29) rfl rfl Try.func61 (by kernel_rfl) rfl #[.agg #[.slice Ao30 t345.length co30, .slice Ao32 t348.length co32]] rfl z13_10_ ?_; (with_reducible refine (impl_ValidStream.calls _ _ t345 _ _ t348 true _ ?side1 ?side2 ?side3 ?side4 A20.out).mono ?_); (case side1 => refine (Kd.R_reads' (e := 86) (base := w.heap.size) (ok := fun k_ => (some k_ ≠ (.slice Ao32 t348.length co32 : Value).ownBlock ∧ some k_ ≠ (.slice Ao25 x5_1.length co25 : Value).ownBlock)) (n := t345.length) (c := co30) ?_).2.2; exact z13_26_); (case side2 => exact (Kd.R_reads' HO347.out).2.1); (case side3 => refine (Kd.R_reads' (e := 86) (base := w.heap.size) (ok := fun k_ => (some k_ ≠ (.slice Ao30 t345.length co30 : Value).ownBlock ∧ some k_ ≠ (.slice Ao25 x5_1.length co25 : Value).ownBlock)) (n := t348.length) (c := co32) ?_).2.2; exact z13_24_); (case side4 => exact (Kd.R_reads' HO350.out).2.1); rintro e w37 ⟨rfl, hb⟩; refine ⟨_, rfl, ?_⟩; have n0_ := Aside0.mk (Kd.R_below (by (with_reducible repeat (first | apply Kd.R_alloc | apply Kd.R_drewN | apply Kd.R_drew)); exact (Kd.R_mono (Kd.R_far (p := ⟨gb351, 1, none⟩) (Kd.R_far (p := ⟨gb351, 0, none⟩) (Kd.R_types HO_4.out BK351.out (by decide)) (fun _ hk => hk.2) (.slice Ao30 t345.length co30)) (fun _ hk => hk.2) (.slice Ao32 t348.length co32)) (fun _ h_ => h_.1))) hb); have n1_ := Aside0.mk (Kd.R_below (by (with_reducible repeat (first | apply Kd.R_alloc | apply Kd.R_drewN | apply Kd.R_drew)); exact (Kd.R_mono (Kd.R_far (p := ⟨gb351, 1, none⟩) (Kd.R_far (p := ⟨gb351, 0, none⟩) (Kd.R_types HO_5.out BK351.out (by decide)) (fun _ hk => hk.2) (.slice Ao30 t345.length co30)) (fun _ hk => hk.2) (.slice Ao32 t348.length co32)) (fun _ h_ => h_.1))) hb); have n2_ := Aside0.mk (Kd.R_below z13_26_ hb); have n3_ := Aside0.mk (Kd.R_below z13_24_ hb); have n4_ := Aside0.mk (blk_below (g := gb327) (o := .cells #[.slice A0_0 l0_0.length c0_0] 34 (0, 0)) z13_22_ hb); have n5_ := Aside0.mk (blk_below (g := gb328) (o := .cells #[.slice none 0 0, .slice none 0 0] 36 (0, 0)) z13_21_ hb); have n6_ := Aside0.mk (blk_below (g := gb351) (o := .cells #[.slice Ao30 t345.length co30, .slice Ao32 t348.length co32] 36 (0, 0)) (by (with_reducible repeat (first | refine blk_drewN ?_ _ | refine blk_drew ?_ | refine blk_alloc ?_ _)); refine blk_put (cs := #[.slice Ao30 t345.length co30, .slice none 0 0]) ?_ 1 _ rfl; (with_reducible repeat (first | refine blk_drewN ?_ _ | refine blk_drew ?_ | refine blk_alloc ?_ _)); refine blk_put (cs := #[.slice none 0 0, .slice none 0 0]) ?_ 0 _ rfl; (with_reducible repeat (first | refine blk_drewN ?_ _ | refine blk_drew ?_ | refine blk_alloc ?_ _)); exact BK351.out) hb); have n7_ := Aside0.mk (below_step z13_7_ hb); clear HO_4; clear HO_5; clear HO347; clear HO350; clear BK327; clear BK328; clear BK351; clear HB; have HO_4 := n0_; have HO_5 := n1_; have HO347 := n2_; have HO350 := n3_; have BK327 := n4_; have BK328 := n5_; have BK351 := n6_; have HB := n7_; clear n0_ n1_ n2_ n3_ n4_ n5_ n6_ n7_; (try clear hb); (try clear hb2); (try clear hk); (try clear hi); have hcz38_0 : w37.cell? ⟨gb351, 0, none⟩ = some (.slice Ao30 t345.length co30) := (blk_cell BK351.out 0).trans rfl; have hcz38_1 : w37.cell? ⟨gb351, 1, none⟩ = some (.slice Ao32 t348.length co32) := (blk_cell BK351.out 1).trans rfl; have hfz38_0 := blk_frozen BK351.out 0; have hfz38_1 := blk_frozen BK351.out 1; have hnb39 := NB328_327.out; have hnc39 := NB327_328.out; have hcz40_0 : w37.cell? ⟨gb328, 0, none⟩ = some (.slice none 0 0) := (blk_cell BK328.out 0).trans rfl; have hcz40_1 : w37.cell? ⟨gb328, 1, none⟩ = some (.slice none 0 0) := (blk_cell BK328.out 1).trans rfl; have hfz40_0 := blk_frozen BK328.out 0; have hfz40_1 := blk_frozen BK328.out 1))
        refine bodyPost_ret (results_ct rfl _ _ gb328 36 #[.slice Ao30 t345.length co30, .slice Ao32 t348.length co32] (0, 0) _ rfl (by (with_reducible repeat (first | refine blk_drewN ?_ _ | refine blk_drew ?_ | refine blk_alloc ?_ _)); refine blk_put (cs := #[.slice Ao30 t345.length co30, .slice none 0 0]) ?_ 1 _ rfl; (with_reducible repeat (first | refine blk_drewN ?_ _ | refine blk_drew ?_ | refine blk_alloc ?_ _)); refine blk_put (cs := #[.slice none 0 0, .slice none 0 0]) ?_ 0 _ rfl; (with_reducible repeat (first | refine blk_drewN ?_ _ | refine blk_drew ?_ | refine blk_alloc ?_ _)); exact BK328.out) Try.underlying36 rfl (by kernel_rfl)) rfl ?_
        exact ⟨_, _, by first | rfl | (simp [errW_none, errW_some] <;> rfl) | (simp [*, errW_none, errW_some] <;> rfl), by (with_reducible repeat (first | apply Kd.R_alloc | apply Kd.R_drewN | apply Kd.R_drew)); exact Kd.R_mono (Kd.R_far (p := ⟨gb328, 1, none⟩) (Kd.R_far (p := ⟨gb328, 0, none⟩) (Kd.R_types HO347.out BK328.out (by decide)) (fun _ hk => hk.2) (.slice Ao30 t345.length co30)) (fun _ hk => hk.2) (.slice Ao32 t348.length co32)) (fun _ hk => hk.1.1), by (with_reducible repeat (first | apply Kd.R_alloc | apply Kd.R_drewN | apply Kd.R_drew)); exact Kd.R_mono (Kd.R_far (p := ⟨gb328, 1, none⟩) (Kd.R_far (p := ⟨gb328, 0, none⟩) (Kd.R_types HO350.out BK328.out (by decide)) (fun _ hk => hk.2) (.slice Ao30 t345.length co30)) (fun _ hk => hk.2) (.slice Ao32 t348.length co32)) (fun _ hk => hk.1.1), by repeat (first | (with_reducible first | exact HB.out | apply below_alloc | apply pw_below_drewN | apply below_drew1 | refine below_set ?_ GE327.out | refine below_set ?_ GE328.out | refine below_set ?_ GE351.out) | exact HB.out)⟩
       ·
        replace c21 := Bool.eq_false_iff.mpr c21
        subst c21
        have H1 : (some (([] : List Int), ([] : List Int), 3)) = some (r1, r2, r3) := by first | (rw [if_neg (show ¬ (false = true) by decide)] at H; exact H) | rfl
        clear H
        have H := H1
        clear H1
        simp only [Option.some.injEq, Prod.mk.injEq] at H
        obtain ⟨rfl, rfl, rfl⟩ := H
        obtain ⟨Ao41, co41, eo41⟩ := Kd.R_slice HO_4.out
        subst eo41
        try go_wp2_with (first | ((with_reducible refine gate_callee (f := 99) rfl ?_); refine goesL_ (some 18) rfl rfl Try.func99 (by kernel_rfl) rfl #[.slice Ao41 x4_1.length co41, .int .i16 x6_1] rfl z13_10_ ?_; (with_reducible refine (slices_Index_int16_int16.calls k1 _ _ x4_1 x6_1 t336 _ ?side1 ?side2 A13.out).mono ?_); (case side1 => repeat (first | exact (Kd.R_reads' HO_4.out).2.2 | (with_reducible refine Kd.C_alloc ?_ _) | (with_reducible refine Kd.C_drewN ?_ _) | (with_reducible refine Kd.C_drew ?_))); (case side2 => exact (Kd.R_reads' HO_4.out).2.1); rintro e w' ⟨rfl, ⟨nd, rfl⟩⟩; refine ⟨_, rfl, ?_⟩; (try (rw [drewN_self wr]; generalize hq_ : World.drewN wr _ = wr; have n0_ : Aside0 (Kd.R (Kd.int .i16) 85 wr w.heap.size (fun _ => True) (.slice Ao41 x4_1.length co41) x4_1) := ⟨by rw [← hq_]; exact z13_6_⟩; have n1_ : Aside0 (Kd.R (Kd.int .i8) 86 wr w.heap.size (fun _ => True) u5 x5_1) := ⟨by rw [← hq_]; exact z13_5_⟩; have n2_ : Aside0 (wr.heap[gb327]? = some (.cells #[.slice A0_0 l0_0.length c0_0] 34 (0, 0))) := ⟨by rw [← hq_]; exact z13_2_⟩; have n3_ : Aside0 (wr.heap[gb328]? = some (.cells #[.slice none 0 0, .slice none 0 0] 36 (0, 0))) := ⟨by rw [← hq_]; exact z13_3_⟩; have n4_ : Aside0 (Below w.heap.size w wr) := ⟨by rw [← hq_]; exact z13_1_⟩; clear HO_4 HO_5 BK327 BK328 HB hq_; have HO_4 := n0_; have HO_5 := n1_; have BK327 := n2_; have BK328 := n3_; have HB := n4_; clear n0_ n1_ n2_ n3_ n4_))))
        have n0_ := Aside0.mk (Kd.R_drew HO_4.out)
        have n1_ := Aside0.mk (Kd.R_drew HO_5.out)
        have n2_ := Aside0.mk (blk_drew BK327.out)
        have n3_ := Aside0.mk (blk_drew BK328.out)
        have n4_ := Aside0.mk (below_drew1 HB.out)
        clear HO_4
        clear HO_5
        clear BK327
        clear BK328
        clear HB
        have HO_4 := n0_
        have HO_5 := n1_
        have BK327 := n2_
        have BK328 := n3_
        have HB := n4_
        clear n0_ n1_ n2_ n3_ n4_
        obtain ⟨Ao44, co44, eo44⟩ := Kd.R_slice HO_5.out
        (first | subst eo44 | (injection eo44 with f1_ f2_ f3_; have f4_ := f1_.symm; have f5_ := f3_.symm; clear f1_ f2_ f3_; subst f4_; subst f5_))
        have q43 : (t336 : Int) ≤ ((x5_1.length : Int) : Int) := of_decide_eq_true (by assumption)
        obtain ⟨i043, hi043, _, hsz43, _⟩ := info_parts info86
        have hroom43 : x5_1.length ≤ co44 := (Kd.R_reads' HO_5.out).2.1
        have hC43 : Kd.C (Kd.int .i8) _ Ao44 x5_1.length x5_1 := (Kd.R_reads' HO_5.out).2.2
        have hcut43 := cut_to (P := Try.prog) 25 86 .i64 Try.underlying25 hi043 Ao44 x5_1.length co44 t336 (of_decide_eq_true (by assumption)) q43 hroom43
        have hr43 := Kd.C_take (m := (t336 : Int).toNat) hC43 (by omega)
        have hy43 : y337.length = (t336 : Int).toNat := (by rw [Ny337.out, List.length_take]; omega)
        rw [← Ny337.out] at hr43
        rw [← hy43] at hcut43
        have HR340 := Aside0.mk hr43
        have HC340 := Aside0.mk (show y337.length ≤ co44 from by omega)
        clear hr43 hC43 hroom43 hi043 hsz43
        have KY43 := Aside0.mk hy43
        clear hy43
        have KL43 := Aside0.mk (show (t336 : Int).toNat ≤ x5_1.length from by omega)
        replace q43 := eq_true q43
        have q45 : (t336 : Int) ≤ ((x5_1.length : Int) : Int) := of_decide_eq_true (by assumption)
        obtain ⟨i045, hi045, _, hsz45, _⟩ := info_parts info86
        have hroom45 : x5_1.length ≤ co44 := (Kd.R_reads' HO_5.out).2.1
        have hC45 : Kd.C (Kd.int .i8) _ Ao44 x5_1.length x5_1 := (Kd.R_reads' HO_5.out).2.2
        have q045 : (0 : Int) ≤ (t336 : Int) := of_decide_eq_true (by assumption)
        have hcut45 := cut_from (P := Try.prog) 25 86 .i64 Try.underlying25 hi045 1 hsz45 Ao44 x5_1.length co44 t336 q045 q45
        have hr45 := Kd.C_drop (m := (t336 : Int).toNat) (c := co44) hC45 (by omega) hroom45
        obtain ⟨A45, hA45⟩ : ∃ A1, A1 = (if co44 = (t336 : Int).toNat then Ao44 else (Ao44 : Option Addr).map (·.add ((t336 : Int).toNat * 1))) := ⟨_, rfl⟩
        obtain ⟨c45, hc45⟩ : ∃ c1, c1 = co44 - (t336 : Int).toNat := ⟨_, rfl⟩
        have hy45 : y341.length = x5_1.length - (t336 : Int).toNat := (by rw [Ny341.out, List.length_drop] <;> omega)
        rw [show (x5_1).drop (t336 : Int).toNat = y341 from Ny341.out.symm] at hr45
        replace hr45 : Kd.C (Kd.int .i8) _ A45 y341.length y341 := (by rw [hA45]; exact hr45)
        rw [← hy45, ← hA45, ← hc45] at hcut45
        have HR344 := Aside0.mk hr45
        have HC344 := Aside0.mk (show y341.length ≤ c45 from by rw [hy45, hc45]; exact Nat.sub_le_sub_right hroom45 _)
        clear hr45 hC45 hroom45 hi045 hsz45 hc45
        have KY45 := Aside0.mk hy45
        have KA45 := Aside0.mk hA45
        clear hy45 hA45
        have KL45 := Aside0.mk (show (t336 : Int).toNat ≤ x5_1.length from by omega)
        replace q45 := eq_true q45
        refine start_ (n := 9) (S := fun w' => True) (ds := []) #[false, false, false, false, false, false, false, false, false] (by kernel_rfl) rfl rfl trivial (fun hHeld => ?_); refine with_tabW impl_ConstantOf.tab7 impl_ConstantOf.bits7 (fun HT_ HW_ => ?_)
        generalize wr.drew = w42 at HO_4 HO_5 BK327 BK328 HB HR340 HR344 hHeld ⊢
        refine pure_ (i := 0) (N := some 21) (v := ?_) (a' := ?_) #[true, false, false, false, false, false, false, false, false] rfl rfl (any_of HT_.out (by kernel_rfl)) (fun _ _ _ h => h) (Or.inl ⟨by rfl, ?_⟩) ?_ ?_
        rotate_left
        ·
         intro w'
         go_simp
         with_reducible rfl
        rotate_left
        ·
         simp only [Act.put, sA_, sB_, sC_, i64_w, i32_w]
         rfl
        refine pure_ (i := 1) (N := some 22) (v := ?_) (a' := ?_) #[true, true, false, false, false, false, false, false, false] rfl rfl (any_of HT_.out (by kernel_rfl)) (fun _ _ _ h => h) (Or.inl ⟨by rfl, ?_⟩) ?_ ?_
        rotate_left
        ·
         intro w'
         go_simp
         with_reducible rfl
        rotate_left
        ·
         simp only [Act.put, sA_, sB_, sC_, i64_w, i32_w]
         rfl
        refine pure_ (i := 2) (N := some 23) (v := ?_) (a' := ?_) #[true, true, true, false, false, false, false, false, false] rfl rfl (any_of HT_.out (by kernel_rfl)) (fun _ _ _ h => h) (Or.inl ⟨by rfl, ?_⟩) ?_ ?_
        rotate_left
        ·
         intro w'
         go_simp
         with_reducible rfl
        rotate_left
        ·
         simp only [Act.put, sA_, sB_, sC_, i64_w, i32_w]
         rfl
        refine pure_ (i := 3) (N := some 24) (v := ?_) (a' := ?_) #[true, true, true, true, false, false, false, false, false] rfl rfl (any_of HT_.out (by kernel_rfl)) (fun _ _ _ h => h) (Or.inl ⟨by rfl, ?_⟩) ?_ ?_
        rotate_left
        ·
         intro w'
         go_simp
         with_reducible rfl
        rotate_left
        ·
         simp only [Act.put, sA_, sB_, sC_, i64_w, i32_w]
         rfl
        refine pure_ (i := 4) (N := some 25) (v := ?_) (a' := ?_) #[true, true, true, true, true, false, false, false, false] rfl rfl (any_of HT_.out (by kernel_rfl)) (fun _ _ _ h => h) (Or.inl ⟨by rfl, ?_⟩) ?_ ?_
        rotate_left
        ·
         intro w'
         go_simp
         with_reducible rfl
        rotate_left
        ·
         simp only [Act.put, sA_, sB_, sC_, i64_w, i32_w]
         rfl
        refine pure_ (i := 5) (N := some 26) (v := ?_) (a' := ?_) #[true, true, true, true, true, true, false, false, false] rfl rfl (any_of HT_.out (by kernel_rfl)) (fun _ _ _ h => h) (Or.inl ⟨by rfl, ?_⟩) ?_ ?_
        rotate_left
        ·
         intro w'
         go_simp
         with_reducible rfl
        rotate_left
        ·
         simp only [Act.put, sA_, sB_, sC_, i64_w, i32_w]
         rfl
        refine join_ (σ := Value × Value × Nat) 1 #[true, true, true, true, true, true, true, true, false] (fun s_ => [(27, .agg #[s_.1, s_.2.1]), (8, .pointer (some ⟨s_.2.2, 0, none⟩))]) (fun s_ w' => (Kd.R (Kd.int .i8) 86 w' w.heap.size (fun k_ => some k_ ≠ (s_.2.1 : Value).ownBlock ∧ some k_ ≠ (.slice Ao44 x5_1.length co44 : Value).ownBlock) s_.1 t345) ∧ (Kd.R (Kd.int .i8) 86 w' w.heap.size (fun k_ => some k_ ≠ (s_.1 : Value).ownBlock ∧ some k_ ≠ (.slice Ao44 x5_1.length co44 : Value).ownBlock) s_.2.1 t348) ∧ (Kd.R (Kd.int .i16) 85 w' w.heap.size (fun _ => True) (.slice Ao41 x4_1.length co41) x4_1) ∧ (Kd.R (Kd.int .i8) 86 w' w.heap.size (fun k_ => some k_ ≠ (s_.1 : Value).ownBlock ∧ some k_ ≠ (s_.2.1 : Value).ownBlock) (.slice Ao44 x5_1.length co44) x5_1) ∧ (w'.heap[gb327]? = some (.cells #[.slice A0_0 l0_0.length c0_0] 34 (0, 0))) ∧ (w'.heap[gb328]? = some (.cells #[.slice none 0 0, .slice none 0 0] 36 (0, 0))) ∧ (w'.heap[s_.2.2]? = some (.cells #[.slice none 0 0, .slice none 0 0] 36 (0, 0))) ∧ (w.heap.size ≤ s_.2.2) ∧ (w.heap.size ≤ s_.2.2) ∧ (gb327 ≠ s_.2.2) ∧ (s_.2.2 ≠ gb327) ∧ (gb328 ≠ s_.2.2) ∧ (s_.2.2 ≠ gb328) ∧ (Below w.heap.size w w')) ?_ ?_
        rotate_left
        ·
         intro hCont
         refine two_ (i := 6) (j := 7) (Ni := some 27) (Nj := some 8) #[true, true, true, true, true, true, true, false, false] #[true, true, true, true, true, true, false, true, false] rfl rfl rfl rfl (two_of HT_.out (by kernel_rfl)) (by decide) (by decide) (fun K hK => ?_) (fun K hK => ?_)
         ·
          skip
          refine goes_ Try.func100 (by kernel_rfl) rfl #[.slice Ao44 y337.length co44, .slice A45 y341.length c45] (by rfl) rfl rfl z13_10_ ?_
          with_reducible refine (impl_normal.calls k1 _ _ y337 _ _ y341 t345 t348 _ ?side1 ?side2 ?side3 ?side4 A19.out).mono ?_
          (case side1 => repeat (first | exact z13_9_ | (with_reducible refine Kd.C_alloc ?_ _) | (with_reducible refine Kd.C_drewN ?_ _) | (with_reducible refine Kd.C_drew ?_)))
          (case side2 => exact HC340.out)
          (case side3 => repeat (first | exact z13_8_ | (with_reducible refine Kd.C_alloc ?_ _) | (with_reducible refine Kd.C_drewN ?_ _) | (with_reducible refine Kd.C_drew ?_)))
          (case side4 => exact HC344.out)
          rintro e w46 ⟨v346, v349, rfl, ho0, ho1, hb⟩
          refine ⟨_, rfl, ?_⟩
          have n0_ := Aside0.mk (Kd.R_below z13_6_ hb)
          have n1_ := Aside0.mk (Kd.R_mono (Kd.R_told (Kd.R_told (Kd.R_old z13_5_ hb) (Kd.R_base ho0)) (Kd.R_base ho1)) (fun _ h_ => h_.1))
          have n2_ := Aside0.mk (Kd.R_lower (Kd.R_new' ho0 (Kd.R_lt z13_5_)) (below_size z13_1_))
          have n3_ := Aside0.mk (Kd.R_lower (Kd.R_new' ho1 (Kd.R_lt z13_5_)) (below_size z13_1_))
          have n4_ := Aside0.mk (blk_below (g := gb327) (o := .cells #[.slice A0_0 l0_0.length c0_0] 34 (0, 0)) z13_2_ hb)
          have n5_ := Aside0.mk (blk_below (g := gb328) (o := .cells #[.slice none 0 0, .slice none 0 0] 36 (0, 0)) z13_3_ hb)
          have n6_ := Aside0.mk (Kd.C_below z13_9_ hb)
          have n7_ := Aside0.mk (Kd.C_below z13_8_ hb)
          have n8_ := Aside0.mk (below_step z13_1_ hb)
          clear HO_4
          clear HO_5
          clear BK327
          clear BK328
          clear HR340
          clear HR344
          clear HB
          have HO_4 := n0_
          have HO_5 := n1_
          have HO347 := n2_
          have HO350 := n3_
          have BK327 := n4_
          have BK328 := n5_
          have HR340 := n6_
          have HR344 := n7_
          have HB := n8_
          clear n0_ n1_ n2_ n3_ n4_ n5_ n6_ n7_ n8_
          (try clear hb)
          (try clear hb2)
          (try clear hk)
          (try clear hi)
          (try clear ho0)
          (try clear ho1)
          refine hK.out _ _ trivial (fun hHeld => ?_)
          clear hK K
          refine norm_ (a' := ?_) ?_ ?_
          rotate_left
          ·
           show Act.put _ (some 27) _ = _
           simp only [Act.put, sA_, sB_, sC_, i64_w, i32_w]
           rfl
          refine one_ (i := 7) (N := some 8) #[true, true, true, true, true, true, true, true, false] rfl rfl (one_of HT_.out (by kernel_rfl)) (by decide) (fun K hK => ?_)
          refine box_step ?hg (N := 8) ?hd (cs := #[.slice none 0 0, .slice none 0 0]) (t := 36) ?hr ?_; (case hd => rfl); (case hg => rfl); (case hr => first | (go_simp; done) | (go_simp; rfl))
          intro gb351 hg w47 hbox hb
          have n0_ := Aside0.mk (Kd.R_below z13_6_ hb)
          have n1_ := Aside0.mk (Kd.R_below z13_5_ hb)
          have n2_ := Aside0.mk (Kd.R_below z13_17_ hb)
          have n3_ := Aside0.mk (Kd.R_below z13_16_ hb)
          have n4_ := Aside0.mk (blk_below (g := gb327) (o := .cells #[.slice A0_0 l0_0.length c0_0] 34 (0, 0)) z13_2_ hb)
          have n5_ := Aside0.mk (blk_below (g := gb328) (o := .cells #[.slice none 0 0, .slice none 0 0] 36 (0, 0)) z13_3_ hb)
          have n6_ := Aside0.mk (Kd.C_below z13_9_ hb)
          have n7_ := Aside0.mk (Kd.C_below z13_8_ hb)
          have n8_ := Aside0.mk (below_step z13_1_ hb)
          have n9_ := Aside0.mk (hbox)
          have n10_ := Aside0.mk ((by rw [hg]; exact (below_size z13_1_) : w.heap.size ≤ gb351))
          have n11_ := Aside0.mk ((by rw [hg]; exact (below_size z13_1_) : w.heap.size ≤ gb351))
          have n12_ := Aside0.mk ((by rw [hg]; exact Nat.ne_of_lt (blk_lt (g := gb327) (o := .cells #[.slice A0_0 l0_0.length c0_0] 34 (0, 0)) z13_2_) : gb327 ≠ gb351))
          have n13_ := Aside0.mk ((by rw [hg]; exact Nat.ne_of_gt (blk_lt (g := gb327) (o := .cells #[.slice A0_0 l0_0.length c0_0] 34 (0, 0)) z13_2_) : gb351 ≠ gb327))
          have n14_ := Aside0.mk ((by rw [hg]; exact Nat.ne_of_lt (blk_lt (g := gb328) (o := .cells #[.slice none 0 0, .slice none 0 0] 36 (0, 0)) z13_3_) : gb328 ≠ gb351))
          have n15_ := Aside0.mk ((by rw [hg]; exact Nat.ne_of_gt (blk_lt (g := gb328) (o := .cells #[.slice none 0 0, .slice none 0 0] 36 (0, 0)) z13_3_) : gb351 ≠ gb328))
          clear HO_4
          clear HO_5
          clear HO347
          clear HO350
          clear BK327
          clear BK328
          clear HR340
          clear HR344
          clear HB
          have HO_4 := n0_
          have HO_5 := n1_
          have HO347 := n2_
          have HO350 := n3_
          have BK327 := n4_
          have BK328 := n5_
          have HR340 := n6_
          have HR344 := n7_
          have HB := n8_
          have BK351 := n9_
          have GW351 := n10_
          have GE351 := n11_
          have NB327_351 := n12_
          have NB351_327 := n13_
          have NB328_351 := n14_
          have NB351_328 := n15_
          clear n0_ n1_ n2_ n3_ n4_ n5_ n6_ n7_ n8_ n9_ n10_ n11_ n12_ n13_ n14_ n15_
          clear hb hbox hg
          refine hK.out _ _ trivial (fun hHeld => ?_)
          clear hK K
          refine norm_ (a' := ?_) ?_ ?_
          rotate_left
          ·
           show Act.put _ (some 8) _ = _
           simp only [Act.put, sA_, sB_, sC_, i64_w, i32_w]
           rfl
          exact norm_ z13_32_ (hCont (v346, v349, gb351) _ ⟨z13_17_, z13_16_, z13_6_, z13_19_, z13_2_, z13_3_, z13_15_, GW351.out, GE351.out, NB327_351.out, NB351_327.out, NB328_351.out, NB351_328.out, z13_7_⟩)
         ·
          skip
          refine box_step ?hg (N := 8) ?hd (cs := #[.slice none 0 0, .slice none 0 0]) (t := 36) ?hr ?_; (case hd => rfl); (case hg => rfl); (case hr => first | (go_simp; done) | (go_simp; rfl))
          intro gb351 hg w46 hbox hb
          have n0_ := Aside0.mk (Kd.R_below z13_6_ hb)
          have n1_ := Aside0.mk (Kd.R_below z13_5_ hb)
          have n2_ := Aside0.mk (blk_below (g := gb327) (o := .cells #[.slice A0_0 l0_0.length c0_0] 34 (0, 0)) z13_2_ hb)
          have n3_ := Aside0.mk (blk_below (g := gb328) (o := .cells #[.slice none 0 0, .slice none 0 0] 36 (0, 0)) z13_3_ hb)
          have n4_ := Aside0.mk (Kd.C_below z13_9_ hb)
          have n5_ := Aside0.mk (Kd.C_below z13_8_ hb)
          have n6_ := Aside0.mk (below_step z13_1_ hb)
          have n7_ := Aside0.mk (hbox)
          have n8_ := Aside0.mk ((by rw [hg]; exact (below_size z13_1_) : w.heap.size ≤ gb351))
          have n9_ := Aside0.mk ((by rw [hg]; exact (below_size z13_1_) : w.heap.size ≤ gb351))
          have n10_ := Aside0.mk ((by rw [hg]; exact Nat.ne_of_lt (blk_lt (g := gb327) (o := .cells #[.slice A0_0 l0_0.length c0_0] 34 (0, 0)) z13_2_) : gb327 ≠ gb351))
          have n11_ := Aside0.mk ((by rw [hg]; exact Nat.ne_of_gt (blk_lt (g := gb327) (o := .cells #[.slice A0_0 l0_0.length c0_0] 34 (0, 0)) z13_2_) : gb351 ≠ gb327))
          have n12_ := Aside0.mk ((by rw [hg]; exact Nat.ne_of_lt (blk_lt (g := gb328) (o := .cells #[.slice none 0 0, .slice none 0 0] 36 (0, 0)) z13_3_) : gb328 ≠ gb351))
          have n13_ := Aside0.mk ((by rw [hg]; exact Nat.ne_of_gt (blk_lt (g := gb328) (o := .cells #[.slice none 0 0, .slice none 0 0] 36 (0, 0)) z13_3_) : gb351 ≠ gb328))
          clear HO_4
          clear HO_5
          clear BK327
          clear BK328
          clear HR340
          clear HR344
          clear HB
          have HO_4 := n0_
          have HO_5 := n1_
          have BK327 := n2_
          have BK328 := n3_
          have HR340 := n4_
          have HR344 := n5_
          have HB := n6_
          have BK351 := n7_
          have GW351 := n8_
          have GE351 := n9_
          have NB327_351 := n10_
          have NB351_327 := n11_
          have NB328_351 := n12_
          have NB351_328 := n13_
          clear n0_ n1_ n2_ n3_ n4_ n5_ n6_ n7_ n8_ n9_ n10_ n11_ n12_ n13_
          clear hb hbox hg
          refine hK.out _ _ trivial (fun hHeld => ?_)
          clear hK K
          refine norm_ (a' := ?_) ?_ ?_
          rotate_left
          ·
           show Act.put _ (some 8) _ = _
           simp only [Act.put, sA_, sB_, sC_, i64_w, i32_w]
           rfl
          refine one_ (i := 6) (N := some 27) #[true, true, true, true, true, true, true, true, false] rfl rfl (one_of HT_.out (by kernel_rfl)) (by decide) (fun K hK => ?_)
          refine goes_ Try.func100 (by kernel_rfl) rfl #[.slice Ao44 y337.length co44, .slice A45 y341.length c45] (by rfl) rfl rfl z13_10_ ?_
          with_reducible refine (impl_normal.calls k1 _ _ y337 _ _ y341 t345 t348 _ ?side1 ?side2 ?side3 ?side4 A19.out).mono ?_
          (case side1 => repeat (first | exact z13_9_ | (with_reducible refine Kd.C_alloc ?_ _) | (with_reducible refine Kd.C_drewN ?_ _) | (with_reducible refine Kd.C_drew ?_)))
          (case side2 => exact HC340.out)
          (case side3 => repeat (first | exact z13_8_ | (with_reducible refine Kd.C_alloc ?_ _) | (with_reducible refine Kd.C_drewN ?_ _) | (with_reducible refine Kd.C_drew ?_)))
          (case side4 => exact HC344.out)
          rintro e w47 ⟨v346, v349, rfl, ho0, ho1, hb⟩
          refine ⟨_, rfl, ?_⟩
          have n0_ := Aside0.mk (Kd.R_below z13_6_ hb)
          have n1_ := Aside0.mk (Kd.R_mono (Kd.R_told (Kd.R_told (Kd.R_old z13_5_ hb) (Kd.R_base ho0)) (Kd.R_base ho1)) (fun _ h_ => h_.1))
          have n2_ := Aside0.mk (Kd.R_lower (Kd.R_new' ho0 (Kd.R_lt z13_5_)) (below_size z13_7_))
          have n3_ := Aside0.mk (Kd.R_lower (Kd.R_new' ho1 (Kd.R_lt z13_5_)) (below_size z13_7_))
          have n4_ := Aside0.mk (blk_below (g := gb327) (o := .cells #[.slice A0_0 l0_0.length c0_0] 34 (0, 0)) z13_2_ hb)
          have n5_ := Aside0.mk (blk_below (g := gb328) (o := .cells #[.slice none 0 0, .slice none 0 0] 36 (0, 0)) z13_3_ hb)
          have n6_ := Aside0.mk (Kd.C_below z13_9_ hb)
          have n7_ := Aside0.mk (Kd.C_below z13_8_ hb)
          have n8_ := Aside0.mk (blk_below (g := gb351) (o := .cells #[.slice none 0 0, .slice none 0 0] 36 (0, 0)) z13_15_ hb)
          have n9_ := Aside0.mk (below_step z13_7_ hb)
          clear HO_4
          clear HO_5
          clear BK327
          clear BK328
          clear HR340
          clear HR344
          clear BK351
          clear HB
          have HO_4 := n0_
          have HO_5 := n1_
          have HO347 := n2_
          have HO350 := n3_
          have BK327 := n4_
          have BK328 := n5_
          have HR340 := n6_
          have HR344 := n7_
          have BK351 := n8_
          have HB := n9_
          clear n0_ n1_ n2_ n3_ n4_ n5_ n6_ n7_ n8_ n9_
          (try clear hb)
          (try clear hb2)
          (try clear hk)
          (try clear hi)
          (try clear ho0)
          (try clear ho1)
          refine hK.out _ _ trivial (fun hHeld => ?_)
          clear hK K
          refine norm_ (a' := ?_) ?_ ?_
          rotate_left
          ·
           show Act.put _ (some 27) _ = _
           simp only [Act.put, sA_, sB_, sC_, i64_w, i32_w]
           rfl
          exact norm_ z13_32_ (hCont (v346, v349, gb351) _ ⟨z13_17_, z13_16_, z13_6_, z13_19_, z13_2_, z13_3_, z13_15_, GW351.out, GE351.out, NB327_351.out, NB351_327.out, NB328_351.out, NB351_328.out, z13_7_⟩)
        rintro ⟨v346, v349, gb351⟩ w48 ⟨h0_, h1_, h2_, h3_, h4_, h5_, h6_, h7_, h8_, h9_, h10_, h11_, h12_, h13_⟩
        have n0_ : Aside0 (Kd.R (Kd.int .i8) 86 w48 w.heap.size (fun k_ => some k_ ≠ (v349 : Value).ownBlock ∧ some k_ ≠ (.slice Ao44 x5_1.length co44 : Value).ownBlock) v346 t345) := ⟨h0_⟩
        have n1_ : Aside0 (Kd.R (Kd.int .i8) 86 w48 w.heap.size (fun k_ => some k_ ≠ (v346 : Value).ownBlock ∧ some k_ ≠ (.slice Ao44 x5_1.length co44 : Value).ownBlock) v349 t348) := ⟨h1_⟩
        have n2_ : Aside0 (Kd.R (Kd.int .i16) 85 w48 w.heap.size (fun _ => True) (.slice Ao41 x4_1.length co41) x4_1) := ⟨h2_⟩
        have n3_ : Aside0 (Kd.R (Kd.int .i8) 86 w48 w.heap.size (fun k_ => some k_ ≠ (v346 : Value).ownBlock ∧ some k_ ≠ (v349 : Value).ownBlock) (.slice Ao44 x5_1.length co44) x5_1) := ⟨h3_⟩
        have n4_ : Aside0 (w48.heap[gb327]? = some (.cells #[.slice A0_0 l0_0.length c0_0] 34 (0, 0))) := ⟨h4_⟩
        have n5_ : Aside0 (w48.heap[gb328]? = some (.cells #[.slice none 0 0, .slice none 0 0] 36 (0, 0))) := ⟨h5_⟩
        have n6_ : Aside0 (w48.heap[gb351]? = some (.cells #[.slice none 0 0, .slice none 0 0] 36 (0, 0))) := ⟨h6_⟩
        have n7_ : Aside0 (w.heap.size ≤ gb351) := ⟨h7_⟩
        have n8_ : Aside0 (w.heap.size ≤ gb351) := ⟨h8_⟩
        have n9_ : Aside0 (gb327 ≠ gb351) := ⟨h9_⟩
        have n10_ : Aside0 (gb351 ≠ gb327) := ⟨h10_⟩
        have n11_ : Aside0 (gb328 ≠ gb351) := ⟨h11_⟩
        have n12_ : Aside0 (gb351 ≠ gb328) := ⟨h12_⟩
        have n13_ : Aside0 (Below w.heap.size w w48) := ⟨h13_⟩
        clear HO_4
        clear HO_5
        clear BK327
        clear BK328
        clear HB
        clear h0_ h1_ h2_ h3_ h4_ h5_ h6_ h7_ h8_ h9_ h10_ h11_ h12_ h13_
        have HO347 := n0_
        have HO350 := n1_
        have HO_4 := n2_
        have HO_5 := n3_
        have BK327 := n4_
        have BK328 := n5_
        have BK351 := n6_
        have GW351 := n7_
        have GE351 := n8_
        have NB327_351 := n9_
        have NB351_327 := n10_
        have NB328_351 := n11_
        have NB351_328 := n12_
        have HB := n13_
        clear n0_ n1_ n2_ n3_ n4_ n5_ n6_ n7_ n8_ n9_ n10_ n11_ n12_ n13_
        have hHeld := trivial
        obtain ⟨Ao49, co49, eo49⟩ := Kd.R_slice HO347.out
        (first | subst eo49 | (injection eo49 with f1_ f2_ f3_; have f4_ := f1_.symm; have f5_ := f3_.symm; clear f1_ f2_ f3_; subst f4_; subst f5_))
        obtain ⟨Ao51, co51, eo51⟩ := Kd.R_slice HO350.out
        (first | subst eo51 | (injection eo51 with f1_ f2_ f3_; have f4_ := f1_.symm; have f5_ := f3_.symm; clear f1_ f2_ f3_; subst f4_; subst f5_))
        refine norm_ (a' := ?_) ?_ ?_
        rotate_left
        ·
         simp only [putAll, Act.put, sA_, sB_, sC_]
         rfl
        refine one_ (i := 8) (N := none) #[true, true, true, true, true, true, true, true, true] rfl rfl (one_of HT_.out (by kernel_rfl)) (by decide) (fun K hK => ?_)
        have hs50 : w48.cell? ⟨gb351, 0, none⟩ = some (.slice none 0 0) := (blk_cell BK351.out 0).trans rfl
        have hfs50 := blk_frozen BK351.out 0
        have hns50_0 := NB327_351.out
        have hns50_1 := NB328_351.out
        have hms50_0 := NB351_327.out
        have hms50_1 := NB351_328.out
        have hs52 : w48.cell? ⟨gb351, 1, none⟩ = some (.slice none 0 0) := (blk_cell BK351.out 1).trans rfl
        have hfs52 := blk_frozen BK351.out 1
        have hns52_0 := NB327_351.out
        have hns52_1 := NB328_351.out
        have hms52_0 := NB351_327.out
        have hms52_1 := NB351_328.out
        refine skip_ (w1 := ?_) (by rfl) rfl ?_ ?_
        rotate_left
        ·
         go_simp
         rfl
        refine hK.out _ _ trivial (fun hHeld => ?_)
        clear hK K
        refine done_ (done_of HT_.out (by kernel_rfl)) ?_
        have hnb53 := NB351_327.out
        have hnc53 := NB327_351.out
        have hnb54 := NB351_328.out
        have hnc54 := NB328_351.out
        have hcz55_0 : w48.cell? ⟨gb351, 0, none⟩ = some (.slice none 0 0) := (blk_cell BK351.out 0).trans rfl
        have hcz55_1 : w48.cell? ⟨gb351, 1, none⟩ = some (.slice none 0 0) := (blk_cell BK351.out 1).trans rfl
        have hfz55_0 := blk_frozen BK351.out 0
        have hfz55_1 := blk_frozen BK351.out 1
        try go_wp2_with (first | ((with_reducible refine gate_callee (f := 61) rfl ?_); refine goesL_ (some 29) rfl rfl Try.func61 (by kernel_rfl) rfl #[.agg #[.slice Ao49 t345.length co49, .slice Ao51 t348.length co51]] rfl z13_10_ ?_; (with_reducible refine (impl_ValidStream.calls _ _ t345 _ _ t348 false _ ?side1 ?side2 ?side3 ?side4 A20.out).mono ?_); (case side1 => refine (Kd.R_reads' (e := 86) (base := w.heap.size) (ok := fun k_ => (some k_ ≠ (.slice Ao51 t348.length co51 : Value).ownBlock ∧ some k_ ≠ (.slice Ao44 x5_1.length co44 : Value).ownBlock)) (n := t345.length) (c := co49) ?_).2.2; exact z13_25_); (case side2 => exact (Kd.R_reads' HO347.out).2.1); (case side3 => refine (Kd.R_reads' (e := 86) (base := w.heap.size) (ok := fun k_ => (some k_ ≠ (.slice Ao49 t345.length co49 : Value).ownBlock ∧ some k_ ≠ (.slice Ao44 x5_1.length co44 : Value).ownBlock)) (n := t348.length) (c := co51) ?_).2.2; exact z13_23_); (case side4 => exact (Kd.R_reads' HO350.out).2.1); rintro e w56 ⟨rfl, hb⟩; refine ⟨_, rfl, ?_⟩; have n0_ := Aside0.mk (Kd.R_below (by (with_reducible repeat (first | apply Kd.R_alloc | apply Kd.R_drewN | apply Kd.R_drew)); exact (Kd.R_mono (Kd.R_far (p := ⟨gb351, 1, none⟩) (Kd.R_far (p := ⟨gb351, 0, none⟩) (Kd.R_types HO_4.out BK351.out (by decide)) (fun _ hk => hk.2) (.slice Ao49 t345.length co49)) (fun _ hk => hk.2) (.slice Ao51 t348.length co51)) (fun _ h_ => h_.1))) hb); have n1_ := Aside0.mk (Kd.R_below (by (with_reducible repeat (first | apply Kd.R_alloc | apply Kd.R_drewN | apply Kd.R_drew)); exact (Kd.R_mono (Kd.R_far (p := ⟨gb351, 1, none⟩) (Kd.R_far (p := ⟨gb351, 0, none⟩) (Kd.R_types HO_5.out BK351.out (by decide)) (fun _ hk => hk.2) (.slice Ao49 t345.length co49)) (fun _ hk => hk.2) (.slice Ao51 t348.length co51)) (fun _ h_ => h_.1))) hb); have n2_ := Aside0.mk (Kd.R_below z13_25_ hb); have n3_ := Aside0.mk (Kd.R_below z13_23_ hb); have n4_ := Aside0.mk (blk_below (g := gb327) (o := .cells #[.slice A0_0 l0_0.length c0_0] 34 (0, 0)) z13_22_ hb); have n5_ := Aside0.mk (blk_below (g := gb328) (o := .cells #[.slice none 0 0, .slice none 0 0] 36 (0, 0)) z13_21_ hb); have n6_ := Aside0.mk (blk_below (g := gb351) (o := .cells #[.slice Ao49 t345.length co49, .slice Ao51 t348.length co51] 36 (0, 0)) (by (with_reducible repeat (first | refine blk_drewN ?_ _ | refine blk_drew ?_ | refine blk_alloc ?_ _)); refine blk_put (cs := #[.slice Ao49 t345.length co49, .slice none 0 0]) ?_ 1 _ rfl; (with_reducible repeat (first | refine blk_drewN ?_ _ | refine blk_drew ?_ | refine blk_alloc ?_ _)); refine blk_put (cs := #[.slice none 0 0, .slice none 0 0]) ?_ 0 _ rfl; (with_reducible repeat (first | refine blk_drewN ?_ _ | refine blk_drew ?_ | refine blk_alloc ?_ _)); exact BK351.out) hb); have n7_ := Aside0.mk (below_step z13_7_ hb); clear HO_4; clear HO_5; clear HO347; clear HO350; clear BK327; clear BK328; clear BK351; clear HB; have HO_4 := n0_; have HO_5 := n1_; have HO347 := n2_; have HO350 := n3_; have BK327 := n4_; have BK328 := n5_; have BK351 := n6_; have HB := n7_; clear n0_ n1_ n2_ n3_ n4_ n5_ n6_ n7_; (try clear hb); (try clear hb2); (try clear hk); (try clear hi); have hnb57 := NB328_327.out; have hnc57 := NB327_328.out; have hcz58_0 : w56.cell? ⟨gb328, 0, none⟩ = some (.slice none 0 0) := (blk_cell BK328.out 0).trans rfl; have hcz58_1 : w56.cell? ⟨gb328, 1, none⟩ = some (.slice none 0 0) := (blk_cell BK328.out 1).trans rfl; have hfz58_0 := blk_frozen BK328.out 0; have hfz58_1 := blk_frozen BK328.out 1))
        refine bodyPost_ret (results_ct rfl _ _ gb328 36 #[.slice none 0 0, .slice none 0 0] (0, 0) _ rfl z13_18_ Try.underlying36 rfl (by kernel_rfl)) rfl ?_
        exact ⟨_, _, by first | rfl | (simp [errW_none, errW_some] <;> rfl) | (simp [*, errW_none, errW_some] <;> rfl), by first | exact Kd.R_nil _ _ _ _ _ | exact Kd.N_nil _ _ _ _ _ | exact Kd.V_nil _ _ _ _ _ | exact Kd.Q_nil _ _ _ _ _ | exact Kd.S_nil _ _ _ _ _, by first | exact Kd.R_nil _ _ _ _ _ | exact Kd.N_nil _ _ _ _ _ | exact Kd.V_nil _ _ _ _ _ | exact Kd.Q_nil _ _ _ _ _ | exact Kd.S_nil _ _ _ _ _, by repeat (first | (with_reducible first | exact HB.out | apply below_alloc | apply pw_below_drewN | apply below_drew1 | refine below_set ?_ GE327.out | refine below_set ?_ GE328.out | refine below_set ?_ GE351.out) | exact HB.out)⟩
      ·
       rw [if_neg c16] at H
       exact absurd H (by simp)
     ·
      rw [if_neg c15] at H
      exact absurd H (by simp)
    ·
     rw [if_neg c14] at H
     have c14b0 : decide (0 ≤ t336) = false := decide_eq_false c14
     clear c14
     by_cases c59 : 0 ≤ x6_1
     ·
      rw [if_pos c59] at H
      have c59b0 : decide (0 ≤ x6_1) = true := decide_eq_true c59
      clear c59
      by_cases c60 : x6_1 < (l0_0.length : Int)
      ·
       rw [if_pos c60] at H
       have c60b0 : decide (x6_1 < (l0_0.length : Int)) = true := decide_eq_true c60
       clear c60
       by_cases c61 : ((rd_T89 l0_0 x6_1).f0) = 1
       ·
        rw [if_pos c61] at H
        have c61b0 : (((rd_T89 l0_0 x6_1).f0) == 1) = true := beq_iff_eq.mpr c61
        have c61b1 : (((rd_T89 l0_0 x6_1).f0) != 1) = false := bne_eq_false_iff_eq.mpr c61
        clear c61
        simp only [Option.some.injEq, Prod.mk.injEq] at H
        obtain ⟨rfl, rfl, rfl⟩ := H
        obtain ⟨Ao62, co62, eo62⟩ := Kd.R_slice HO_4.out
        subst eo62
        go_wp2_with (first | ((with_reducible refine gate_callee (f := 99) rfl ?_); refine goesL_ (some 18) rfl rfl Try.func99 (by kernel_rfl) rfl #[.slice Ao62 x4_1.length co62, .int .i16 x6_1] rfl z13_10_ ?_; (with_reducible refine (slices_Index_int16_int16.calls k1 _ _ x4_1 x6_1 t336 _ ?side1 ?side2 A13.out).mono ?_); (case side1 => repeat (first | exact (Kd.R_reads' HO_4.out).2.2 | (with_reducible refine Kd.C_alloc ?_ _) | (with_reducible refine Kd.C_drewN ?_ _) | (with_reducible refine Kd.C_drew ?_))); (case side2 => exact (Kd.R_reads' HO_4.out).2.1); rintro e w' ⟨rfl, ⟨nd, rfl⟩⟩; refine ⟨_, rfl, ?_⟩; (try (rw [drewN_self wr]; generalize hq_ : World.drewN wr _ = wr; have n0_ : Aside0 (Kd.R (Kd.int .i16) 85 wr w.heap.size (fun _ => True) (.slice Ao62 x4_1.length co62) x4_1) := ⟨by rw [← hq_]; exact z13_6_⟩; have n1_ : Aside0 (Kd.R (Kd.int .i8) 86 wr w.heap.size (fun _ => True) u5 x5_1) := ⟨by rw [← hq_]; exact z13_5_⟩; have n2_ : Aside0 (wr.heap[gb327]? = some (.cells #[.slice A0_0 l0_0.length c0_0] 34 (0, 0))) := ⟨by rw [← hq_]; exact z13_2_⟩; have n3_ : Aside0 (wr.heap[gb328]? = some (.cells #[.slice none 0 0, .slice none 0 0] 36 (0, 0))) := ⟨by rw [← hq_]; exact z13_3_⟩; have n4_ : Aside0 (Below w.heap.size w wr) := ⟨by rw [← hq_]; exact z13_1_⟩; clear HO_4 HO_5 BK327 BK328 HB hq_; have HO_4 := n0_; have HO_5 := n1_; have BK327 := n2_; have BK328 := n3_; have HB := n4_; clear n0_ n1_ n2_ n3_ n4_)); have hnb63 := NB327_328.out; have hnc63 := NB328_327.out; have hcz64_0 : wr.cell? ⟨gb327, 0, none⟩ = some (.slice A0_0 l0_0.length c0_0) := (blk_cell BK327.out 0).trans rfl; have hfz64_0 := blk_frozen BK327.out 0; have p353 : 0 ≤ (x6_1 : Int) := of_decide_eq_true (by assumption); have q353 : x6_1 < (l0_0.length : Int) := of_decide_eq_true (by assumption); obtain ⟨ad353, e353, hx353_0, hx353_1, hx353_2, hx353_3, hx353_4⟩ := at_T89 HR0_0.out x6_1 p353 q353; cases e353; replace hx353_0 := (HB.out.cell (World.block_lt_of_cell? w _ hx353_0)).trans hx353_0; replace hx353_1 := (HB.out.cell (World.block_lt_of_cell? w _ hx353_1)).trans hx353_1; replace hx353_2 := (HB.out.cell (World.block_lt_of_cell? w _ hx353_2)).trans hx353_2; replace hx353_3 := (HB.out.cell (World.block_lt_of_cell? w _ hx353_3)).trans hx353_3; replace hx353_4 := (HB.out.cell (World.block_lt_of_cell? w _ hx353_4)).trans hx353_4; replace p353 := eq_true p353; replace q353 := eq_true q353) | ((with_reducible refine gate_dst (N := 9) rfl ?_); refine box_event ?hg (N := 9) ?hd (cs := #[.int .i8 0, .int .i8 0, .int .i16 0, .int .i16 0, .int .i16 0]) (t := 89) ?hr ?_; (case hd => rfl); (case hg => rfl); (case hr => first | (go_simp; done) | (go_simp; rfl)); intro gb354 hg w65 hbox hb; have n0_ := Aside0.mk (Kd.R_below z13_6_ hb); have n1_ := Aside0.mk (Kd.R_below z13_5_ hb); have n2_ := Aside0.mk (blk_below (g := gb327) (o := .cells #[.slice (some ad353) l0_0.length c0_0] 34 (0, 0)) z13_2_ hb); have n3_ := Aside0.mk (blk_below (g := gb328) (o := .cells #[.slice none 0 0, .slice none 0 0] 36 (0, 0)) z13_3_ hb); have n4_ := Aside0.mk (below_step z13_1_ hb); have n5_ := Aside0.mk (hbox); have n6_ := Aside0.mk ((by rw [hg]; exact (below_size z13_1_) : w.heap.size ≤ gb354)); have n7_ := Aside0.mk ((by rw [hg]; exact (below_size z13_1_) : w.heap.size ≤ gb354)); have n8_ := Aside0.mk ((by rw [hg]; exact Nat.ne_of_lt (blk_lt (g := gb327) (o := .cells #[.slice (some ad353) l0_0.length c0_0] 34 (0, 0)) z13_2_) : gb327 ≠ gb354)); have n9_ := Aside0.mk ((by rw [hg]; exact Nat.ne_of_gt (blk_lt (g := gb327) (o := .cells #[.slice (some ad353) l0_0.length c0_0] 34 (0, 0)) z13_2_) : gb354 ≠ gb327)); have n10_ := Aside0.mk ((by rw [hg]; exact Nat.ne_of_lt (blk_lt (g := gb328) (o := .cells #[.slice none 0 0, .slice none 0 0] 36 (0, 0)) z13_3_) : gb328 ≠ gb354)); have n11_ := Aside0.mk ((by rw [hg]; exact Nat.ne_of_gt (blk_lt (g := gb328) (o := .cells #[.slice none 0 0, .slice none 0 0] 36 (0, 0)) z13_3_) : gb354 ≠ gb328)); clear HO_4; clear HO_5; clear BK327; clear BK328; clear HB; have HO_4 := n0_; have HO_5 := n1_; have BK327 := n2_; have BK328 := n3_; have HB := n4_; have BK354 := n5_; have GW354 := n6_; have GE354 := n7_; have NB327_354 := n8_; have NB354_327 := n9_; have NB328_354 := n10_; have NB354_328 := n11_; clear n0_ n1_ n2_ n3_ n4_ n5_ n6_ n7_ n8_ n9_ n10_ n11_; clear hb hbox hg; have hnb66 := NB354_327.out; have hnc66 := NB327_354.out; have hnb67 := NB354_328.out; have hnc67 := NB328_354.out; have hcz68_0 : w65.cell? ⟨gb354, 0, none⟩ = some (.int .i8 0) := (blk_cell BK354.out 0).trans rfl; have hcz68_1 : w65.cell? ⟨gb354, 1, none⟩ = some (.int .i8 0) := (blk_cell BK354.out 1).trans rfl; have hcz68_2 : w65.cell? ⟨gb354, 2, none⟩ = some (.int .i16 0) := (blk_cell BK354.out 2).trans rfl; have hcz68_3 : w65.cell? ⟨gb354, 3, none⟩ = some (.int .i16 0) := (blk_cell BK354.out 3).trans rfl; have hcz68_4 : w65.cell? ⟨gb354, 4, none⟩ = some (.int .i16 0) := (blk_cell BK354.out 4).trans rfl; have hfz68_0 := blk_frozen BK354.out 0; have hfz68_1 := blk_frozen BK354.out 1; have hfz68_2 := blk_frozen BK354.out 2; have hfz68_3 := blk_frozen BK354.out 3; have hfz68_4 := blk_frozen BK354.out 4; have hcz69_0 : w65.cell? ⟨gb328, 0, none⟩ = some (.slice none 0 0) := (blk_cell BK328.out 0).trans rfl; have hcz69_1 : w65.cell? ⟨gb328, 1, none⟩ = some (.slice none 0 0) := (blk_cell BK328.out 1).trans rfl; have hfz69_0 := blk_frozen BK328.out 0; have hfz69_1 := blk_frozen BK328.out 1))
        refine bodyPost_ret (results_ct rfl _ _ gb328 36 #[.slice none 0 0, .slice none 0 0] (0, 0) _ rfl (by (with_reducible repeat (first | refine blk_drewN ?_ _ | refine blk_drew ?_ | refine blk_alloc ?_ _)); refine blk_put (cs := #[.slice none 0 0, .slice none 0 0]) ?_ 1 _ rfl; (with_reducible repeat (first | refine blk_drewN ?_ _ | refine blk_drew ?_ | refine blk_alloc ?_ _)); refine blk_put (cs := #[.slice none 0 0, .slice none 0 0]) ?_ 0 _ rfl; (with_reducible repeat (first | refine blk_drewN ?_ _ | refine blk_drew ?_ | refine blk_alloc ?_ _)); refine blk_far ?_ NB328_354.out _; (with_reducible repeat (first | refine blk_drewN ?_ _ | refine blk_drew ?_ | refine blk_alloc ?_ _)); refine blk_far ?_ NB328_354.out _; (with_reducible repeat (first | refine blk_drewN ?_ _ | refine blk_drew ?_ | refine blk_alloc ?_ _)); refine blk_far ?_ NB328_354.out _; (with_reducible repeat (first | refine blk_drewN ?_ _ | refine blk_drew ?_ | refine blk_alloc ?_ _)); refine blk_far ?_ NB328_354.out _; (with_reducible repeat (first | refine blk_drewN ?_ _ | refine blk_drew ?_ | refine blk_alloc ?_ _)); refine blk_far ?_ NB328_354.out _; (with_reducible repeat (first | refine blk_drewN ?_ _ | refine blk_drew ?_ | refine blk_alloc ?_ _)); exact BK328.out) Try.underlying36 rfl (by kernel_rfl)) rfl ?_
        exact ⟨_, _, by first | rfl | (simp [errW_none, errW_some] <;> rfl) | (simp [*, errW_none, errW_some] <;> rfl), by first | exact Kd.R_nil _ _ _ _ _ | exact Kd.N_nil _ _ _ _ _ | exact Kd.V_nil _ _ _ _ _ | exact Kd.Q_nil _ _ _ _ _ | exact Kd.S_nil _ _ _ _ _, by first | exact Kd.R_nil _ _ _ _ _ | exact Kd.N_nil _ _ _ _ _ | exact Kd.V_nil _ _ _ _ _ | exact Kd.Q_nil _ _ _ _ _ | exact Kd.S_nil _ _ _ _ _, by repeat (first | (with_reducible first | exact HB.out | apply below_alloc | apply pw_below_drewN | apply below_drew1 | refine below_set ?_ GE327.out | refine below_set ?_ GE328.out | refine below_set ?_ GE354.out) | exact HB.out)⟩
       ·
        rw [if_neg c61] at H
        have c61b0 : (((rd_T89 l0_0 x6_1).f0) == 1) = false := beq_eq_false_iff_ne.mpr c61
        have c61b1 : (((rd_T89 l0_0 x6_1).f0) != 1) = true := bne_iff_ne.mpr c61
        obtain ⟨y355, hy355⟩ : ∃ y_ : List Int, y_ = (([x6_1] : List Int)) := ⟨_, rfl⟩
        replace H : (if x4_1.length + y355.length < 70368744177664 then ((some (([(rd_T89 l0_0 x6_1).f1] : List Int) : List Int)).bind fun y361 => (if x5_1.length + y361.length < 140737488355328 then (impl_ConstantOf.l0 k1 (x4_1 ++ y355) (x5_1 ++ y361) ((rd_T89 l0_0 x6_1).f2.f0) l0_0) else (none))) else (none)) = some (r1, r2, r3) := by first | (rw [hy355]; with_reducible exact H) | (have H2_ := (Option.bind_some _ _).symm.trans H; rw [hy355]; with_reducible exact H2_) | (have H2_ := (Option.bind_some _ _).symm.trans H; with_reducible exact H2_) | with_reducible exact H | (rw [hy355]; exact H) | exact H
        have Ny355 := Aside0.mk hy355
        clear hy355
        by_cases c70 : x4_1.length + y355.length < 70368744177664
        ·
         rw [if_pos c70] at H
         have LMc70 := Aside0.mk c70
         clear c70
         obtain ⟨y358, hy358⟩ : ∃ y_ : List Int, y_ = (x4_1 ++ y355) := ⟨_, rfl⟩
         replace H : ((some (([(rd_T89 l0_0 x6_1).f1] : List Int) : List Int)).bind fun y361 => (if x5_1.length + y361.length < 140737488355328 then (impl_ConstantOf.l0 k1 y358 (x5_1 ++ y361) ((rd_T89 l0_0 x6_1).f2.f0) l0_0) else (none))) = some (r1, r2, r3) := by first | (rw [hy358]; with_reducible exact H) | (have H2_ := (Option.bind_some _ _).symm.trans H; rw [hy358]; with_reducible exact H2_) | (have H2_ := (Option.bind_some _ _).symm.trans H; with_reducible exact H2_) | with_reducible exact H | (rw [hy358]; exact H) | exact H
         have Ny358 := Aside0.mk hy358
         clear hy358
         obtain ⟨y361, hy361⟩ : ∃ y_ : List Int, y_ = (([(rd_T89 l0_0 x6_1).f1] : List Int)) := ⟨_, rfl⟩
         replace H : (if x5_1.length + y361.length < 140737488355328 then (impl_ConstantOf.l0 k1 y358 (x5_1 ++ y361) ((rd_T89 l0_0 x6_1).f2.f0) l0_0) else (none)) = some (r1, r2, r3) := by first | (rw [hy361]; with_reducible exact H) | (have H2_ := (Option.bind_some _ _).symm.trans H; rw [hy361]; with_reducible exact H2_) | (have H2_ := (Option.bind_some _ _).symm.trans H; with_reducible exact H2_) | with_reducible exact H | (rw [hy361]; exact H) | exact H
         have Ny361 := Aside0.mk hy361
         clear hy361
         by_cases c71 : x5_1.length + y361.length < 140737488355328
         ·
          rw [if_pos c71] at H
          have LMc71 := Aside0.mk c71
          clear c71
          obtain ⟨y364, hy364⟩ : ∃ y_ : List Int, y_ = (x5_1 ++ y361) := ⟨_, rfl⟩
          replace H : (impl_ConstantOf.l0 k1 y358 y364 ((rd_T89 l0_0 x6_1).f2.f0) l0_0) = some (r1, r2, r3) := by first | (rw [hy364]; with_reducible exact H) | (have H2_ := (Option.bind_some _ _).symm.trans H; rw [hy364]; with_reducible exact H2_) | (have H2_ := (Option.bind_some _ _).symm.trans H; with_reducible exact H2_) | with_reducible exact H | (rw [hy364]; exact H) | exact H
          have Ny364 := Aside0.mk hy364
          clear hy364
          have H' := Aside0.mk H
          clear H
          obtain ⟨Ao72, co72, eo72⟩ := Kd.R_slice HO_4.out
          subst eo72
          try go_wp2_with (first | ((with_reducible refine gate_callee (f := 99) rfl ?_); refine goesL_ (some 18) rfl rfl Try.func99 (by kernel_rfl) rfl #[.slice Ao72 x4_1.length co72, .int .i16 x6_1] rfl z13_10_ ?_; (with_reducible refine (slices_Index_int16_int16.calls k1 _ _ x4_1 x6_1 t336 _ ?side1 ?side2 A13.out).mono ?_); (case side1 => repeat (first | exact (Kd.R_reads' HO_4.out).2.2 | (with_reducible refine Kd.C_alloc ?_ _) | (with_reducible refine Kd.C_drewN ?_ _) | (with_reducible refine Kd.C_drew ?_))); (case side2 => exact (Kd.R_reads' HO_4.out).2.1); rintro e w' ⟨rfl, ⟨nd, rfl⟩⟩; refine ⟨_, rfl, ?_⟩; (try (rw [drewN_self wr]; generalize hq_ : World.drewN wr _ = wr; have n0_ : Aside0 (Kd.R (Kd.int .i16) 85 wr w.heap.size (fun _ => True) (.slice Ao72 x4_1.length co72) x4_1) := ⟨by rw [← hq_]; exact z13_6_⟩; have n1_ : Aside0 (Kd.R (Kd.int .i8) 86 wr w.heap.size (fun _ => True) u5 x5_1) := ⟨by rw [← hq_]; exact z13_5_⟩; have n2_ : Aside0 (wr.heap[gb327]? = some (.cells #[.slice A0_0 l0_0.length c0_0] 34 (0, 0))) := ⟨by rw [← hq_]; exact z13_2_⟩; have n3_ : Aside0 (wr.heap[gb328]? = some (.cells #[.slice none 0 0, .slice none 0 0] 36 (0, 0))) := ⟨by rw [← hq_]; exact z13_3_⟩; have n4_ : Aside0 (Below w.heap.size w wr) := ⟨by rw [← hq_]; exact z13_1_⟩; clear HO_4 HO_5 BK327 BK328 HB hq_; have HO_4 := n0_; have HO_5 := n1_; have BK327 := n2_; have BK328 := n3_; have HB := n4_; clear n0_ n1_ n2_ n3_ n4_)); have hnb73 := NB327_328.out; have hnc73 := NB328_327.out; have hcz74_0 : wr.cell? ⟨gb327, 0, none⟩ = some (.slice A0_0 l0_0.length c0_0) := (blk_cell BK327.out 0).trans rfl; have hfz74_0 := blk_frozen BK327.out 0; have p353 : 0 ≤ (x6_1 : Int) := of_decide_eq_true (by assumption); have q353 : x6_1 < (l0_0.length : Int) := of_decide_eq_true (by assumption); obtain ⟨ad353, e353, hx353_0, hx353_1, hx353_2, hx353_3, hx353_4⟩ := at_T89 HR0_0.out x6_1 p353 q353; cases e353; replace hx353_0 := (HB.out.cell (World.block_lt_of_cell? w _ hx353_0)).trans hx353_0; replace hx353_1 := (HB.out.cell (World.block_lt_of_cell? w _ hx353_1)).trans hx353_1; replace hx353_2 := (HB.out.cell (World.block_lt_of_cell? w _ hx353_2)).trans hx353_2; replace hx353_3 := (HB.out.cell (World.block_lt_of_cell? w _ hx353_3)).trans hx353_3; replace hx353_4 := (HB.out.cell (World.block_lt_of_cell? w _ hx353_4)).trans hx353_4; replace p353 := eq_true p353; replace q353 := eq_true q353) | ((with_reducible refine gate_dst (N := 9) rfl ?_); refine box_event ?hg (N := 9) ?hd (cs := #[.int .i8 0, .int .i8 0, .int .i16 0, .int .i16 0, .int .i16 0]) (t := 89) ?hr ?_; (case hd => rfl); (case hg => rfl); (case hr => first | (go_simp; done) | (go_simp; rfl)); intro gb354 hg w75 hbox hb; have n0_ := Aside0.mk (Kd.R_below z13_6_ hb); have n1_ := Aside0.mk (Kd.R_below z13_5_ hb); have n2_ := Aside0.mk (blk_below (g := gb327) (o := .cells #[.slice (some ad353) l0_0.length c0_0] 34 (0, 0)) z13_2_ hb); have n3_ := Aside0.mk (blk_below (g := gb328) (o := .cells #[.slice none 0 0, .slice none 0 0] 36 (0, 0)) z13_3_ hb); have n4_ := Aside0.mk (below_step z13_1_ hb); have n5_ := Aside0.mk (hbox); have n6_ := Aside0.mk ((by rw [hg]; exact (below_size z13_1_) : w.heap.size ≤ gb354)); have n7_ := Aside0.mk ((by rw [hg]; exact (below_size z13_1_) : w.heap.size ≤ gb354)); have n8_ := Aside0.mk ((by rw [hg]; exact Nat.ne_of_lt (blk_lt (g := gb327) (o := .cells #[.slice (some ad353) l0_0.length c0_0] 34 (0, 0)) z13_2_) : gb327 ≠ gb354)); have n9_ := Aside0.mk ((by rw [hg]; exact Nat.ne_of_gt (blk_lt (g := gb327) (o := .cells #[.slice (some ad353) l0_0.length c0_0] 34 (0, 0)) z13_2_) : gb354 ≠ gb327)); have n10_ := Aside0.mk ((by rw [hg]; exact Nat.ne_of_lt (blk_lt (g := gb328) (o := .cells #[.slice none 0 0, .slice none 0 0] 36 (0, 0)) z13_3_) : gb328 ≠ gb354)); have n11_ := Aside0.mk ((by rw [hg]; exact Nat.ne_of_gt (blk_lt (g := gb328) (o := .cells #[.slice none 0 0, .slice none 0 0] 36 (0, 0)) z13_3_) : gb354 ≠ gb328)); clear HO_4; clear HO_5; clear BK327; clear BK328; clear HB; have HO_4 := n0_; have HO_5 := n1_; have BK327 := n2_; have BK328 := n3_; have HB := n4_; have BK354 := n5_; have GW354 := n6_; have GE354 := n7_; have NB327_354 := n8_; have NB354_327 := n9_; have NB328_354 := n10_; have NB354_328 := n11_; clear n0_ n1_ n2_ n3_ n4_ n5_ n6_ n7_ n8_ n9_ n10_ n11_; clear hb hbox hg; have hnb76 := NB354_327.out; have hnc76 := NB327_354.out; have hnb77 := NB354_328.out; have hnc77 := NB328_354.out; have hcz78_0 : w75.cell? ⟨gb354, 0, none⟩ = some (.int .i8 0) := (blk_cell BK354.out 0).trans rfl; have hcz78_1 : w75.cell? ⟨gb354, 1, none⟩ = some (.int .i8 0) := (blk_cell BK354.out 1).trans rfl; have hcz78_2 : w75.cell? ⟨gb354, 2, none⟩ = some (.int .i16 0) := (blk_cell BK354.out 2).trans rfl; have hcz78_3 : w75.cell? ⟨gb354, 3, none⟩ = some (.int .i16 0) := (blk_cell BK354.out 3).trans rfl; have hcz78_4 : w75.cell? ⟨gb354, 4, none⟩ = some (.int .i16 0) := (blk_cell BK354.out 4).trans rfl; have hfz78_0 := blk_frozen BK354.out 0; have hfz78_1 := blk_frozen BK354.out 1; have hfz78_2 := blk_frozen BK354.out 2; have hfz78_3 := blk_frozen BK354.out 3; have hfz78_4 := blk_frozen BK354.out 4; obtain ⟨Ao79, co79, eo79⟩ := Kd.R_slice HO_5.out; subst eo79))
          have n0_ : Aside0 (Kd.R (Kd.int .i16) 85 (((((w75.setCell ⟨gb354, 0, none⟩ (.int .i8 ((rd_T89 l0_0 x6_1).f0))).setCell ⟨gb354, 1, none⟩ (.int .i8 ((rd_T89 l0_0 x6_1).f1))).setCell ⟨gb354, 2, none⟩ (.int .i16 ((rd_T89 l0_0 x6_1).f2.f0))).setCell ⟨gb354, 3, none⟩ (.int .i16 ((rd_T89 l0_0 x6_1).f2.f1))).setCell ⟨gb354, 4, none⟩ (.int .i16 ((rd_T89 l0_0 x6_1).f2.f2))) w.heap.size (fun _ => True) (.slice Ao72 x4_1.length co72) x4_1) := ⟨by (with_reducible repeat (first | apply Kd.R_alloc | apply Kd.R_drewN | apply Kd.R_drew)); exact Kd.R_mono (Kd.R_far (p := ⟨gb354, 4, none⟩) (Kd.R_far (p := ⟨gb354, 3, none⟩) (Kd.R_far (p := ⟨gb354, 2, none⟩) (Kd.R_far (p := ⟨gb354, 1, none⟩) (Kd.R_far (p := ⟨gb354, 0, none⟩) (Kd.R_types HO_4.out BK354.out (by decide)) (fun _ hk => hk.2) (.int .i8 ((rd_T89 l0_0 x6_1).f0))) (fun _ hk => hk.2) (.int .i8 ((rd_T89 l0_0 x6_1).f1))) (fun _ hk => hk.2) (.int .i16 ((rd_T89 l0_0 x6_1).f2.f0))) (fun _ hk => hk.2) (.int .i16 ((rd_T89 l0_0 x6_1).f2.f1))) (fun _ hk => hk.2) (.int .i16 ((rd_T89 l0_0 x6_1).f2.f2))) (fun _ hk => trivial)⟩
          have n1_ : Aside0 (Kd.R (Kd.int .i8) 86 (((((w75.setCell ⟨gb354, 0, none⟩ (.int .i8 ((rd_T89 l0_0 x6_1).f0))).setCell ⟨gb354, 1, none⟩ (.int .i8 ((rd_T89 l0_0 x6_1).f1))).setCell ⟨gb354, 2, none⟩ (.int .i16 ((rd_T89 l0_0 x6_1).f2.f0))).setCell ⟨gb354, 3, none⟩ (.int .i16 ((rd_T89 l0_0 x6_1).f2.f1))).setCell ⟨gb354, 4, none⟩ (.int .i16 ((rd_T89 l0_0 x6_1).f2.f2))) w.heap.size (fun _ => True) (.slice Ao79 x5_1.length co79) x5_1) := ⟨by (with_reducible repeat (first | apply Kd.R_alloc | apply Kd.R_drewN | apply Kd.R_drew)); exact Kd.R_mono (Kd.R_far (p := ⟨gb354, 4, none⟩) (Kd.R_far (p := ⟨gb354, 3, none⟩) (Kd.R_far (p := ⟨gb354, 2, none⟩) (Kd.R_far (p := ⟨gb354, 1, none⟩) (Kd.R_far (p := ⟨gb354, 0, none⟩) (Kd.R_types HO_5.out BK354.out (by decide)) (fun _ hk => hk.2) (.int .i8 ((rd_T89 l0_0 x6_1).f0))) (fun _ hk => hk.2) (.int .i8 ((rd_T89 l0_0 x6_1).f1))) (fun _ hk => hk.2) (.int .i16 ((rd_T89 l0_0 x6_1).f2.f0))) (fun _ hk => hk.2) (.int .i16 ((rd_T89 l0_0 x6_1).f2.f1))) (fun _ hk => hk.2) (.int .i16 ((rd_T89 l0_0 x6_1).f2.f2))) (fun _ hk => trivial)⟩
          have n2_ : Aside0 ((((((w75.setCell ⟨gb354, 0, none⟩ (.int .i8 ((rd_T89 l0_0 x6_1).f0))).setCell ⟨gb354, 1, none⟩ (.int .i8 ((rd_T89 l0_0 x6_1).f1))).setCell ⟨gb354, 2, none⟩ (.int .i16 ((rd_T89 l0_0 x6_1).f2.f0))).setCell ⟨gb354, 3, none⟩ (.int .i16 ((rd_T89 l0_0 x6_1).f2.f1))).setCell ⟨gb354, 4, none⟩ (.int .i16 ((rd_T89 l0_0 x6_1).f2.f2))).heap[gb327]? = some (.cells #[.slice (some ad353) l0_0.length c0_0] 34 (0, 0))) := ⟨by (with_reducible repeat (first | refine blk_drewN ?_ _ | refine blk_drew ?_ | refine blk_alloc ?_ _)); refine blk_far ?_ NB327_354.out _; (with_reducible repeat (first | refine blk_drewN ?_ _ | refine blk_drew ?_ | refine blk_alloc ?_ _)); refine blk_far ?_ NB327_354.out _; (with_reducible repeat (first | refine blk_drewN ?_ _ | refine blk_drew ?_ | refine blk_alloc ?_ _)); refine blk_far ?_ NB327_354.out _; (with_reducible repeat (first | refine blk_drewN ?_ _ | refine blk_drew ?_ | refine blk_alloc ?_ _)); refine blk_far ?_ NB327_354.out _; (with_reducible repeat (first | refine blk_drewN ?_ _ | refine blk_drew ?_ | refine blk_alloc ?_ _)); refine blk_far ?_ NB327_354.out _; (with_reducible repeat (first | refine blk_drewN ?_ _ | refine blk_drew ?_ | refine blk_alloc ?_ _)); exact BK327.out⟩
          have n3_ : Aside0 ((((((w75.setCell ⟨gb354, 0, none⟩ (.int .i8 ((rd_T89 l0_0 x6_1).f0))).setCell ⟨gb354, 1, none⟩ (.int .i8 ((rd_T89 l0_0 x6_1).f1))).setCell ⟨gb354, 2, none⟩ (.int .i16 ((rd_T89 l0_0 x6_1).f2.f0))).setCell ⟨gb354, 3, none⟩ (.int .i16 ((rd_T89 l0_0 x6_1).f2.f1))).setCell ⟨gb354, 4, none⟩ (.int .i16 ((rd_T89 l0_0 x6_1).f2.f2))).heap[gb328]? = some (.cells #[.slice none 0 0, .slice none 0 0] 36 (0, 0))) := ⟨by (with_reducible repeat (first | refine blk_drewN ?_ _ | refine blk_drew ?_ | refine blk_alloc ?_ _)); refine blk_far ?_ NB328_354.out _; (with_reducible repeat (first | refine blk_drewN ?_ _ | refine blk_drew ?_ | refine blk_alloc ?_ _)); refine blk_far ?_ NB328_354.out _; (with_reducible repeat (first | refine blk_drewN ?_ _ | refine blk_drew ?_ | refine blk_alloc ?_ _)); refine blk_far ?_ NB328_354.out _; (with_reducible repeat (first | refine blk_drewN ?_ _ | refine blk_drew ?_ | refine blk_alloc ?_ _)); refine blk_far ?_ NB328_354.out _; (with_reducible repeat (first | refine blk_drewN ?_ _ | refine blk_drew ?_ | refine blk_alloc ?_ _)); refine blk_far ?_ NB328_354.out _; (with_reducible repeat (first | refine blk_drewN ?_ _ | refine blk_drew ?_ | refine blk_alloc ?_ _)); exact BK328.out⟩
          have n4_ : Aside0 ((((((w75.setCell ⟨gb354, 0, none⟩ (.int .i8 ((rd_T89 l0_0 x6_1).f0))).setCell ⟨gb354, 1, none⟩ (.int .i8 ((rd_T89 l0_0 x6_1).f1))).setCell ⟨gb354, 2, none⟩ (.int .i16 ((rd_T89 l0_0 x6_1).f2.f0))).setCell ⟨gb354, 3, none⟩ (.int .i16 ((rd_T89 l0_0 x6_1).f2.f1))).setCell ⟨gb354, 4, none⟩ (.int .i16 ((rd_T89 l0_0 x6_1).f2.f2))).heap[gb354]? = some (.cells #[.int .i8 ((rd_T89 l0_0 x6_1).f0), .int .i8 ((rd_T89 l0_0 x6_1).f1), .int .i16 ((rd_T89 l0_0 x6_1).f2.f0), .int .i16 ((rd_T89 l0_0 x6_1).f2.f1), .int .i16 ((rd_T89 l0_0 x6_1).f2.f2)] 89 (0, 0))) := ⟨by (with_reducible repeat (first | refine blk_drewN ?_ _ | refine blk_drew ?_ | refine blk_alloc ?_ _)); refine blk_put (cs := #[.int .i8 ((rd_T89 l0_0 x6_1).f0), .int .i8 ((rd_T89 l0_0 x6_1).f1), .int .i16 ((rd_T89 l0_0 x6_1).f2.f0), .int .i16 ((rd_T89 l0_0 x6_1).f2.f1), .int .i16 0]) ?_ 4 _ rfl; (with_reducible repeat (first | refine blk_drewN ?_ _ | refine blk_drew ?_ | refine blk_alloc ?_ _)); refine blk_put (cs := #[.int .i8 ((rd_T89 l0_0 x6_1).f0), .int .i8 ((rd_T89 l0_0 x6_1).f1), .int .i16 ((rd_T89 l0_0 x6_1).f2.f0), .int .i16 0, .int .i16 0]) ?_ 3 _ rfl; (with_reducible repeat (first | refine blk_drewN ?_ _ | refine blk_drew ?_ | refine blk_alloc ?_ _)); refine blk_put (cs := #[.int .i8 ((rd_T89 l0_0 x6_1).f0), .int .i8 ((rd_T89 l0_0 x6_1).f1), .int .i16 0, .int .i16 0, .int .i16 0]) ?_ 2 _ rfl; (with_reducible repeat (first | refine blk_drewN ?_ _ | refine blk_drew ?_ | refine blk_alloc ?_ _)); refine blk_put (cs := #[.int .i8 ((rd_T89 l0_0 x6_1).f0), .int .i8 0, .int .i16 0, .int .i16 0, .int .i16 0]) ?_ 1 _ rfl; (with_reducible repeat (first | refine blk_drewN ?_ _ | refine blk_drew ?_ | refine blk_alloc ?_ _)); refine blk_put (cs := #[.int .i8 0, .int .i8 0, .int .i16 0, .int .i16 0, .int .i16 0]) ?_ 0 _ rfl; (with_reducible repeat (first | refine blk_drewN ?_ _ | refine blk_drew ?_ | refine blk_alloc ?_ _)); exact BK354.out⟩
          have n5_ : Aside0 (Below w.heap.size w (((((w75.setCell ⟨gb354, 0, none⟩ (.int .i8 ((rd_T89 l0_0 x6_1).f0))).setCell ⟨gb354, 1, none⟩ (.int .i8 ((rd_T89 l0_0 x6_1).f1))).setCell ⟨gb354, 2, none⟩ (.int .i16 ((rd_T89 l0_0 x6_1).f2.f0))).setCell ⟨gb354, 3, none⟩ (.int .i16 ((rd_T89 l0_0 x6_1).f2.f1))).setCell ⟨gb354, 4, none⟩ (.int .i16 ((rd_T89 l0_0 x6_1).f2.f2)))) := ⟨by repeat (first | (with_reducible first | exact HB.out | apply below_alloc | apply pw_below_drewN | apply below_drew1 | refine below_set ?_ GE327.out | refine below_set ?_ GE328.out | refine below_set ?_ GE354.out) | exact HB.out)⟩
          (try clear HO_4)
          (try clear HO_5)
          (try clear BK327)
          (try clear BK328)
          (try clear BK354)
          (try clear HB)
          generalize (((((w75.setCell ⟨gb354, 0, none⟩ (.int .i8 ((rd_T89 l0_0 x6_1).f0))).setCell ⟨gb354, 1, none⟩ (.int .i8 ((rd_T89 l0_0 x6_1).f1))).setCell ⟨gb354, 2, none⟩ (.int .i16 ((rd_T89 l0_0 x6_1).f2.f0))).setCell ⟨gb354, 3, none⟩ (.int .i16 ((rd_T89 l0_0 x6_1).f2.f1))).setCell ⟨gb354, 4, none⟩ (.int .i16 ((rd_T89 l0_0 x6_1).f2.f2))) = w80 at n0_ n1_ n2_ n3_ n4_ n5_ ⊢
          have HO_4 := n0_
          have HO_5 := n1_
          have BK327 := n2_
          have BK328 := n3_
          have BK354 := n4_
          have HB := n5_
          clear n0_ n1_ n2_ n3_ n4_ n5_
          have n0_ := Aside0.mk (Kd.R_drew HO_4.out)
          have n1_ := Aside0.mk (Kd.R_drew HO_5.out)
          have n2_ := Aside0.mk (blk_drew BK327.out)
          have n3_ := Aside0.mk (blk_drew BK328.out)
          have n4_ := Aside0.mk (blk_drew BK354.out)
          have n5_ := Aside0.mk (below_drew1 HB.out)
          clear HO_4
          clear HO_5
          clear BK327
          clear BK328
          clear BK354
          clear HB
          have HO_4 := n0_
          have HO_5 := n1_
          have BK327 := n2_
          have BK328 := n3_
          have BK354 := n4_
          have HB := n5_
          clear n0_ n1_ n2_ n3_ n4_ n5_
          refine start_ (n := 11) (S := fun w' => w'.cell? ⟨gb354, 0, none⟩ = some (.int .i8 ((rd_T89 l0_0 x6_1).f0)) ∧ w'.cell? ⟨gb354, 1, none⟩ = some (.int .i8 ((rd_T89 l0_0 x6_1).f1)) ∧ w'.cell? ⟨gb354, 2, none⟩ = some (.int .i16 ((rd_T89 l0_0 x6_1).f2.f0)) ∧ w'.cell? ⟨gb354, 3, none⟩ = some (.int .i16 ((rd_T89 l0_0 x6_1).f2.f1)) ∧ w'.cell? ⟨gb354, 4, none⟩ = some (.int .i16 ((rd_T89 l0_0 x6_1).f2.f2))) (ds := []) #[false, false, false, false, false, false, false, false, false, false, false] (by kernel_rfl) rfl rfl ⟨(blk_cell BK354.out 0).trans rfl, (blk_cell BK354.out 1).trans rfl, (blk_cell BK354.out 2).trans rfl, (blk_cell BK354.out 3).trans rfl, (blk_cell BK354.out 4).trans rfl⟩ (fun hHeld => ?_); refine with_tabW impl_ConstantOf.tab14 impl_ConstantOf.bits14 (fun HT_ HW_ => ?_)
          generalize w80.drew = w81 at HO_4 HO_5 BK327 BK328 BK354 HB hHeld ⊢
          refine pure_ (i := 0) (N := some 42) (v := ?_) (a' := ?_) #[true, false, false, false, false, false, false, false, false, false, false] rfl rfl (any_of HT_.out (by kernel_rfl)) (fun _ _ _ h => h) (Or.inl ⟨by rfl, ?_⟩) ?_ ?_
          rotate_left
          ·
           intro w'
           go_simp
           with_reducible rfl
          rotate_left
          ·
           simp only [Act.put, sA_, sB_, sC_, i64_w, i32_w]
           rfl
          refine pure_ (i := 1) (N := some 43) (v := ?_) (a' := ?_) #[true, true, false, false, false, false, false, false, false, false, false] rfl rfl (any_of HT_.out (by kernel_rfl)) (fun _ _ _ h => h) (Or.inl ⟨by rfl, ?_⟩) ?_ ?_
          rotate_left
          ·
           intro w'
           go_simp
           with_reducible rfl
          rotate_left
          ·
           simp only [Act.put, sA_, sB_, sC_, i64_w, i32_w]
           rfl
          refine pure_ (i := 4) (N := some 46) (v := ?_) (a' := ?_) #[true, true, false, false, true, false, false, false, false, false, false] rfl rfl (any_of HT_.out (by kernel_rfl)) (fun _ _ _ h => h) (Or.inl ⟨by rfl, ?_⟩) ?_ ?_
          rotate_left
          ·
           intro w'
           go_simp
           with_reducible rfl
          rotate_left
          ·
           simp only [Act.put, sA_, sB_, sC_, i64_w, i32_w]
           rfl
          refine pure_ (i := 5) (N := some 47) (v := ?_) (a' := ?_) #[true, true, false, false, true, true, false, false, false, false, false] rfl rfl (any_of HT_.out (by kernel_rfl)) (fun _ _ _ h => h) (Or.inl ⟨by rfl, ?_⟩) ?_ ?_
          rotate_left
          ·
           intro w'
           go_simp
           with_reducible rfl
          rotate_left
          ·
           simp only [Act.put, sA_, sB_, sC_, i64_w, i32_w]
           rfl
          refine take_ (i := 6) (N := some 48) (v := ?_) (a' := ?_) #[true, true, false, false, true, true, true, false, false, false, false] rfl rfl (take_ofW HT_.out HW_.out (by kernel_rfl)) (fun _ _ _ h => h) (Or.inl ⟨by rfl, ?_⟩) hHeld ?_ ?_
          rotate_left
          ·
           rintro w' ⟨s0, s1, s2, s3, s4⟩
           go_simp
           with_reducible rfl
          rotate_left
          ·
           simp only [Act.put, sA_, sB_, sC_, i64_w, i32_w]
           rfl
          refine join_ (σ := Value × Value × Value) 3 #[true, true, true, true, true, true, true, true, false, false, false] (fun s_ => [(44, s_.1), (45, s_.2.1), (49, s_.2.2)]) (fun s_ w' => (w'.cell? ⟨gb354, 0, none⟩ = some (.int .i8 ((rd_T89 l0_0 x6_1).f0)) ∧ w'.cell? ⟨gb354, 1, none⟩ = some (.int .i8 ((rd_T89 l0_0 x6_1).f1)) ∧ w'.cell? ⟨gb354, 2, none⟩ = some (.int .i16 ((rd_T89 l0_0 x6_1).f2.f0)) ∧ w'.cell? ⟨gb354, 3, none⟩ = some (.int .i16 ((rd_T89 l0_0 x6_1).f2.f1)) ∧ w'.cell? ⟨gb354, 4, none⟩ = some (.int .i16 ((rd_T89 l0_0 x6_1).f2.f2))) ∧ (Kd.R (Kd.int .i16) 85 w' w.heap.size (fun k_ => some k_ ≠ (s_.2.1 : Value).ownBlock) s_.1 y355) ∧ (Kd.R (Kd.int .i16) 85 w' w.heap.size (fun k_ => some k_ ≠ (s_.1 : Value).ownBlock) s_.2.1 y358) ∧ (Kd.R (Kd.int .i8) 86 w' w.heap.size (fun k_ => some k_ ≠ (.slice Ao79 x5_1.length co79 : Value).ownBlock) s_.2.2 y361) ∧ (Kd.R (Kd.int .i8) 86 w' w.heap.size (fun k_ => some k_ ≠ (s_.2.2 : Value).ownBlock) (.slice Ao79 x5_1.length co79) x5_1) ∧ (w'.heap[gb327]? = some (.cells #[.slice (some ad353) l0_0.length c0_0] 34 (0, 0))) ∧ (w'.heap[gb328]? = some (.cells #[.slice none 0 0, .slice none 0 0] 36 (0, 0))) ∧ (w'.heap[gb354]? = some (.cells #[.int .i8 ((rd_T89 l0_0 x6_1).f0), .int .i8 ((rd_T89 l0_0 x6_1).f1), .int .i16 ((rd_T89 l0_0 x6_1).f2.f0), .int .i16 ((rd_T89 l0_0 x6_1).f2.f1), .int .i16 ((rd_T89 l0_0 x6_1).f2.f2)] 89 (0, 0))) ∧ (Below w.heap.size w w')) ?_ ?_
          rotate_left
          ·
           intro hCont
           refine two_ (i := 2) (j := 7) (Ni := some 44) (Nj := some 49) #[true, true, true, false, true, true, true, false, false, false, false] #[true, true, false, false, true, true, true, true, false, false, false] rfl rfl rfl rfl (two_of HT_.out (by kernel_rfl)) (by decide) (by decide) (fun K hK => ?_) (fun K hK => ?_)
           ·
            skip
            refine Kd.R_lit_step (Kd.int .i16) _ 85 ?hg (N := 44) ?hd (xs := ([x6_1] : List Int)) (inner := [.int .i16 x6_1]) (ok := fun _ => True) (okp := fun _ => True) ?hr ?hp (fun _ hk => hk) trivial (Below.refl _ _) (Nat.le_refl _) (by simp) ?_; (case hd => rfl); (case hg => rfl); (case hr => first | (go_simp; done) | (go_simp; rfl)); (case hp => exact (Reps.one (show Kd.M (Kd.int .i16) _ _ _ x6_1 [.int .i16 x6_1] from rfl) (Reps.none _ _)))
            intro v356 w82 ho83 hb hg_ hnew_
            clear hg_ hnew_
            (first | rw [← Ny355.out] at ho83 | (simp only [Int.reduceToNat] at ho83; rw [← Ny355.out] at ho83))
            have n0_ := Aside0.mk (Kd.R_elder' z13_6_ (Kd.R_base ho83) hb)
            have n1_ := Aside0.mk (Kd.R_below z13_5_ hb)
            have n2_ := Aside0.mk (Kd.R_lower (Kd.R_new' ho83 (Kd.R_lt z13_6_)) (below_size z13_4_))
            have n3_ := Aside0.mk (blk_below (g := gb327) (o := .cells #[.slice (some ad353) l0_0.length c0_0] 34 (0, 0)) z13_2_ hb)
            have n4_ := Aside0.mk (blk_below (g := gb328) (o := .cells #[.slice none 0 0, .slice none 0 0] 36 (0, 0)) z13_3_ hb)
            have n5_ := Aside0.mk (blk_below (g := gb354) (o := .cells #[.int .i8 ((rd_T89 l0_0 x6_1).f0), .int .i8 ((rd_T89 l0_0 x6_1).f1), .int .i16 ((rd_T89 l0_0 x6_1).f2.f0), .int .i16 ((rd_T89 l0_0 x6_1).f2.f1), .int .i16 ((rd_T89 l0_0 x6_1).f2.f2)] 89 (0, 0)) z13_11_ hb)
            have n6_ := Aside0.mk (below_step z13_4_ hb)
            clear HO_4
            clear HO_5
            clear BK327
            clear BK328
            clear BK354
            clear HB
            have HO_4 := n0_
            have HO_5 := n1_
            have HO357 := n2_
            have BK327 := n3_
            have BK328 := n4_
            have BK354 := n5_
            have HB := n6_
            clear n0_ n1_ n2_ n3_ n4_ n5_ n6_
            clear hb ho83
            obtain ⟨Ao85, co85, eo85⟩ := Kd.R_slice HO357.out
            (first | subst eo85 | (injection eo85 with f1_ f2_ f3_; have f4_ := f1_.symm; have f5_ := f3_.symm; clear f1_ f2_ f3_; subst f4_; subst f5_))
            refine hK.out _ _ ⟨(blk_cell BK354.out 0).trans rfl, (blk_cell BK354.out 1).trans rfl, (blk_cell BK354.out 2).trans rfl, (blk_cell BK354.out 3).trans rfl, (blk_cell BK354.out 4).trans rfl⟩ (fun hHeld => ?_)
            clear hK K
            refine norm_ (a' := ?_) ?_ ?_
            rotate_left
            ·
             show Act.put _ (some 44) _ = _
             simp only [Act.put, sA_, sB_, sC_, i64_w, i32_w]
             rfl
            refine two_ (i := 3) (j := 7) (Ni := some 45) (Nj := some 49) #[true, true, true, true, true, true, true, false, false, false, false] #[true, true, true, false, true, true, true, true, false, false, false] rfl rfl rfl rfl (two_of HT_.out (by kernel_rfl)) (by decide) (by decide) (fun K hK => ?_) (fun K hK => ?_)
            ·
             skip
             refine Kd.R_append_rows_step (Kd.int .i16) (w0 := w) w.heap.size (by rfl) (.tmp 42) (.tmp 44) 139 85 (.int .i16 0) 2 rfl Try.underlying139 info85 rfl (by decide) (by omega) (.slice Ao72 x4_1.length co72) x4_1 y355 _ _ _ (fun k_ => some k_ ≠ (.slice Ao85 y355.length co85 : Value).ownBlock) (fun _ => False) rfl rfl ?aO ?aR (fun _ _ h => h) (fun _ h => h.elim) ?aF ?aB ?aS ?aL ?_
             (case aR => repeat (first | exact (Kd.R_reads' HO357.out).2.2 | (with_reducible refine Kd.C_alloc ?_ _) | (with_reducible refine Kd.C_drewN ?_ _) | (with_reducible refine Kd.C_drew ?_)))
             (case aB => exact z13_4_)
             (case aF => exact (fun k_ hk => Kd.fresh' (Kd.R_lt z13_12_) k_ hk))
             (case aO => exact z13_31_)
             (case aS => exact (below_size z13_4_))
             (case aL => have := LMc70.out; omega)
             intro v359 w84 ho hb hg hat
             rw [← Ny358.out] at ho
             have n0_ := Aside0.mk (Kd.R_over' z13_5_ (Kd.R_typed z13_6_) (by decide) hg)
             have n1_ := Aside0.mk (blk_grown (g := gb327) (o := .cells #[.slice (some ad353) l0_0.length c0_0] 34 (0, 0)) z13_2_ hg (Kd.R_ne HO_4.out BK327.out (by decide)))
             have n2_ := Aside0.mk (blk_grown (g := gb328) (o := .cells #[.slice none 0 0, .slice none 0 0] 36 (0, 0)) z13_3_ hg (Kd.R_ne HO_4.out BK328.out (by decide)))
             have n3_ := Aside0.mk (blk_grown (g := gb354) (o := .cells #[.int .i8 ((rd_T89 l0_0 x6_1).f0), .int .i8 ((rd_T89 l0_0 x6_1).f1), .int .i16 ((rd_T89 l0_0 x6_1).f2.f0), .int .i16 ((rd_T89 l0_0 x6_1).f2.f1), .int .i16 ((rd_T89 l0_0 x6_1).f2.f2)] 89 (0, 0)) z13_11_ hg (Kd.R_ne HO_4.out BK354.out (by decide)))
             have n4_ := Aside0.mk (Kd.R_after (ok := (fun _ => True)) z13_12_ hg hat)
             have n5_ := Aside0.mk (hb)
             have n6_ := Aside0.mk (ho)
             clear HO_5
             clear BK327
             clear BK328
             clear BK354
             clear HO357
             clear HB
             clear HO_4
             have HO_5 := n0_
             have BK327 := n1_
             have BK328 := n2_
             have BK354 := n3_
             have HO357 := n4_
             have HB := n5_
             have HO360 := n6_
             clear n0_ n1_ n2_ n3_ n4_ n5_ n6_
             clear ho hb hg hat
             refine hK.out _ _ ⟨(blk_cell BK354.out 0).trans rfl, (blk_cell BK354.out 1).trans rfl, (blk_cell BK354.out 2).trans rfl, (blk_cell BK354.out 3).trans rfl, (blk_cell BK354.out 4).trans rfl⟩ (fun hHeld => ?_)
             clear hK K
             refine norm_ (a' := ?_) ?_ ?_
             rotate_left
             ·
              show Act.put _ (some 45) _ = _
              simp only [Act.put, sA_, sB_, sC_, i64_w, i32_w]
              rfl
             refine one_ (i := 7) (N := some 49) #[true, true, true, true, true, true, true, true, false, false, false] rfl rfl (one_of HT_.out (by kernel_rfl)) (by decide) (fun K hK => ?_)
             refine Kd.R_lit_step (Kd.int .i8) _ 86 ?hg (N := 49) ?hd (xs := ([(rd_T89 l0_0 x6_1).f1] : List Int)) (inner := [.int .i8 ((rd_T89 l0_0 x6_1).f1)]) (ok := fun _ => True) (okp := fun _ => True) ?hr ?hp (fun _ hk => hk) trivial (Below.refl _ _) (Nat.le_refl _) (by simp) ?_; (case hd => rfl); (case hg => rfl); (case hr => first | (go_simp; done) | (go_simp; rfl)); (case hp => exact (Reps.one (show Kd.M (Kd.int .i8) _ _ _ ((rd_T89 l0_0 x6_1).f1) [.int .i8 ((rd_T89 l0_0 x6_1).f1)] from rfl) (Reps.none _ _)))
             intro v362 w86 ho87 hb hg_ hnew_
             clear hg_ hnew_
             (first | rw [← Ny361.out] at ho87 | (simp only [Int.reduceToNat] at ho87; rw [← Ny361.out] at ho87))
             have n0_ := Aside0.mk (Kd.R_elder' z13_5_ (Kd.R_base ho87) hb)
             have n1_ := Aside0.mk (Kd.R_below z13_12_ hb)
             have n2_ := Aside0.mk (Kd.R_below z13_20_ hb)
             have n3_ := Aside0.mk (Kd.R_lower (Kd.R_new' ho87 (Kd.R_lt z13_5_)) (below_size z13_4_))
             have n4_ := Aside0.mk (blk_below (g := gb327) (o := .cells #[.slice (some ad353) l0_0.length c0_0] 34 (0, 0)) z13_2_ hb)
             have n5_ := Aside0.mk (blk_below (g := gb328) (o := .cells #[.slice none 0 0, .slice none 0 0] 36 (0, 0)) z13_3_ hb)
             have n6_ := Aside0.mk (blk_below (g := gb354) (o := .cells #[.int .i8 ((rd_T89 l0_0 x6_1).f0), .int .i8 ((rd_T89 l0_0 x6_1).f1), .int .i16 ((rd_T89 l0_0 x6_1).f2.f0), .int .i16 ((rd_T89 l0_0 x6_1).f2.f1), .int .i16 ((rd_T89 l0_0 x6_1).f2.f2)] 89 (0, 0)) z13_11_ hb)
             have n7_ := Aside0.mk (below_step z13_4_ hb)
             clear HO_5
             clear HO357
             clear HO360
             clear BK327
             clear BK328
             clear BK354
             clear HB
             have HO_5 := n0_
             have HO357 := n1_
             have HO360 := n2_
             have HO363 := n3_
             have BK327 := n4_
             have BK328 := n5_
             have BK354 := n6_
             have HB := n7_
             clear n0_ n1_ n2_ n3_ n4_ n5_ n6_ n7_
             clear hb ho87
             refine hK.out _ _ ⟨(blk_cell BK354.out 0).trans rfl, (blk_cell BK354.out 1).trans rfl, (blk_cell BK354.out 2).trans rfl, (blk_cell BK354.out 3).trans rfl, (blk_cell BK354.out 4).trans rfl⟩ (fun hHeld => ?_)
             clear hK K
             refine norm_ (a' := ?_) ?_ ?_
             rotate_left
             ·
              show Act.put _ (some 49) _ = _
              simp only [Act.put, sA_, sB_, sC_, i64_w, i32_w]
              rfl
             exact norm_ z13_32_ (hCont (.slice Ao85 y355.length co85, v359, v362) _ ⟨hHeld, z13_29_, z13_20_, z13_28_, z13_30_, z13_2_, z13_3_, z13_11_, z13_4_⟩)
            ·
             skip
             refine Kd.R_lit_step (Kd.int .i8) _ 86 ?hg (N := 49) ?hd (xs := ([(rd_T89 l0_0 x6_1).f1] : List Int)) (inner := [.int .i8 ((rd_T89 l0_0 x6_1).f1)]) (ok := fun _ => True) (okp := fun _ => True) ?hr ?hp (fun _ hk => hk) trivial (Below.refl _ _) (Nat.le_refl _) (by simp) ?_; (case hd => rfl); (case hg => rfl); (case hr => first | (go_simp; done) | (go_simp; rfl)); (case hp => exact (Reps.one (show Kd.M (Kd.int .i8) _ _ _ ((rd_T89 l0_0 x6_1).f1) [.int .i8 ((rd_T89 l0_0 x6_1).f1)] from rfl) (Reps.none _ _)))
             intro v362 w84 ho85 hb hg_ hnew_
             clear hg_ hnew_
             (first | rw [← Ny361.out] at ho85 | (simp only [Int.reduceToNat] at ho85; rw [← Ny361.out] at ho85))
             have n0_ := Aside0.mk (Kd.R_below z13_6_ hb)
             have n1_ := Aside0.mk (Kd.R_elder' z13_5_ (Kd.R_base ho85) hb)
             have n2_ := Aside0.mk (Kd.R_below z13_12_ hb)
             have n3_ := Aside0.mk (Kd.R_lower (Kd.R_new' ho85 (Kd.R_lt z13_5_)) (below_size z13_4_))
             have n4_ := Aside0.mk (blk_below (g := gb327) (o := .cells #[.slice (some ad353) l0_0.length c0_0] 34 (0, 0)) z13_2_ hb)
             have n5_ := Aside0.mk (blk_below (g := gb328) (o := .cells #[.slice none 0 0, .slice none 0 0] 36 (0, 0)) z13_3_ hb)
             have n6_ := Aside0.mk (blk_below (g := gb354) (o := .cells #[.int .i8 ((rd_T89 l0_0 x6_1).f0), .int .i8 ((rd_T89 l0_0 x6_1).f1), .int .i16 ((rd_T89 l0_0 x6_1).f2.f0), .int .i16 ((rd_T89 l0_0 x6_1).f2.f1), .int .i16 ((rd_T89 l0_0 x6_1).f2.f2)] 89 (0, 0)) z13_11_ hb)
             have n7_ := Aside0.mk (below_step z13_4_ hb)
             clear HO_4
             clear HO_5
             clear HO357
             clear BK327
             clear BK328
             clear BK354
             clear HB
             have HO_4 := n0_
             have HO_5 := n1_
             have HO357 := n2_
             have HO363 := n3_
             have BK327 := n4_
             have BK328 := n5_
             have BK354 := n6_
             have HB := n7_
             clear n0_ n1_ n2_ n3_ n4_ n5_ n6_ n7_
             clear hb ho85
             obtain ⟨Ao87, co87, eo87⟩ := Kd.R_slice HO357.out
             (first | subst eo87 | (injection eo87 with f1_ f2_ f3_; have f4_ := f1_.symm; have f5_ := f3_.symm; clear f1_ f2_ f3_; subst f4_; subst f5_))
             refine hK.out _ _ ⟨(blk_cell BK354.out 0).trans rfl, (blk_cell BK354.out 1).trans rfl, (blk_cell BK354.out 2).trans rfl, (blk_cell BK354.out 3).trans rfl, (blk_cell BK354.out 4).trans rfl⟩ (fun hHeld => ?_)
             clear hK K
             refine norm_ (a' := ?_) ?_ ?_
             rotate_left
             ·
              show Act.put _ (some 49) _ = _
              simp only [Act.put, sA_, sB_, sC_, i64_w, i32_w]
              rfl
             refine one_ (i := 3) (N := some 45) #[true, true, true, true, true, true, true, true, false, false, false] rfl rfl (one_of HT_.out (by kernel_rfl)) (by decide) (fun K hK => ?_)
             refine Kd.R_append_rows_step (Kd.int .i16) (w0 := w) w.heap.size (by rfl) (.tmp 42) (.tmp 44) 139 85 (.int .i16 0) 2 rfl Try.underlying139 info85 rfl (by decide) (by omega) (.slice Ao72 x4_1.length co72) x4_1 y355 _ _ _ (fun k_ => some k_ ≠ (.slice Ao87 y355.length co87 : Value).ownBlock) (fun _ => False) rfl rfl ?aO ?aR (fun _ _ h => h) (fun _ h => h.elim) ?aF ?aB ?aS ?aL ?_
             (case aR => repeat (first | exact (Kd.R_reads' HO357.out).2.2 | (with_reducible refine Kd.C_alloc ?_ _) | (with_reducible refine Kd.C_drewN ?_ _) | (with_reducible refine Kd.C_drew ?_)))
             (case aB => exact z13_4_)
             (case aF => exact (fun k_ hk => Kd.fresh' (Kd.R_lt z13_12_) k_ hk))
             (case aO => exact z13_31_)
             (case aS => exact (below_size z13_4_))
             (case aL => have := LMc70.out; omega)
             intro v359 w86 ho hb hg hat
             rw [← Ny358.out] at ho
             have n0_ := Aside0.mk (Kd.R_over' z13_5_ (Kd.R_typed z13_6_) (by decide) hg)
             have n1_ := Aside0.mk (blk_grown (g := gb327) (o := .cells #[.slice (some ad353) l0_0.length c0_0] 34 (0, 0)) z13_2_ hg (Kd.R_ne HO_4.out BK327.out (by decide)))
             have n2_ := Aside0.mk (blk_grown (g := gb328) (o := .cells #[.slice none 0 0, .slice none 0 0] 36 (0, 0)) z13_3_ hg (Kd.R_ne HO_4.out BK328.out (by decide)))
             have n3_ := Aside0.mk (blk_grown (g := gb354) (o := .cells #[.int .i8 ((rd_T89 l0_0 x6_1).f0), .int .i8 ((rd_T89 l0_0 x6_1).f1), .int .i16 ((rd_T89 l0_0 x6_1).f2.f0), .int .i16 ((rd_T89 l0_0 x6_1).f2.f1), .int .i16 ((rd_T89 l0_0 x6_1).f2.f2)] 89 (0, 0)) z13_11_ hg (Kd.R_ne HO_4.out BK354.out (by decide)))
             have n4_ := Aside0.mk (Kd.R_after (ok := (fun _ => True)) z13_12_ hg hat)
             have n5_ := Aside0.mk (Kd.R_over' z13_27_ (Kd.R_typed z13_6_) (by decide) hg)
             have n6_ := Aside0.mk (hb)
             have n7_ := Aside0.mk (ho)
             clear HO_5
             clear BK327
             clear BK328
             clear BK354
             clear HO357
             clear HO363
             clear HB
             clear HO_4
             have HO_5 := n0_
             have BK327 := n1_
             have BK328 := n2_
             have BK354 := n3_
             have HO357 := n4_
             have HO363 := n5_
             have HB := n6_
             have HO360 := n7_
             clear n0_ n1_ n2_ n3_ n4_ n5_ n6_ n7_
             clear ho hb hg hat
             refine hK.out _ _ ⟨(blk_cell BK354.out 0).trans rfl, (blk_cell BK354.out 1).trans rfl, (blk_cell BK354.out 2).trans rfl, (blk_cell BK354.out 3).trans rfl, (blk_cell BK354.out 4).trans rfl⟩ (fun hHeld => ?_)
             clear hK K
             refine norm_ (a' := ?_) ?_ ?_
             rotate_left
             ·
              show Act.put _ (some 45) _ = _
              simp only [Act.put, sA_, sB_, sC_, i64_w, i32_w]
              rfl
             exact norm_ z13_32_ (hCont (.slice Ao87 y355.length co87, v359, v362) _ ⟨hHeld, z13_29_, z13_20_, z13_28_, z13_30_, z13_2_, z13_3_, z13_11_, z13_4_⟩)
           ·
            skip
            refine Kd.R_lit_step (Kd.int .i8) _ 86 ?hg (N := 49) ?hd (xs := ([(rd_T89 l0_0 x6_1).f1] : List Int)) (inner := [.int .i8 ((rd_T89 l0_0 x6_1).f1)]) (ok := fun _ => True) (okp := fun _ => True) ?hr ?hp (fun _ hk => hk) trivial (Below.refl _ _) (Nat.le_refl _) (by simp) ?_; (case hd => rfl); (case hg => rfl); (case hr => first | (go_simp; done) | (go_simp; rfl)); (case hp => exact (Reps.one (show Kd.M (Kd.int .i8) _ _ _ ((rd_T89 l0_0 x6_1).f1) [.int .i8 ((rd_T89 l0_0 x6_1).f1)] from rfl) (Reps.none _ _)))
            intro v362 w82 ho83 hb hg_ hnew_
            clear hg_ hnew_
            (first | rw [← Ny361.out] at ho83 | (simp only [Int.reduceToNat] at ho83; rw [← Ny361.out] at ho83))
            have n0_ := Aside0.mk (Kd.R_below z13_6_ hb)
            have n1_ := Aside0.mk (Kd.R_elder' z13_5_ (Kd.R_base ho83) hb)
            have n2_ := Aside0.mk (Kd.R_lower (Kd.R_new' ho83 (Kd.R_lt z13_5_)) (below_size z13_4_))
            have n3_ := Aside0.mk (blk_below (g := gb327) (o := .cells #[.slice (some ad353) l0_0.length c0_0] 34 (0, 0)) z13_2_ hb)
            have n4_ := Aside0.mk (blk_below (g := gb328) (o := .cells #[.slice none 0 0, .slice none 0 0] 36 (0, 0)) z13_3_ hb)
            have n5_ := Aside0.mk (blk_below (g := gb354) (o := .cells #[.int .i8 ((rd_T89 l0_0 x6_1).f0), .int .i8 ((rd_T89 l0_0 x6_1).f1), .int .i16 ((rd_T89 l0_0 x6_1).f2.f0), .int .i16 ((rd_T89 l0_0 x6_1).f2.f1), .int .i16 ((rd_T89 l0_0 x6_1).f2.f2)] 89 (0, 0)) z13_11_ hb)
            have n6_ := Aside0.mk (below_step z13_4_ hb)
            clear HO_4
            clear HO_5
            clear BK327
            clear BK328
            clear BK354
            clear HB
            have HO_4 := n0_
            have HO_5 := n1_
            have HO363 := n2_
            have BK327 := n3_
            have BK328 := n4_
            have BK354 := n5_
            have HB := n6_
            clear n0_ n1_ n2_ n3_ n4_ n5_ n6_
            clear hb ho83
            refine hK.out _ _ ⟨(blk_cell BK354.out 0).trans rfl, (blk_cell BK354.out 1).trans rfl, (blk_cell BK354.out 2).trans rfl, (blk_cell BK354.out 3).trans rfl, (blk_cell BK354.out 4).trans rfl⟩ (fun hHeld => ?_)
            clear hK K
            refine norm_ (a' := ?_) ?_ ?_
            rotate_left
            ·
             show Act.put _ (some 49) _ = _
             simp only [Act.put, sA_, sB_, sC_, i64_w, i32_w]
             rfl
            refine one_ (i := 2) (N := some 44) #[true, true, true, false, true, true, true, true, false, false, false] rfl rfl (one_of HT_.out (by kernel_rfl)) (by decide) (fun K hK => ?_)
            refine Kd.R_lit_step (Kd.int .i16) _ 85 ?hg (N := 44) ?hd (xs := ([x6_1] : List Int)) (inner := [.int .i16 x6_1]) (ok := fun _ => True) (okp := fun _ => True) ?hr ?hp (fun _ hk => hk) trivial (Below.refl _ _) (Nat.le_refl _) (by simp) ?_; (case hd => rfl); (case hg => rfl); (case hr => first | (go_simp; done) | (go_simp; rfl)); (case hp => exact (Reps.one (show Kd.M (Kd.int .i16) _ _ _ x6_1 [.int .i16 x6_1] from rfl) (Reps.none _ _)))
            intro v356 w84 ho85 hb hg_ hnew_
            clear hg_ hnew_
            (first | rw [← Ny355.out] at ho85 | (simp only [Int.reduceToNat] at ho85; rw [← Ny355.out] at ho85))
            have n0_ := Aside0.mk (Kd.R_elder' z13_6_ (Kd.R_base ho85) hb)
            have n1_ := Aside0.mk (Kd.R_below z13_5_ hb)
            have n2_ := Aside0.mk (Kd.R_below z13_27_ hb)
            have n3_ := Aside0.mk (Kd.R_lower (Kd.R_new' ho85 (Kd.R_lt z13_6_)) (below_size z13_4_))
            have n4_ := Aside0.mk (blk_below (g := gb327) (o := .cells #[.slice (some ad353) l0_0.length c0_0] 34 (0, 0)) z13_2_ hb)
            have n5_ := Aside0.mk (blk_below (g := gb328) (o := .cells #[.slice none 0 0, .slice none 0 0] 36 (0, 0)) z13_3_ hb)
            have n6_ := Aside0.mk (blk_below (g := gb354) (o := .cells #[.int .i8 ((rd_T89 l0_0 x6_1).f0), .int .i8 ((rd_T89 l0_0 x6_1).f1), .int .i16 ((rd_T89 l0_0 x6_1).f2.f0), .int .i16 ((rd_T89 l0_0 x6_1).f2.f1), .int .i16 ((rd_T89 l0_0 x6_1).f2.f2)] 89 (0, 0)) z13_11_ hb)
            have n7_ := Aside0.mk (below_step z13_4_ hb)
            clear HO_4
            clear HO_5
            clear HO363
            clear BK327
            clear BK328
            clear BK354
            clear HB
            have HO_4 := n0_
            have HO_5 := n1_
            have HO363 := n2_
            have HO357 := n3_
            have BK327 := n4_
            have BK328 := n5_
            have BK354 := n6_
            have HB := n7_
            clear n0_ n1_ n2_ n3_ n4_ n5_ n6_ n7_
            clear hb ho85
            obtain ⟨Ao87, co87, eo87⟩ := Kd.R_slice HO357.out
            (first | subst eo87 | (injection eo87 with f1_ f2_ f3_; have f4_ := f1_.symm; have f5_ := f3_.symm; clear f1_ f2_ f3_; subst f4_; subst f5_))
            refine hK.out _ _ ⟨(blk_cell BK354.out 0).trans rfl, (blk_cell BK354.out 1).trans rfl, (blk_cell BK354.out 2).trans rfl, (blk_cell BK354.out 3).trans rfl, (blk_cell BK354.out 4).trans rfl⟩ (fun hHeld => ?_)
            clear hK K
            refine norm_ (a' := ?_) ?_ ?_
            rotate_left
            ·
             show Act.put _ (some 44) _ = _
             simp only [Act.put, sA_, sB_, sC_, i64_w, i32_w]
             rfl
            refine one_ (i := 3) (N := some 45) #[true, true, true, true, true, true, true, true, false, false, false] rfl rfl (one_of HT_.out (by kernel_rfl)) (by decide) (fun K hK => ?_)
            refine Kd.R_append_rows_step (Kd.int .i16) (w0 := w) w.heap.size (by rfl) (.tmp 42) (.tmp 44) 139 85 (.int .i16 0) 2 rfl Try.underlying139 info85 rfl (by decide) (by omega) (.slice Ao72 x4_1.length co72) x4_1 y355 _ _ _ (fun k_ => some k_ ≠ (.slice Ao87 y355.length co87 : Value).ownBlock) (fun _ => False) rfl rfl ?aO ?aR (fun _ _ h => h) (fun _ h => h.elim) ?aF ?aB ?aS ?aL ?_
            (case aR => repeat (first | exact (Kd.R_reads' HO357.out).2.2 | (with_reducible refine Kd.C_alloc ?_ _) | (with_reducible refine Kd.C_drewN ?_ _) | (with_reducible refine Kd.C_drew ?_)))
            (case aB => exact z13_4_)
            (case aF => exact (fun k_ hk => Kd.fresh' (Kd.R_lt z13_12_) k_ hk))
            (case aO => exact z13_31_)
            (case aS => exact (below_size z13_4_))
            (case aL => have := LMc70.out; omega)
            intro v359 w86 ho hb hg hat
            rw [← Ny358.out] at ho
            have n0_ := Aside0.mk (Kd.R_over' z13_5_ (Kd.R_typed z13_6_) (by decide) hg)
            have n1_ := Aside0.mk (blk_grown (g := gb327) (o := .cells #[.slice (some ad353) l0_0.length c0_0] 34 (0, 0)) z13_2_ hg (Kd.R_ne HO_4.out BK327.out (by decide)))
            have n2_ := Aside0.mk (blk_grown (g := gb328) (o := .cells #[.slice none 0 0, .slice none 0 0] 36 (0, 0)) z13_3_ hg (Kd.R_ne HO_4.out BK328.out (by decide)))
            have n3_ := Aside0.mk (blk_grown (g := gb354) (o := .cells #[.int .i8 ((rd_T89 l0_0 x6_1).f0), .int .i8 ((rd_T89 l0_0 x6_1).f1), .int .i16 ((rd_T89 l0_0 x6_1).f2.f0), .int .i16 ((rd_T89 l0_0 x6_1).f2.f1), .int .i16 ((rd_T89 l0_0 x6_1).f2.f2)] 89 (0, 0)) z13_11_ hg (Kd.R_ne HO_4.out BK354.out (by decide)))
            have n4_ := Aside0.mk (Kd.R_over' z13_27_ (Kd.R_typed z13_6_) (by decide) hg)
            have n5_ := Aside0.mk (Kd.R_after (ok := (fun _ => True)) z13_12_ hg hat)
            have n6_ := Aside0.mk (hb)
            have n7_ := Aside0.mk (ho)
            clear HO_5
            clear BK327
            clear BK328
            clear BK354
            clear HO363
            clear HO357
            clear HB
            clear HO_4
            have HO_5 := n0_
            have BK327 := n1_
            have BK328 := n2_
            have BK354 := n3_
            have HO363 := n4_
            have HO357 := n5_
            have HB := n6_
            have HO360 := n7_
            clear n0_ n1_ n2_ n3_ n4_ n5_ n6_ n7_
            clear ho hb hg hat
            refine hK.out _ _ ⟨(blk_cell BK354.out 0).trans rfl, (blk_cell BK354.out 1).trans rfl, (blk_cell BK354.out 2).trans rfl, (blk_cell BK354.out 3).trans rfl, (blk_cell BK354.out 4).trans rfl⟩ (fun hHeld => ?_)
            clear hK K
            refine norm_ (a' := ?_) ?_ ?_
            rotate_left
            ·
             show Act.put _ (some 45) _ = _
             simp only [Act.put, sA_, sB_, sC_, i64_w, i32_w]
             rfl
            exact norm_ z13_32_ (hCont (.slice Ao87 y355.length co87, v359, v362) _ ⟨hHeld, z13_29_, z13_20_, z13_28_, z13_30_, z13_2_, z13_3_, z13_11_, z13_4_⟩)
          rintro ⟨v356, v359, v362⟩ w88 ⟨hS_, h0_, h1_, h2_, h3_, h4_, h5_, h6_, h7_⟩
          have n0_ : Aside0 (Kd.R (Kd.int .i16) 85 w88 w.heap.size (fun k_ => some k_ ≠ (v359 : Value).ownBlock) v356 y355) := ⟨h0_⟩
          have n1_ : Aside0 (Kd.R (Kd.int .i16) 85 w88 w.heap.size (fun k_ => some k_ ≠ (v356 : Value).ownBlock) v359 y358) := ⟨h1_⟩
          have n2_ : Aside0 (Kd.R (Kd.int .i8) 86 w88 w.heap.size (fun k_ => some k_ ≠ (.slice Ao79 x5_1.length co79 : Value).ownBlock) v362 y361) := ⟨h2_⟩
          have n3_ : Aside0 (Kd.R (Kd.int .i8) 86 w88 w.heap.size (fun k_ => some k_ ≠ (v362 : Value).ownBlock) (.slice Ao79 x5_1.length co79) x5_1) := ⟨h3_⟩
          have n4_ : Aside0 (w88.heap[gb327]? = some (.cells #[.slice (some ad353) l0_0.length c0_0] 34 (0, 0))) := ⟨h4_⟩
          have n5_ : Aside0 (w88.heap[gb328]? = some (.cells #[.slice none 0 0, .slice none 0 0] 36 (0, 0))) := ⟨h5_⟩
          have n6_ : Aside0 (w88.heap[gb354]? = some (.cells #[.int .i8 ((rd_T89 l0_0 x6_1).f0), .int .i8 ((rd_T89 l0_0 x6_1).f1), .int .i16 ((rd_T89 l0_0 x6_1).f2.f0), .int .i16 ((rd_T89 l0_0 x6_1).f2.f1), .int .i16 ((rd_T89 l0_0 x6_1).f2.f2)] 89 (0, 0))) := ⟨h6_⟩
          have n7_ : Aside0 (Below w.heap.size w w88) := ⟨h7_⟩
          clear HO_4
          clear HO_5
          clear BK327
          clear BK328
          clear BK354
          clear HB
          clear h0_ h1_ h2_ h3_ h4_ h5_ h6_ h7_
          have HO357 := n0_
          have HO360 := n1_
          have HO363 := n2_
          have HO_5 := n3_
          have BK327 := n4_
          have BK328 := n5_
          have BK354 := n6_
          have HB := n7_
          clear n0_ n1_ n2_ n3_ n4_ n5_ n6_ n7_
          have hHeld : w88.cell? ⟨gb354, 0, none⟩ = some (.int .i8 ((rd_T89 l0_0 x6_1).f0)) ∧ w88.cell? ⟨gb354, 1, none⟩ = some (.int .i8 ((rd_T89 l0_0 x6_1).f1)) ∧ w88.cell? ⟨gb354, 2, none⟩ = some (.int .i16 ((rd_T89 l0_0 x6_1).f2.f0)) ∧ w88.cell? ⟨gb354, 3, none⟩ = some (.int .i16 ((rd_T89 l0_0 x6_1).f2.f1)) ∧ w88.cell? ⟨gb354, 4, none⟩ = some (.int .i16 ((rd_T89 l0_0 x6_1).f2.f2)) := hS_
          obtain ⟨Ao90, co90, eo90⟩ := Kd.R_slice HO363.out
          (first | subst eo90 | (injection eo90 with f1_ f2_ f3_; have f4_ := f1_.symm; have f5_ := f3_.symm; clear f1_ f2_ f3_; subst f4_; subst f5_))
          refine norm_ (a' := ?_) ?_ ?_
          rotate_left
          ·
           simp only [putAll, Act.put, sA_, sB_, sC_]
           rfl
          refine one_ (i := 8) (N := some 50) #[true, true, true, true, true, true, true, true, true, false, false] rfl rfl (one_of HT_.out (by kernel_rfl)) (by decide) (fun K hK => ?_)
          refine Kd.R_append_rows_step (Kd.int .i8) (w0 := w) w.heap.size (by rfl) (.tmp 46) (.tmp 49) 25 86 (.int .i8 0) 1 rfl Try.underlying25 info86 rfl (by decide) (by omega) (.slice Ao79 x5_1.length co79) x5_1 y361 _ _ _ (fun k_ => some k_ ≠ (.slice Ao90 y361.length co90 : Value).ownBlock) (fun _ => False) rfl rfl ?aO ?aR (fun _ _ h => h) (fun _ h => h.elim) ?aF ?aB ?aS ?aL ?_
          (case aR => repeat (first | exact (Kd.R_reads' HO363.out).2.2 | (with_reducible refine Kd.C_alloc ?_ _) | (with_reducible refine Kd.C_drewN ?_ _) | (with_reducible refine Kd.C_drew ?_)))
          (case aB => exact z13_4_)
          (case aF => exact (fun k_ hk => Kd.fresh' (Kd.R_lt z13_27_) k_ hk))
          (case aO => exact z13_5_)
          (case aS => exact (below_size z13_4_))
          (case aL => have := LMc71.out; omega)
          intro v365 w89 ho hb hg hat
          rw [← Ny364.out] at ho
          have n0_ := Aside0.mk (blk_grown (g := gb327) (o := .cells #[.slice (some ad353) l0_0.length c0_0] 34 (0, 0)) z13_2_ hg (Kd.R_ne HO_5.out BK327.out (by decide)))
          have n1_ := Aside0.mk (blk_grown (g := gb328) (o := .cells #[.slice none 0 0, .slice none 0 0] 36 (0, 0)) z13_3_ hg (Kd.R_ne HO_5.out BK328.out (by decide)))
          have n2_ := Aside0.mk (blk_grown (g := gb354) (o := .cells #[.int .i8 ((rd_T89 l0_0 x6_1).f0), .int .i8 ((rd_T89 l0_0 x6_1).f1), .int .i16 ((rd_T89 l0_0 x6_1).f2.f0), .int .i16 ((rd_T89 l0_0 x6_1).f2.f1), .int .i16 ((rd_T89 l0_0 x6_1).f2.f2)] 89 (0, 0)) z13_11_ hg (Kd.R_ne HO_5.out BK354.out (by decide)))
          have n3_ := Aside0.mk (Kd.R_over' z13_12_ (Kd.R_typed z13_5_) (by decide) hg)
          have n4_ := Aside0.mk (Kd.R_over' z13_20_ (Kd.R_typed z13_5_) (by decide) hg)
          have n5_ := Aside0.mk (Kd.R_after (ok := (fun _ => True)) (by (with_reducible repeat (first | apply Kd.R_alloc | apply Kd.R_drewN | apply Kd.R_drew)); exact Kd.R_mono HO363.out (fun _ hk => ⟨trivial, hk⟩)) hg hat)
          have n6_ := Aside0.mk (hb)
          have n7_ := Aside0.mk (ho)
          clear BK327
          clear BK328
          clear BK354
          clear HO357
          clear HO360
          clear HO363
          clear HB
          clear HO_5
          have BK327 := n0_
          have BK328 := n1_
          have BK354 := n2_
          have HO357 := n3_
          have HO360 := n4_
          have HO363 := n5_
          have HB := n6_
          have HO366 := n7_
          clear n0_ n1_ n2_ n3_ n4_ n5_ n6_ n7_
          clear ho hb hg hat
          refine hK.out _ _ ⟨(blk_cell BK354.out 0).trans rfl, (blk_cell BK354.out 1).trans rfl, (blk_cell BK354.out 2).trans rfl, (blk_cell BK354.out 3).trans rfl, (blk_cell BK354.out 4).trans rfl⟩ (fun hHeld => ?_)
          clear hK K
          refine norm_ (a' := ?_) ?_ ?_
          rotate_left
          ·
           show Act.put _ (some 50) _ = _
           simp only [Act.put, sA_, sB_, sC_, i64_w, i32_w]
           rfl
          refine pure_ (i := 9) (N := some 4) (v := ?_) (a' := ?_) #[true, true, true, true, true, true, true, true, true, true, false] rfl rfl (any_of HT_.out (by kernel_rfl)) (fun _ _ _ h => h) (Or.inl ⟨by rfl, ?_⟩) ?_ ?_
          rotate_left
          ·
           intro w'
           go_simp
           with_reducible rfl
          rotate_left
          ·
           simp only [Act.put, sA_, sB_, sC_, i64_w, i32_w]
           rfl
          refine pure_ (i := 10) (N := some 5) (v := ?_) (a' := ?_) #[true, true, true, true, true, true, true, true, true, true, true] rfl rfl (any_of HT_.out (by kernel_rfl)) (fun _ _ _ h => h) (Or.inl ⟨by rfl, ?_⟩) ?_ ?_
          rotate_left
          ·
           intro w'
           go_simp
           with_reducible rfl
          rotate_left
          ·
           simp only [Act.put, sA_, sB_, sC_, i64_w, i32_w]
           rfl
          refine done_ (done_of HT_.out (by kernel_rfl)) ?_
          have hcz91_0 : w89.cell? ⟨gb354, 0, none⟩ = some (.int .i8 ((rd_T89 l0_0 x6_1).f0)) := (blk_cell BK354.out 0).trans rfl
          have hcz91_1 : w89.cell? ⟨gb354, 1, none⟩ = some (.int .i8 ((rd_T89 l0_0 x6_1).f1)) := (blk_cell BK354.out 1).trans rfl
          have hcz91_2 : w89.cell? ⟨gb354, 2, none⟩ = some (.int .i16 ((rd_T89 l0_0 x6_1).f2.f0)) := (blk_cell BK354.out 2).trans rfl
          have hcz91_3 : w89.cell? ⟨gb354, 3, none⟩ = some (.int .i16 ((rd_T89 l0_0 x6_1).f2.f1)) := (blk_cell BK354.out 3).trans rfl
          have hcz91_4 : w89.cell? ⟨gb354, 4, none⟩ = some (.int .i16 ((rd_T89 l0_0 x6_1).f2.f2)) := (blk_cell BK354.out 4).trans rfl
          have hfz91_0 := blk_frozen BK354.out 0
          have hfz91_1 := blk_frozen BK354.out 1
          have hfz91_2 := blk_frozen BK354.out 2
          have hfz91_3 := blk_frozen BK354.out 3
          have hfz91_4 := blk_frozen BK354.out 4
          try go_wp2
          go_roundg k1
          case measure => have := HK1.out; omega
          case rel => exact ⟨(y358), (y364), ((rd_T89 l0_0 x6_1).f2.f0), (by first | rfl | (simp; done) | (simp [*]; done) | (simp [isE_]; done)), H', ⟨by have := HK1.out; omega⟩, ⟨by (with_reducible repeat (first | apply Kd.R_alloc | apply Kd.R_drewN | apply Kd.R_drew)); exact Kd.R_mono HO360.out (fun _ hk => trivial)⟩, ⟨by (with_reducible repeat (first | apply Kd.R_alloc | apply Kd.R_drewN | apply Kd.R_drew)); exact Kd.R_mono HO366.out (fun _ hk => trivial)⟩, ⟨by (with_reducible repeat (first | refine blk_drewN ?_ _ | refine blk_drew ?_ | refine blk_alloc ?_ _)); exact BK327.out⟩, ⟨by (with_reducible repeat (first | refine blk_drewN ?_ _ | refine blk_drew ?_ | refine blk_alloc ?_ _)); exact BK328.out⟩, ⟨by repeat (first | (with_reducible first | exact HB.out | apply below_alloc | apply pw_below_drewN | apply below_drew1 | refine below_set ?_ GE327.out | refine below_set ?_ GE328.out | refine below_set ?_ GE354.out) | exact HB.out)⟩⟩
         ·
          rw [if_neg c71] at H
          exact absurd H (by simp)
        ·
         rw [if_neg c70] at H
         exact absurd H (by simp)
      ·
       rw [if_neg c60] at H
       exact absurd H (by simp)
     ·
      rw [if_neg c59] at H
      exact absurd H (by simp)
 ·
  replace c3 := Bool.eq_false_iff.mpr c3
  subst c3
  have H1 : (some (([] : List Int), ([] : List Int), 1)) = some (r1, r2, r3) := by first | (rw [if_neg (show ¬ (false = true) by decide)] at H; exact H) | rfl
  clear H
  have H := H1
  clear H1
  simp only [Option.some.injEq, Prod.mk.injEq] at H
  obtain ⟨rfl, rfl, rfl⟩ := H
  go_enter Try.func44, Try.ntmps44
  go_wp2_with (first | ((with_reducible refine gate_dst (N := 1) rfl ?_); refine box_event ?hg (N := 1) ?hd (cs := #[.slice A0_0 l0_0.length c0_0]) (t := 34) ?hr ?_; (case hd => rfl); (case hg => rfl); (case hr => first | (go_simp; done) | (go_simp; rfl)); intro gb327 hg w92 hbox hb; have n0_ := Aside0.mk (below_step z13_14_ hb); have n1_ := Aside0.mk (hbox); have n2_ := Aside0.mk ((by rw [hg]; exact (below_size z13_14_) : w.heap.size ≤ gb327)); have n3_ := Aside0.mk ((by rw [hg]; exact (below_size z13_14_) : w.heap.size ≤ gb327)); clear HB; have HB := n0_; have BK327 := n1_; have GW327 := n2_; have GE327 := n3_; clear n0_ n1_ n2_ n3_; clear hb hbox hg) | ((with_reducible refine gate_dst (N := 2) rfl ?_); refine box_event ?hg (N := 2) ?hd (cs := #[.slice none 0 0, .slice none 0 0]) (t := 36) ?hr ?_; (case hd => rfl); (case hg => rfl); (case hr => first | (go_simp; done) | (go_simp; rfl)); intro gb328 hg w93 hbox hb; have n0_ := Aside0.mk (blk_below (g := gb327) (o := .cells #[.slice A0_0 l0_0.length c0_0] 34 (0, 0)) z13_2_ hb); have n1_ := Aside0.mk (below_step z13_13_ hb); have n2_ := Aside0.mk (hbox); have n3_ := Aside0.mk ((by rw [hg]; exact (below_size z13_13_) : w.heap.size ≤ gb328)); have n4_ := Aside0.mk ((by rw [hg]; exact (below_size z13_13_) : w.heap.size ≤ gb328)); have n5_ := Aside0.mk ((by rw [hg]; exact Nat.ne_of_lt (blk_lt (g := gb327) (o := .cells #[.slice A0_0 l0_0.length c0_0] 34 (0, 0)) z13_2_) : gb327 ≠ gb328)); have n6_ := Aside0.mk ((by rw [hg]; exact Nat.ne_of_gt (blk_lt (g := gb327) (o := .cells #[.slice A0_0 l0_0.length c0_0] 34 (0, 0)) z13_2_) : gb328 ≠ gb327)); clear BK327; clear HB; have BK327 := n0_; have HB := n1_; have BK328 := n2_; have GW328 := n3_; have GE328 := n4_; have NB327_328 := n5_; have NB328_327 := n6_; clear n0_ n1_ n2_ n3_ n4_ n5_ n6_; clear hb hbox hg; have hnb94 := NB327_328.out; have hnc94 := NB328_327.out; have hcz95_0 : w93.cell? ⟨gb327, 0, none⟩ = some (.slice A0_0 l0_0.length c0_0) := (blk_cell BK327.out 0).trans rfl; have hfz95_0 := blk_frozen BK327.out 0) | ((with_reducible refine gate_callee (f := 60) rfl ?_); refine goesL_ (some 11) rfl rfl Try.func60 (by kernel_rfl) rfl #[.agg #[.slice A0_0 l0_0.length c0_0]] rfl z13_10_ ?_; (with_reducible refine (impl_ValidTree.calls _ _ l0_0 false _ ?side1 ?side2 A2.out).mono ?_); (case side1 => repeat (first | exact (Kd.C_below HR0_0.out HB.out) | (with_reducible refine Kd.C_alloc ?_ _) | (with_reducible refine Kd.C_drewN ?_ _) | (with_reducible refine Kd.C_drew ?_))); (case side2 => exact HC0_0.out); rintro e w96 ⟨rfl, hb⟩; refine ⟨_, rfl, ?_⟩; have n0_ := Aside0.mk (blk_below (g := gb327) (o := .cells #[.slice A0_0 l0_0.length c0_0] 34 (0, 0)) z13_2_ hb); have n1_ := Aside0.mk (blk_below (g := gb328) (o := .cells #[.slice none 0 0, .slice none 0 0] 36 (0, 0)) z13_3_ hb); have n2_ := Aside0.mk (below_step z13_1_ hb); clear BK327; clear BK328; clear HB; have BK327 := n0_; have BK328 := n1_; have HB := n2_; clear n0_ n1_ n2_; (try clear hb); (try clear hb2); (try clear hk); (try clear hi); have hcz97_0 : w96.cell? ⟨gb328, 0, none⟩ = some (.slice none 0 0) := (blk_cell BK328.out 0).trans rfl; have hcz97_1 : w96.cell? ⟨gb328, 1, none⟩ = some (.slice none 0 0) := (blk_cell BK328.out 1).trans rfl; have hfz97_0 := blk_frozen BK328.out 0; have hfz97_1 := blk_frozen BK328.out 1))
  refine bodyPost_ret (results_ct rfl _ _ gb328 36 #[.slice none 0 0, .slice none 0 0] (0, 0) _ rfl z13_18_ Try.underlying36 rfl (by kernel_rfl)) rfl ?_
  exact ⟨_, _, by first | rfl | (simp [errW_none, errW_some] <;> rfl) | (simp [*, errW_none, errW_some] <;> rfl), by first | exact Kd.R_nil _ _ _ _ _ | exact Kd.N_nil _ _ _ _ _ | exact Kd.V_nil _ _ _ _ _ | exact Kd.Q_nil _ _ _ _ _ | exact Kd.S_nil _ _ _ _ _, by first | exact Kd.R_nil _ _ _ _ _ | exact Kd.N_nil _ _ _ _ _ | exact Kd.V_nil _ _ _ _ _ | exact Kd.Q_nil _ _ _ _ _ | exact Kd.S_nil _ _ _ _ _, by repeat (first | (with_reducible first | exact HB.out | apply below_alloc | apply pw_below_drewN | apply below_drew1 | refine below_set ?_ GE327.out | refine below_set ?_ GE328.out) | exact HB.out)⟩
end Go.Proofs.Ytpfnohdnaocpdaa.PT

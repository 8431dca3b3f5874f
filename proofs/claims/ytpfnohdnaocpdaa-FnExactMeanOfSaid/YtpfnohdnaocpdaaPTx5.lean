import Derived.Test.YtpfnohdnaocpdaaPTx0
import Derived.Test.YtpfnohdnaocpdaaPTsTable
import Derived.Test.YtpfnohdnaocpdaaPTtable
import Derived.Test.YtpfnohdnaocpdaaPTx3
import Derived.Test.YtpfnohdnaocpdaaPTx4
namespace Go.Proofs.Ytpfnohdnaocpdaa.PT
open Go.RowKit Go.Proofs.YtpfnohdnaocpdaaW.PrintWords Go.Proofs.YtpfnohdnaocpdaaW.PrintLast Go.Proofs.YtpfnohdnaocpdaaW.PrintMore Go.Proofs.YtpfnohdnaocpdaaRP
attribute [local go_sem] max2_int min2_int max_two min_two max_three min_three max_four min_four Go.Proofs.YtpfnohdnaocpdaaRP.max_eight Go.Proofs.YtpfnohdnaocpdaaRP.tmod_len   -- for this text's walks alone
set_option linter.unusedVariables false
set_option linter.unusedSimpArgs false
theorem z5_1_ {P : Prop} (h : P := by repeat (first | (with_reducible first | exact HB.out | apply below_alloc | apply pw_below_drewN | apply below_drew1 | refine below_set ?_ GE287.out | refine below_set ?_ GE288.out) | exact HB.out)) : P := h
theorem z5_2_ {P : Prop} (h : P := by (with_reducible repeat (first | refine blk_drewN ?_ _ | refine blk_drew ?_ | refine blk_alloc ?_ _)); exact BK287.out) : P := h
theorem z5_3_ {P : Prop} (h : P := by (with_reducible repeat (first | refine blk_drewN ?_ _ | refine blk_drew ?_ | refine blk_alloc ?_ _)); exact BK288.out) : P := h
theorem z5_4_ {P : Prop} (h : P := by repeat (first | (with_reducible first | exact HB.out | apply below_alloc | apply pw_below_drewN | apply below_drew1) | exact HB.out)) : P := h
theorem z5_5_ {P : Prop} (h : P := by repeat (first | (with_reducible first | exact HB.out | apply below_alloc | apply pw_below_drewN | apply below_drew1 | refine below_set ?_ GE287.out) | exact HB.out)) : P := h
theorem z5_6_ {P : Prop} (h : P := by repeat (first | (with_reducible first | exact HB.out | apply below_alloc | apply pw_below_drewN | apply below_drew1 | refine below_set ?_ GE238.out | refine below_set ?_ GE239.out) | exact HB.out)) : P := h
theorem z5_7_ {P : Prop} (h : P := by (with_reducible repeat (first | refine blk_drewN ?_ _ | refine blk_drew ?_ | refine blk_alloc ?_ _)); exact BK238.out) : P := h
theorem z5_8_ {P : Prop} (h : P := by (with_reducible repeat (first | apply Kd.R_alloc | apply Kd.R_drewN | apply Kd.R_drew)); exact HO_8.out) : P := h
theorem z5_9_ {P : Prop} (h : P := by repeat (first | (with_reducible exact HR300_1.out) | (with_reducible refine Kd.C_alloc ?_ _) | (with_reducible refine Kd.C_drewN ?_ _) | (with_reducible refine Kd.C_drew ?_) | exact HR300_1.out)) : P := h
theorem z5_10_ {P : Prop} (h : P := by repeat (first | (with_reducible exact HR300_0.out) | (with_reducible refine Kd.C_alloc ?_ _) | (with_reducible refine Kd.C_drewN ?_ _) | (with_reducible refine Kd.C_drew ?_) | exact HR300_0.out)) : P := h
theorem z5_11_ {P : Prop} (h : P := by (with_reducible repeat (first | apply Kd.S_alloc | apply Kd.S_drewN | apply Kd.S_drew)); exact HO_36.out) : P := h
theorem z5_12_ {P : Prop} (h : P := by (with_reducible repeat (first | apply Kd.S_alloc | apply Kd.S_drewN | apply Kd.S_drew)); exact HO_6.out) : P := h
theorem z5_13_ {P : Prop} (h : P := by repeat (first | (with_reducible first | exact HB.out | apply below_alloc | apply pw_below_drewN | apply below_drew1 | refine below_set ?_ GE238.out) | exact HB.out)) : P := h
theorem z5_14_ {P : Prop} (h : P := by (with_reducible repeat (first | apply Kd.R_alloc | apply Kd.R_drewN | apply Kd.R_drew)); exact (Kd.R_mono (Kd.R_far (p := ⟨gb301, 1, none⟩) (Kd.R_far (p := ⟨gb301, 0, none⟩) (Kd.R_types HL300_1.out BK301.out (by decide)) (fun _ hk => hk.2) (.slice A300_0 ((rd_T151 t289 x38_2).f0).length c300_0)) (fun _ hk => hk.2) (.slice A300_1 ((rd_T151 t289 x38_2).f1).length c300_1)) (fun _ h_ => h_.1))) : P := h
theorem z5_15_ {P : Prop} (h : P := by (with_reducible repeat (first | refine blk_drewN ?_ _ | refine blk_drew ?_ | refine blk_alloc ?_ _)); exact BK239.out) : P := h
theorem z5_16_ {P : Prop} (h : P := by first | rfl | (simp; done) | (simp [*]; done) | (simp [isE_]; done)) : P := h
theorem z5_17_ {P : Prop} (h : P := by (with_reducible repeat (first | apply Kd.R_alloc | apply Kd.R_drewN | apply Kd.R_drew)); exact HL300_1.out) : P := h
theorem z5_18_ {P : Prop} (h : P := by (with_reducible repeat (first | apply Kd.R_alloc | apply Kd.R_drewN | apply Kd.R_drew)); exact HL300_0.out) : P := h
theorem z5_19_ {P : Prop} (h : P := by (with_reducible repeat (first | apply Kd.S_alloc | apply Kd.S_drewN | apply Kd.S_drew)); exact HO291.out) : P := h
theorem z5_20_ {P : Prop} (h : P := by first | rfl | (simp [errW_none, errW_some] <;> rfl) | (simp [*, errW_none, errW_some] <;> rfl)) : P := h
theorem z5_21_ {P : Prop} (h : P := by (try simp only [List.map_toArray, List.map_cons, List.map_nil]); first | done | rfl | (simp only [List.length_drop, List.length_take]; rfl)) : P := h
theorem z5_22_ {P : Prop} (h : P := by first | (rw [add_block]; exact hn303_1) | (show (Addr.add _ _).block ≠ _; rw [add_block]; exact hn303_1) | exact hn303_1) : P := h
theorem z5_23_ {P : Prop} (h : P := by first | (rw [add_block]; exact hn303_0) | (show (Addr.add _ _).block ≠ _; rw [add_block]; exact hn303_0) | exact hn303_0) : P := h
theorem z5_24_ {P : Prop} (h : P := by repeat (first | (with_reducible first | exact HB.out | apply below_alloc | apply pw_below_drewN | apply below_drew1 | refine below_set ?_ GE287.out | refine below_set ?_ GE288.out | refine below_set ?_ GE301.out) | exact HB.out)) : P := h
theorem z5_25_ {P : Prop} (h : P := by repeat (first | (with_reducible exact HR249_1.out) | (with_reducible refine Kd.C_alloc ?_ _) | (with_reducible refine Kd.C_drewN ?_ _) | (with_reducible refine Kd.C_drew ?_) | exact HR249_1.out)) : P := h
theorem z5_26_ {P : Prop} (h : P := by repeat (first | (with_reducible exact HR249_0.out) | (with_reducible refine Kd.C_alloc ?_ _) | (with_reducible refine Kd.C_drewN ?_ _) | (with_reducible refine Kd.C_drew ?_) | exact HR249_0.out)) : P := h
theorem z5_27_ {P : Prop} (h : P := by repeat (first | (with_reducible exact HR248_1.out) | (with_reducible refine Kd.C_alloc ?_ _) | (with_reducible refine Kd.C_drewN ?_ _) | (with_reducible refine Kd.C_drew ?_) | exact HR248_1.out)) : P := h
theorem z5_28_ {P : Prop} (h : P := by repeat (first | (with_reducible exact HR248_0.out) | (with_reducible refine Kd.C_alloc ?_ _) | (with_reducible refine Kd.C_drewN ?_ _) | (with_reducible refine Kd.C_drew ?_) | exact HR248_0.out)) : P := h
theorem z5_29_ {P : Prop} (h : P := by repeat (first | exact (Kd.C_below HR0_0.out HB.out) | (with_reducible refine Kd.C_alloc ?_ _) | (with_reducible refine Kd.C_drewN ?_ _) | (with_reducible refine Kd.C_drew ?_))) : P := h
theorem z5_30_ {P : Prop} (h : P := by first | exact q300 | exact of_decide_eq_true (by assumption) | (have e_ := (Kd.S_reads' HO_36.out).1; omega)) : P := h
theorem z5_31_ {P : Prop} (h : P := by first | exact q248 | exact of_decide_eq_true (by assumption) | (have e_ := (Kd.S_reads' HO_6.out).1; omega)) : P := h
/-! ### spec_MeanOf: function 51 -/
mutual
def spec_MeanOf.l0 : Nat → Int → List (S151) → Int → Int → Option (Int × Int × Int)
 | 0, _, _, _, _ => none
 | k + 1, x1, x6, x8, x9 => if x9 < (x6.length : Int) then (if 0 ≤ x9 then (if (((rd_T151 x6 x9).f0).length : Int) > 12 then (some (0, 0, 3)) else (spec_MeanOf.l1 k x1 x6 x8 x9 1 (((rd_T151 x6 x9).f0).length : Int))) else (none)) else (if 0 ≤ (IntKind.u64.wrap (x1)) then ((spec_l03Make.f k x8 (shl .i64 531441 (IntKind.u64.wrap (x1)))).bind fun bt245 => (some (bt245.1, bt245.2.1, bt245.2.2))) else (none))
def spec_MeanOf.l1 : Nat → Int → List (S151) → Int → Int → Int → Int → Option (Int × Int × Int)
 | 0, _, _, _, _, _, _ => none
 | k + 1, x1, x6, x8, x9, x10, x11 => if x11 < 12 then (spec_MeanOf.l1 k x1 x6 x8 x9 (wrap64 (x10 * 3)) (wrap64 (x11 + 1))) else (if 0 ≤ x9 then (if x9 < (x6.length : Int) then ((spec_l03Whole.f k ((rd_T151 x6 x9).f1)).bind fun t251 => (spec_MeanOf.l0 k x1 x6 (wrap64 (x8 + (wrap64 (x10 * t251)))) (wrap64 (x9 + 1)))) else (none)) else (none))
end
def spec_MeanOf.f (k : Nat) (l0_0 : List (S89)) (a1 : Int) : Option (Int × Int × Int) := (spec_l06Table.f k [(⟨l0_0⟩ : S34)] a1).bind fun bt241 => (if bt241.2 = 0 then (spec_MeanOf.l0 k a1 bt241.1 0 0) else (some (0, 0, bt241.2)))
theorem spec_MeanOf.mono_l : ∀ k, (∀ y0 y1 y2 y3, LeO (spec_MeanOf.l0 k y0 y1 y2 y3) (spec_MeanOf.l0 (k + 1) y0 y1 y2 y3)) ∧ (∀ y0 y1 y2 y3 y4 y5, LeO (spec_MeanOf.l1 k y0 y1 y2 y3 y4 y5) (spec_MeanOf.l1 (k + 1) y0 y1 y2 y3 y4 y5))
 | 0 => ⟨fun _ _ _ _ r h => by simp [spec_MeanOf.l0] at h, fun _ _ _ _ _ _ r h => by simp [spec_MeanOf.l1] at h⟩
 | k + 1 => by
  obtain ⟨ih0, ih1⟩ := spec_MeanOf.mono_l k
  refine ⟨?_, ?_⟩
  ·
   intro y0 y1 y2 y3
   unfold spec_MeanOf.l0
   repeat' first
   | (with_reducible exact ih0 _ _ _ _)
   | (with_reducible exact ih1 _ _ _ _ _ _)
   | (with_reducible exact spec_l03Make.mono _ _ _)
   | (with_reducible exact spec_l03Whole.mono _ _)
   | (with_reducible exact spec_l06Table.mono _ _ _)
   | (with_reducible exact LeO.refl _)
   | (with_reducible exact LeO.none _)
   | (with_reducible refine LeO.ite ?_ ?_)
   | (with_reducible refine LeO.bind ?_ (fun _ => ?_))
   | exact ih0 _ _ _ _
   | exact ih1 _ _ _ _ _ _
   | exact LeO.none _
   | refine LeO.ite ?_ ?_
   | refine LeO.bind ?_ (fun _ => ?_)
  ·
   intro y0 y1 y2 y3 y4 y5
   unfold spec_MeanOf.l1
   repeat' first
   | (with_reducible exact ih0 _ _ _ _)
   | (with_reducible exact ih1 _ _ _ _ _ _)
   | (with_reducible exact spec_l03Make.mono _ _ _)
   | (with_reducible exact spec_l03Whole.mono _ _)
   | (with_reducible exact spec_l06Table.mono _ _ _)
   | (with_reducible exact LeO.refl _)
   | (with_reducible exact LeO.none _)
   | (with_reducible refine LeO.ite ?_ ?_)
   | (with_reducible refine LeO.bind ?_ (fun _ => ?_))
   | exact ih0 _ _ _ _
   | exact ih1 _ _ _ _ _ _
   | exact LeO.none _
   | refine LeO.ite ?_ ?_
   | refine LeO.bind ?_ (fun _ => ?_)
theorem spec_MeanOf.mono : ∀ a0 a1 k, LeO (spec_MeanOf.f k a0 a1) (spec_MeanOf.f (k + 1) a0 a1) := by
 intro a0 a1 k
 obtain ⟨ih0, ih1⟩ := spec_MeanOf.mono_l k
 unfold spec_MeanOf.f
 repeat' first
   | (with_reducible exact ih0 _ _ _ _)
   | (with_reducible exact ih1 _ _ _ _ _ _)
   | (with_reducible exact spec_l03Make.mono _ _ _)
   | (with_reducible exact spec_l03Whole.mono _ _)
   | (with_reducible exact spec_l06Table.mono _ _ _)
   | (with_reducible exact LeO.refl _)
   | (with_reducible exact LeO.none _)
   | (with_reducible refine LeO.ite ?_ ?_)
   | (with_reducible refine LeO.bind ?_ (fun _ => ?_))
   | exact ih0 _ _ _ _
   | exact ih1 _ _ _ _ _ _
   | exact LeO.none _
   | refine LeO.ite ?_ ?_
   | refine LeO.bind ?_ (fun _ => ?_)
set_option maxHeartbeats 8000000 in
set_option maxRecDepth 100000 in
theorem spec_MeanOf.calls (k : Nat) (A0_0 : Option Addr) (c0_0 : Nat) (l0_0 : List (S89)) (a1 : Int) (r1 : Int) (r2 : Int) (r3 : Int) (w : World) (hr0_0 : Kd.C k89 w A0_0 l0_0.length l0_0) (hc0_0 : l0_0.length ≤ c0_0) (h : spec_MeanOf.f k l0_0 a1 = some (r1, r2, r3)) :
  Calls Try.prog 51 #[.agg #[.slice A0_0 l0_0.length c0_0], .int .i64 a1] w fun e w' => e = .returned (.tuple #[.agg #[.int .i64 r1, .int .i64 r2], .int .i64 r3]) ∧ Below w.heap.size w w' := by
 have hu34 := Try.underlying34
 have hu71 := Try.underlying71
 have HR0_0 := A_ hr0_0
 have HC0_0 := A_ hc0_0
 clear hr0_0 hc0_0
 have HB := A_ (Below.refl w.heap.size w)
 have H : ((spec_l06Table.f k [(⟨l0_0⟩ : S34)] a1).bind fun bt241 => (if bt241.2 = 0 then (spec_MeanOf.l0 k a1 bt241.1 0 0) else (some (0, 0, bt241.2)))) = some (r1, r2, r3) := h
 clear h
 replace H := Option.bind_eq_some_iff.mp H
 obtain ⟨⟨t241, t242⟩, A30, H⟩ := H
 try dsimp only at H
 have A3 := A_ A30
 clear A30
 by_cases c4 : t242 = 0
 ·
  rw [if_pos c4] at H
  have c4b0 := beq_iff_eq.mpr c4
  have c4b1 := bne_eq_false_iff_eq.mpr c4
  clear c4
  have H' := A_ H
  clear H
  go_enter Try.func51, Try.ntmps51
  go_wp2_with (first | ((with_reducible refine gate_dst (N := 2) rfl ?_); refine box_event ?hg (N := 2) ?hd (cs := #[.slice A0_0 l0_0.length c0_0]) (t := 34) ?hr ?_; (case hd => rfl); (case hg => rfl); (case hr => first | (go_simp; done) | (go_simp; rfl)); intro gb238 hg w5 hbox hb; have _ := A_ (below_step z5_4_ hb); have _ := A_ (hbox); have _ := A_ ((by rw [hg]; exact (below_size z5_4_) : w.heap.size ≤ gb238)); have _ := A_ ((by rw [hg]; exact (below_size z5_4_) : w.heap.size ≤ gb238)); clear HB; rename_i HB BK238 GW238 GE238; clear hb hbox hg) | ((with_reducible refine gate_dst (N := 4) rfl ?_); refine box_event ?hg (N := 4) ?hd (cs := #[.int .i64 0, .int .i64 0]) (t := 71) ?hr ?_; (case hd => rfl); (case hg => rfl); (case hr => first | (go_simp; done) | (go_simp; rfl)); intro gb239 hg w6 hbox hb; have _ := A_ (blk_below (g := gb238) (o := .cells #[.slice A0_0 l0_0.length c0_0] 34 (0, 0)) z5_7_ hb); have _ := A_ (below_step z5_13_ hb); have _ := A_ (hbox); have _ := A_ ((by rw [hg]; exact (below_size z5_13_) : w.heap.size ≤ gb239)); have _ := A_ ((by rw [hg]; exact (below_size z5_13_) : w.heap.size ≤ gb239)); have _ := A_ ((by rw [hg]; exact Nat.ne_of_lt (blk_lt (g := gb238) (o := .cells #[.slice A0_0 l0_0.length c0_0] 34 (0, 0)) z5_7_) : gb238 ≠ gb239)); have _ := A_ ((by rw [hg]; exact Nat.ne_of_gt (blk_lt (g := gb238) (o := .cells #[.slice A0_0 l0_0.length c0_0] 34 (0, 0)) z5_7_) : gb239 ≠ gb238)); clear BK238 HB; rename_i BK238 HB BK239 GW239 GE239 NB238_239 NB239_238; clear hb hbox hg) | ((with_reducible refine gate_callee (f := 101) rfl ?_); refine goesL_ (some 14) rfl rfl Try.func101 (by kernel_rfl) rfl #[.pointer (some ⟨gb238, 0, none⟩), .int .i64 a1] rfl z5_21_ ?_; (with_reducible refine (spec_l06Table.calls k _ ([(⟨l0_0⟩ : S34)]).length [(⟨l0_0⟩ : S34)] a1 t241 t242 _ ?side1 ?side2 A3.out).mono ?_); (case side1 => refine Kd.C_block k34 (g := gb238) (cs := #[.slice A0_0 l0_0.length c0_0]) (T := 34) z5_7_ (show Kd.K k34 _ (⟨l0_0⟩ : S34) [.slice A0_0 l0_0.length c0_0] from k34_mk _ _ (by exact HC0_0.out) z5_29_) (by decide)); (case side2 => exact Nat.le_refl _); rintro e w7 ⟨v243, rfl, ho0, hb⟩; refine ⟨_, rfl, ?_⟩; have _ := A_ (Kd.S_lower ho0 (below_size z5_6_)); have _ := A_ (blk_below (g := gb238) (o := .cells #[.slice A0_0 l0_0.length c0_0] 34 (0, 0)) z5_7_ hb); have _ := A_ (blk_below (g := gb239) (o := .cells #[.int .i64 0, .int .i64 0] 71 (0, 0)) z5_15_ hb); have _ := A_ (below_step z5_6_ hb); clear BK238 BK239 HB; rename_i HO244 BK238 BK239 HB; (try clear hb); (try clear ho0)))
  go_loopg [8, 9] k (fun kq v8 v9 w' => ∃ (x8_1 : Int) (x9_1 : Int) (x240000_1 : Int) (x240001_1 : Int), v8 = .int .i64 x8_1 ∧ v9 = .int .i64 x9_1 ∧ Aside0 (spec_MeanOf.l0 kq a1 t241 x8_1 x9_1 = some (r1, r2, r3)) ∧ Aside0 (kq ≤ k) ∧ Aside0 (Kd.S k151 151 w' w.heap.size (fun _ => True) v243 t241) ∧ Aside0 (w'.heap[gb238]? = some (.cells #[(.slice A0_0 l0_0.length c0_0)] 34 (0, 0))) ∧ Aside0 (w'.heap[gb239]? = some (.cells #[.int .i64 x240000_1, .int .i64 x240001_1] 71 (0, 0))) ∧ Aside0 (Below w.heap.size w w'))
  case atStart => exact ⟨(0), (0), (0), (0), z5_16_, z5_16_, H', ⟨Nat.le_refl _⟩, ⟨(by (with_reducible repeat (first | apply Kd.S_alloc | apply Kd.S_drewN | apply Kd.S_drew)); exact HO244.out)⟩, ⟨z5_7_⟩, ⟨z5_15_⟩, ⟨z5_6_⟩⟩
  case round =>
   clear H'
   try clear c1
   try clear p2
   try clear c4
   try clear c4b0
   try clear c4b1
   try clear c5
   obtain ⟨x8_1, x9_1, x240000_1, x240001_1, rfl, rfl, HA, HK1, HO_6, BK238, BK239, HB⟩ := hrel
   cases gk with
   | zero => exact absurd HA.out (by simp [spec_MeanOf.l0])
   | succ k1 =>
    have H := HA.out
    clear HA
    simp only [spec_MeanOf.l0] at H
    by_cases c8 : x9_1 < (t241.length : Int)
    ·
     rw [if_pos c8] at H
     have c8b0 := decide_eq_true c8
     clear c8
     by_cases c9 : 0 ≤ x9_1
     ·
      rw [if_pos c9] at H
      have c9b0 := decide_eq_true c9
      clear c9
      by_cases c10 : (((rd_T151 t241 x9_1).f0).length : Int) > 12
      ·
       rw [if_pos c10] at H
       have c10b0 := decide_eq_true c10
       have c10b1 : decide (12 < ((rd_T151 t241 x9_1).f0).length) = true := decide_eq_true (by omega)
       clear c10
       simp only [Option.some.injEq, Prod.mk.injEq] at H
       obtain ⟨rfl, rfl, rfl⟩ := H
       obtain ⟨Ao11, co11, eo11⟩ := Kd.S_slice HO_6.out
       subst eo11
       have p248 : 0 ≤ (x9_1 : Int) := of_decide_eq_true (by assumption)
       have q248 : x9_1 < (t241.length : Int) := of_decide_eq_true (by assumption)
       obtain ⟨ad248, A248_0, c248_0, A248_1, c248_1, e248, hx248_0, hx248_1, hl248_0, hi248_0, hl248_1, hi248_1⟩ := at_T151 (Kd.S_reads' HO_6.out).2.2 x9_1 p248 q248
       cases e248
       obtain ⟨ce248, hce248, hMe248, hcc248⟩ := Kd.S_get HO_6.out z151 x9_1 p248 z5_31_
       obtain ⟨ve248_0, ve248_1, rfl, ge248_0, ge248_1⟩ := k151_openM hMe248
       have hv248_0 := hcc248 0 _ rfl
       rw [Nat.add_zero] at hv248_0
       replace hv248_0 := Option.some.inj (hv248_0.symm.trans hx248_0)
       rw [hv248_0] at ge248_0
       have HL248_0 := A_ (show Kd.R (Kd.int .i8) 86 _ _ _ _ ((rd_T151 t241 x9_1).f0) from ge248_0)
       clear hv248_0 ge248_0
       have hv248_1 := hcc248 1 _ rfl
       rw [add_field _ _ 1 (by omega)] at hv248_1
       replace hv248_1 := Option.some.inj (hv248_1.symm.trans hx248_1)
       rw [hv248_1] at ge248_1
       have HL248_1 := A_ (show Kd.R (Kd.int .i8) 86 _ _ _ _ ((rd_T151 t241 x9_1).f1) from ge248_1)
       clear hv248_1 ge248_1
       clear hcc248 hce248
       have HR248_0 := A_ hi248_0
       have HC248_0 := A_ hl248_0
       clear hi248_0 hl248_0
       have HR248_1 := A_ hi248_1
       have HC248_1 := A_ hl248_1
       clear hi248_1 hl248_1
       replace p248 := eq_true p248
       replace q248 := eq_true q248
       have hnb12 := NB239_238.out
       have hnc12 := NB238_239.out
       obtain ⟨hcz13_0, hcz13_1⟩ := bc2 BK239.out
       obtain ⟨hfz13_0, hfz13_1⟩ := bf2 BK239.out
       go_wp2
       refine bodyPost_ret (results_ct rfl _ _ gb239 71 #[.int .i64 0, .int .i64 0] (0, 0) _ rfl (by (with_reducible repeat (first | refine blk_drewN ?_ _ | refine blk_drew ?_ | refine blk_alloc ?_ _)); refine blk_put (cs := #[.int .i64 0, .int .i64 x240001_1]) ?_ 1 _ rfl; (with_reducible repeat (first | refine blk_drewN ?_ _ | refine blk_drew ?_ | refine blk_alloc ?_ _)); refine blk_put (cs := #[.int .i64 x240000_1, .int .i64 x240001_1]) ?_ 0 _ rfl; (with_reducible repeat (first | refine blk_drewN ?_ _ | refine blk_drew ?_ | refine blk_alloc ?_ _)); exact BK239.out) Try.underlying71 rfl (by kernel_rfl)) rfl ?_
       exact ⟨z5_20_, z5_6_⟩
      ·
       rw [if_neg c10] at H
       have c10b0 := decide_eq_false c10
       have c10b1 : decide (12 < ((rd_T151 t241 x9_1).f0).length) = false := decide_eq_false (by omega)
       clear c10
       have H' := A_ H
       clear H
       obtain ⟨Ao14, co14, eo14⟩ := Kd.S_slice HO_6.out
       subst eo14
       have p248 : 0 ≤ (x9_1 : Int) := of_decide_eq_true (by assumption)
       have q248 : x9_1 < (t241.length : Int) := of_decide_eq_true (by assumption)
       obtain ⟨ad248, A248_0, c248_0, A248_1, c248_1, e248, hx248_0, hx248_1, hl248_0, hi248_0, hl248_1, hi248_1⟩ := at_T151 (Kd.S_reads' HO_6.out).2.2 x9_1 p248 q248
       cases e248
       obtain ⟨ce248, hce248, hMe248, hcc248⟩ := Kd.S_get HO_6.out z151 x9_1 p248 z5_31_
       obtain ⟨ve248_0, ve248_1, rfl, ge248_0, ge248_1⟩ := k151_openM hMe248
       have hv248_0 := hcc248 0 _ rfl
       rw [Nat.add_zero] at hv248_0
       replace hv248_0 := Option.some.inj (hv248_0.symm.trans hx248_0)
       rw [hv248_0] at ge248_0
       have HL248_0 := A_ (show Kd.R (Kd.int .i8) 86 _ _ _ _ ((rd_T151 t241 x9_1).f0) from ge248_0)
       clear hv248_0 ge248_0
       have hv248_1 := hcc248 1 _ rfl
       rw [add_field _ _ 1 (by omega)] at hv248_1
       replace hv248_1 := Option.some.inj (hv248_1.symm.trans hx248_1)
       rw [hv248_1] at ge248_1
       have HL248_1 := A_ (show Kd.R (Kd.int .i8) 86 _ _ _ _ ((rd_T151 t241 x9_1).f1) from ge248_1)
       clear hv248_1 ge248_1
       clear hcc248 hce248
       have HR248_0 := A_ hi248_0
       have HC248_0 := A_ hl248_0
       clear hi248_0 hl248_0
       have HR248_1 := A_ hi248_1
       have HC248_1 := A_ hl248_1
       clear hi248_1 hl248_1
       replace p248 := eq_true p248
       replace q248 := eq_true q248
       have p249 : 0 ≤ (x9_1 : Int) := of_decide_eq_true (by assumption)
       have q249 : x9_1 < (t241.length : Int) := of_decide_eq_true (by assumption)
       obtain ⟨ad249, A249_0, c249_0, A249_1, c249_1, e249, hx249_0, hx249_1, hl249_0, hi249_0, hl249_1, hi249_1⟩ := at_T151 (Kd.S_reads' HO_6.out).2.2 x9_1 p249 q249
       obtain rfl : ad248 = ad249 := (by injection e249)
       obtain ⟨ce249, hce249, hMe249, hcc249⟩ := Kd.S_get HO_6.out z151 x9_1 p249 (by first | exact q249 | exact of_decide_eq_true (by assumption) | (have e_ := (Kd.S_reads' HO_6.out).1; omega))
       obtain ⟨ve249_0, ve249_1, rfl, ge249_0, ge249_1⟩ := k151_openM hMe249
       have hv249_0 := hcc249 0 _ rfl
       rw [Nat.add_zero] at hv249_0
       replace hv249_0 := Option.some.inj (hv249_0.symm.trans hx249_0)
       rw [hv249_0] at ge249_0
       have HL249_0 := A_ (show Kd.R (Kd.int .i8) 86 _ _ _ _ ((rd_T151 t241 x9_1).f0) from ge249_0)
       clear hv249_0 ge249_0
       have hv249_1 := hcc249 1 _ rfl
       rw [add_field _ _ 1 (by omega)] at hv249_1
       replace hv249_1 := Option.some.inj (hv249_1.symm.trans hx249_1)
       rw [hv249_1] at ge249_1
       have HL249_1 := A_ (show Kd.R (Kd.int .i8) 86 _ _ _ _ ((rd_T151 t241 x9_1).f1) from ge249_1)
       clear hv249_1 ge249_1
       clear hcc249 hce249
       have HR249_0 := A_ hi249_0
       have HC249_0 := A_ hl249_0
       clear hi249_0 hl249_0
       have HR249_1 := A_ hi249_1
       have HC249_1 := A_ hl249_1
       clear hi249_1 hl249_1
       replace p249 := eq_true p249
       replace q249 := eq_true q249
       have ea_ := Option.some.inj (hx248_0.symm.trans hx249_0)
       injection ea_ with ea_ en_ ec_
       subst ea_
       subst ec_
       clear en_
       have ea_ := Option.some.inj (hx248_1.symm.trans hx249_1)
       injection ea_ with ea_ en_ ec_
       subst ea_
       subst ec_
       clear en_
       go_wp2
       go_loopg [10, 11] k1 (fun kq v10 v11 w' => ∃ (x10_2 : Int) (x11_2 : Int), v10 = .int .i64 x10_2 ∧ v11 = .int .i64 x11_2 ∧ Aside0 (spec_MeanOf.l1 kq a1 t241 x8_1 x9_1 x10_2 x11_2 = some (r1, r2, r3)) ∧ Aside0 (kq ≤ k1) ∧ Aside0 (Kd.S k151 151 w' w.heap.size (fun _ => True) (.slice (some ad248) t241.length co14) t241) ∧ Aside0 (w'.heap[gb238]? = some (.cells #[(.slice A0_0 l0_0.length c0_0)] 34 (0, 0))) ∧ Aside0 (w'.heap[gb239]? = some (.cells #[.int .i64 x240000_1, .int .i64 x240001_1] 71 (0, 0))) ∧ Aside0 (Kd.C (Kd.int .i8) w' A248_0 ((rd_T151 t241 x9_1).f0).length ((rd_T151 t241 x9_1).f0)) ∧ Aside0 (Kd.C (Kd.int .i8) w' A248_1 ((rd_T151 t241 x9_1).f1).length ((rd_T151 t241 x9_1).f1)) ∧ Aside0 (Kd.C (Kd.int .i8) w' A248_0 ((rd_T151 t241 x9_1).f0).length ((rd_T151 t241 x9_1).f0)) ∧ Aside0 (Kd.C (Kd.int .i8) w' A248_1 ((rd_T151 t241 x9_1).f1).length ((rd_T151 t241 x9_1).f1)) ∧ Aside0 (Below w.heap.size w w'))
       case atStart => exact ⟨(1), ((((rd_T151 t241 x9_1).f0).length : Int)), z5_16_, z5_16_, H', ⟨Nat.le_refl _⟩, ⟨z5_12_⟩, ⟨z5_7_⟩, ⟨z5_15_⟩, ⟨z5_28_⟩, ⟨z5_27_⟩, ⟨z5_26_⟩, ⟨z5_25_⟩, ⟨z5_6_⟩⟩
       case round =>
        clear H'
        try clear c1
        try clear c2
        try clear p2
        try clear q2
        try clear hx2
        try clear c4
        try clear c4b0
        try clear c4b1
        try clear c5
        try clear c8
        try clear c8b0
        try clear c9
        try clear c9b0
        try clear c10
        try clear c10b0
        try clear c10b1
        try clear c12
        try clear hcz13_0
        try clear hcz13_1
        try clear hfz13_0
        try clear hfz13_1
        try clear hx248_0
        try clear hx248_1
        try clear hx249_0
        try clear hx249_1
        try clear p2
        try clear p248
        try clear p249
        try clear q248
        try clear q249
        obtain ⟨x10_2, x11_2, rfl, rfl, HA, HK2, HO_6, BK238, BK239, HR248_0, HR248_1, HR249_0, HR249_1, HB⟩ := hrel
        cases gk with
        | zero => exact absurd HA.out (by simp [spec_MeanOf.l1])
        | succ k2 =>
         have H := HA.out
         clear HA
         simp only [spec_MeanOf.l1] at H
         by_cases c15 : x11_2 < 12
         ·
          rw [if_pos c15] at H
          have c15b0 := decide_eq_true c15
          clear c15
          have H' := A_ H
          clear H
          go_wp2
          go_roundg k2
          case measure => have := HK1.out; have := HK2.out; omega
          case rel => exact ⟨(wrap64 (x10_2 * 3)), (wrap64 (x11_2 + 1)), z5_16_, z5_16_, H', ⟨(by have := HK1.out; have := HK2.out; omega)⟩, ⟨z5_12_⟩, ⟨z5_7_⟩, ⟨z5_15_⟩, ⟨z5_28_⟩, ⟨z5_27_⟩, ⟨z5_26_⟩, ⟨z5_25_⟩, ⟨z5_6_⟩⟩
         ·
          rw [if_neg c15] at H
          have c15b0 := decide_eq_false c15
          clear c15
          by_cases c16 : 0 ≤ x9_1
          ·
           rw [if_pos c16] at H
           have c16b0 := decide_eq_true c16
           clear c16
           by_cases c17 : x9_1 < (t241.length : Int)
           ·
            rw [if_pos c17] at H
            have c17b0 := decide_eq_true c17
            clear c17
            replace H := Option.bind_eq_some_iff.mp H
            obtain ⟨t251, A180, H⟩ := H
            try dsimp only at H
            have A18 := A_ A180
            clear A180
            have H' := A_ H
            clear H
            have p250 : 0 ≤ (x9_1 : Int) := of_decide_eq_true (by assumption)
            have q250 : x9_1 < (t241.length : Int) := of_decide_eq_true (by assumption)
            obtain ⟨ad250, A250_0, c250_0, A250_1, c250_1, e250, hx250_0, hx250_1, hl250_0, hi250_0, hl250_1, hi250_1⟩ := at_T151 (Kd.S_reads' HO_6.out).2.2 x9_1 p250 q250
            obtain rfl : ad248 = ad250 := (by injection e250)
            obtain ⟨ce250, hce250, hMe250, hcc250⟩ := Kd.S_get HO_6.out z151 x9_1 p250 (by first | exact q250 | exact of_decide_eq_true (by assumption) | (have e_ := (Kd.S_reads' HO_6.out).1; omega))
            obtain ⟨ve250_0, ve250_1, rfl, ge250_0, ge250_1⟩ := k151_openM hMe250
            have hv250_0 := hcc250 0 _ rfl
            rw [Nat.add_zero] at hv250_0
            replace hv250_0 := Option.some.inj (hv250_0.symm.trans hx250_0)
            rw [hv250_0] at ge250_0
            have HL250_0 := A_ (show Kd.R (Kd.int .i8) 86 _ _ _ _ ((rd_T151 t241 x9_1).f0) from ge250_0)
            clear hv250_0 ge250_0
            have hv250_1 := hcc250 1 _ rfl
            rw [add_field _ _ 1 (by omega)] at hv250_1
            replace hv250_1 := Option.some.inj (hv250_1.symm.trans hx250_1)
            rw [hv250_1] at ge250_1
            have HL250_1 := A_ (show Kd.R (Kd.int .i8) 86 _ _ _ _ ((rd_T151 t241 x9_1).f1) from ge250_1)
            clear hv250_1 ge250_1
            clear hcc250 hce250
            have HR250_0 := A_ hi250_0
            have HC250_0 := A_ hl250_0
            clear hi250_0 hl250_0
            have HR250_1 := A_ hi250_1
            have HC250_1 := A_ hl250_1
            clear hi250_1 hl250_1
            replace p250 := eq_true p250
            replace q250 := eq_true q250
            go_wp2_with (first | ((with_reducible refine gate_callee (f := 105) rfl ?_); refine goesL_ (some 54) rfl rfl Try.func105 (by kernel_rfl) rfl #[.slice A250_1 ((rd_T151 t241 x9_1).f1).length c250_1] rfl z5_21_ ?_; (with_reducible refine (spec_l03Whole.calls k2 _ _ ((rd_T151 t241 x9_1).f1) t251 _ ?side1 ?side2 A18.out).mono ?_); (case side1 => repeat (first | exact (by repeat (first | (with_reducible exact HR250_1.out) | (with_reducible refine Kd.C_alloc ?_ _) | (with_reducible refine Kd.C_drewN ?_ _) | (with_reducible refine Kd.C_drew ?_) | exact HR250_1.out)) | (with_reducible refine Kd.C_alloc ?_ _) | (with_reducible refine Kd.C_drewN ?_ _) | (with_reducible refine Kd.C_drew ?_))); (case side2 => exact HC250_1.out); rintro e w' ⟨rfl, ⟨nd, rfl⟩⟩; refine ⟨_, rfl, ?_⟩))
            go_roundg k2
            case measure => have := HK1.out; have := HK2.out; omega
            case rel => exact ⟨(wrap64 (x8_1 + (wrap64 (x10_2 * t251)))), (wrap64 (x9_1 + 1)), (x240000_1), (x240001_1), z5_16_, z5_16_, H', ⟨(by have := HK1.out; have := HK2.out; omega)⟩, ⟨z5_12_⟩, ⟨z5_7_⟩, ⟨z5_15_⟩, ⟨z5_6_⟩⟩
           ·
            rw [if_neg c17] at H
            exact absurd H (by simp)
          ·
           rw [if_neg c16] at H
           exact absurd H (by simp)
     ·
      rw [if_neg c9] at H
      exact absurd H (by simp)
    ·
     rw [if_neg c8] at H
     have c8b0 := decide_eq_false c8
     clear c8
     obtain ⟨ji19, hji19⟩ : ∃ j_ : Int, (IntKind.u64.wrap (a1)) = j_ := ⟨_, rfl⟩
     replace H : (if 0 ≤ (ji19) then ((spec_l03Make.f k1 x8_1 (shl .i64 531441 (ji19))).bind fun bt245 => (some (bt245.1, bt245.2.1, bt245.2.2))) else (none)) = some (r1, r2, r3) := by first | (rw [hji19] at H; exact H) | (simp only [hji19] at H ⊢; exact H)
     by_cases c20 : 0 ≤ (ji19)
     ·
      rw [if_pos c20] at H
      have c20b0 := eq_true c20
      have c20b1 := decide_eq_true c20
      clear c20
      obtain ⟨ji21, hji21⟩ : ∃ j_ : Int, (shl .i64 531441 (ji19)) = j_ := ⟨_, rfl⟩
      replace H : ((spec_l03Make.f k1 x8_1 (ji21)).bind fun bt245 => (some (bt245.1, bt245.2.1, bt245.2.2))) = some (r1, r2, r3) := by first | (rw [hji21] at H; exact H) | (simp only [hji21] at H ⊢; exact H)
      have hji21_ : (IntKind.i64.wrap (531441 * 2 ^ min (ji19).toNat 64)) = ji21 := hji21
      have hji21z : (ji19) ≤ 64 → (IntKind.i64.wrap (531441 * 2 ^ (ji19).toNat)) = ji21 := shl_small hji21
      have hji21y : (wrap64 (531441 * 2 ^ min (ji19).toNat 64)) = ji21 := (i64_w _).symm.trans hji21_
      have hji21x : (ji19) ≤ 64 → (wrap64 (531441 * 2 ^ (ji19).toNat)) = ji21 := fun h_ => (i64_w _).symm.trans (hji21z h_)
      replace H := Option.bind_eq_some_iff.mp H
      obtain ⟨⟨t245, t246, t247⟩, A220, H⟩ := H
      try dsimp only at H
      have A22 := A_ A220
      clear A220
      simp only [Option.some.injEq, Prod.mk.injEq] at H
      obtain ⟨rfl, rfl, rfl⟩ := H
      obtain ⟨Ao23, co23, eo23⟩ := Kd.S_slice HO_6.out
      subst eo23
      go_wp2_with (first | ((with_reducible refine gate_callee (f := 106) rfl ?_); refine goesL_ (some 61) rfl rfl Try.func106 (by kernel_rfl) rfl #[.int .i64 x8_1, .int .i64 ji21] rfl (by (try simp only [List.map_toArray, List.map_cons, List.map_nil]); first | done | (simp only [hji21]; rfl) | rfl | (simp only [List.length_drop, List.length_take]; rfl)) ?_; (with_reducible refine (spec_l03Make.calls k1 x8_1 ji21 t245 t246 t247 _ A22.out).mono ?_); rintro e w24 ⟨rfl, hb⟩; refine ⟨_, rfl, ?_⟩; have _ := A_ (Kd.S_below z5_12_ hb); have _ := A_ (blk_below (g := gb238) (o := .cells #[.slice A0_0 l0_0.length c0_0] 34 (0, 0)) z5_7_ hb); have _ := A_ (blk_below (g := gb239) (o := .cells #[.int .i64 x240000_1, .int .i64 x240001_1] 71 (0, 0)) z5_15_ hb); have _ := A_ (below_step z5_6_ hb); clear HO_6 BK238 BK239 HB; rename_i HO_6 BK238 BK239 HB; (try clear hb); have hnb25 := NB239_238.out; have hnc25 := NB238_239.out; obtain ⟨hcz26_0, hcz26_1⟩ := bc2 BK239.out; obtain ⟨hfz26_0, hfz26_1⟩ := bf2 BK239.out))
      refine bodyPost_ret (results_ct rfl _ _ gb239 71 #[.int .i64 t245, .int .i64 t246] (0, 0) _ rfl (by (with_reducible repeat (first | refine blk_drewN ?_ _ | refine blk_drew ?_ | refine blk_alloc ?_ _)); refine blk_put (cs := #[.int .i64 t245, .int .i64 x240001_1]) ?_ 1 _ rfl; (with_reducible repeat (first | refine blk_drewN ?_ _ | refine blk_drew ?_ | refine blk_alloc ?_ _)); refine blk_put (cs := #[.int .i64 x240000_1, .int .i64 x240001_1]) ?_ 0 _ rfl; (with_reducible repeat (first | refine blk_drewN ?_ _ | refine blk_drew ?_ | refine blk_alloc ?_ _)); exact BK239.out) Try.underlying71 rfl (by kernel_rfl)) rfl ?_
      exact ⟨(by first | rfl | (simp [errW_none, errW_some] <;> rfl) | (simp only [← hji19, ← hji21]; first | rfl | (simp [errW_none, errW_some] <;> rfl)) | (simp [*, errW_none, errW_some] <;> rfl)), z5_6_⟩
     ·
      rw [if_neg c20] at H
      exact absurd H (by simp)
 ·
  rw [if_neg c4] at H
  have c4b0 : (t242 == 0) = false := beq_eq_false_iff_ne.mpr c4
  have c4b1 : (t242 != 0) = true := bne_iff_ne.mpr c4
  simp only [Option.some.injEq, Prod.mk.injEq] at H
  obtain ⟨rfl, rfl, rfl⟩ := H
  go_enter Try.func51, Try.ntmps51
  go_wp2_with (first | ((with_reducible refine gate_dst (N := 2) rfl ?_); refine box_event ?hg (N := 2) ?hd (cs := #[.slice A0_0 l0_0.length c0_0]) (t := 34) ?hr ?_; (case hd => rfl); (case hg => rfl); (case hr => first | (go_simp; done) | (go_simp; rfl)); intro gb238 hg w27 hbox hb; have _ := A_ (below_step z5_4_ hb); have _ := A_ (hbox); have _ := A_ ((by rw [hg]; exact (below_size z5_4_) : w.heap.size ≤ gb238)); have _ := A_ ((by rw [hg]; exact (below_size z5_4_) : w.heap.size ≤ gb238)); clear HB; rename_i HB BK238 GW238 GE238; clear hb hbox hg) | ((with_reducible refine gate_dst (N := 4) rfl ?_); refine box_event ?hg (N := 4) ?hd (cs := #[.int .i64 0, .int .i64 0]) (t := 71) ?hr ?_; (case hd => rfl); (case hg => rfl); (case hr => first | (go_simp; done) | (go_simp; rfl)); intro gb239 hg w28 hbox hb; have _ := A_ (blk_below (g := gb238) (o := .cells #[.slice A0_0 l0_0.length c0_0] 34 (0, 0)) z5_7_ hb); have _ := A_ (below_step z5_13_ hb); have _ := A_ (hbox); have _ := A_ ((by rw [hg]; exact (below_size z5_13_) : w.heap.size ≤ gb239)); have _ := A_ ((by rw [hg]; exact (below_size z5_13_) : w.heap.size ≤ gb239)); have _ := A_ ((by rw [hg]; exact Nat.ne_of_lt (blk_lt (g := gb238) (o := .cells #[.slice A0_0 l0_0.length c0_0] 34 (0, 0)) z5_7_) : gb238 ≠ gb239)); have _ := A_ ((by rw [hg]; exact Nat.ne_of_gt (blk_lt (g := gb238) (o := .cells #[.slice A0_0 l0_0.length c0_0] 34 (0, 0)) z5_7_) : gb239 ≠ gb238)); clear BK238 HB; rename_i BK238 HB BK239 GW239 GE239 NB238_239 NB239_238; clear hb hbox hg) | ((with_reducible refine gate_callee (f := 101) rfl ?_); refine goesL_ (some 14) rfl rfl Try.func101 (by kernel_rfl) rfl #[.pointer (some ⟨gb238, 0, none⟩), .int .i64 a1] rfl z5_21_ ?_; (with_reducible refine (spec_l06Table.calls k _ ([(⟨l0_0⟩ : S34)]).length [(⟨l0_0⟩ : S34)] a1 t241 t242 _ ?side1 ?side2 A3.out).mono ?_); (case side1 => refine Kd.C_block k34 (g := gb238) (cs := #[.slice A0_0 l0_0.length c0_0]) (T := 34) z5_7_ (show Kd.K k34 _ (⟨l0_0⟩ : S34) [.slice A0_0 l0_0.length c0_0] from k34_mk _ _ (by exact HC0_0.out) z5_29_) (by decide)); (case side2 => exact Nat.le_refl _); rintro e w29 ⟨v243, rfl, ho0, hb⟩; refine ⟨_, rfl, ?_⟩; have _ := A_ (Kd.S_lower ho0 (below_size z5_6_)); have _ := A_ (blk_below (g := gb238) (o := .cells #[.slice A0_0 l0_0.length c0_0] 34 (0, 0)) z5_7_ hb); have _ := A_ (blk_below (g := gb239) (o := .cells #[.int .i64 0, .int .i64 0] 71 (0, 0)) z5_15_ hb); have _ := A_ (below_step z5_6_ hb); clear BK238 BK239 HB; rename_i HO244 BK238 BK239 HB; (try clear hb); (try clear ho0); have hnb30 := NB239_238.out; have hnc30 := NB238_239.out; obtain ⟨hcz31_0, hcz31_1⟩ := bc2 BK239.out; obtain ⟨hfz31_0, hfz31_1⟩ := bf2 BK239.out))
  refine bodyPost_ret (results_ct rfl _ _ gb239 71 #[.int .i64 0, .int .i64 0] (0, 0) _ rfl (by (with_reducible repeat (first | refine blk_drewN ?_ _ | refine blk_drew ?_ | refine blk_alloc ?_ _)); refine blk_put (cs := #[.int .i64 0, .int .i64 0]) ?_ 1 _ rfl; (with_reducible repeat (first | refine blk_drewN ?_ _ | refine blk_drew ?_ | refine blk_alloc ?_ _)); refine blk_put (cs := #[.int .i64 0, .int .i64 0]) ?_ 0 _ rfl; (with_reducible repeat (first | refine blk_drewN ?_ _ | refine blk_drew ?_ | refine blk_alloc ?_ _)); exact BK239.out) Try.underlying71 rfl (by kernel_rfl)) rfl ?_
  exact ⟨z5_20_, z5_6_⟩
/-! ### impl_MeanOf: function 52 -/
mutual
def impl_MeanOf.l0 : Nat → Int → List (S151) → List Int → Option (Int × Int × Int)
 | 0, _, _, _ => none
 | k + 1, x1, x6, x8 => if (x8.length : Int) ≤ 12 then (if 0 ≤ (wrap64 ((x8.length : Int) - 1)) then (if (wrap64 ((x8.length : Int) - 1)) < (x8.length : Int) then (if x8.length < 17592186044416 then (impl_MeanOf.l0 k x1 x6 (x8 ++ [wrap64 (3 * (rd x8 (wrap64 ((x8.length : Int) - 1))))])) else (none)) else (none)) else (none)) else (impl_MeanOf.l1 k x1 x8 0 x6 (x6.length : Int) 0)
def impl_MeanOf.l1 : Nat → Int → List Int → Int → List (S151) → Int → Int → Option (Int × Int × Int)
 | 0, _, _, _, _, _, _ => none
 | k + 1, x1, x8, x9, x36, x37, x38 => if x38 < x37 then (if 0 ≤ x38 then (if x38 < (x36.length : Int) then (if (((rd_T151 x36 x38).f0).length : Int) > 12 then (some (0, 0, 3)) else ((impl_weigh.f k ((rd_T151 x36 x38).f1)).bind fun t302 => (if 0 ≤ (wrap64 (12 - (((rd_T151 x36 x38).f0).length : Int))) then (if (wrap64 (12 - (((rd_T151 x36 x38).f0).length : Int))) < (x8.length : Int) then (impl_MeanOf.l1 k x1 x8 (wrap64 (x9 + (wrap64 (t302 * (rd x8 (wrap64 (12 - (((rd_T151 x36 x38).f0).length : Int)))))))) x36 x37 (wrap64 (x38 + 1))) else (none)) else (none)))) else (none)) else (none)) else (if 12 < (x8.length : Int) then (if 0 ≤ x1 then ((impl_MakeRatio.f k x9 (shl .i64 (rd x8 12) x1)).bind fun bt305 => (some (bt305.1, bt305.2.1, bt305.2.2))) else (none)) else (none))
end
def impl_MeanOf.f (k : Nat) (l0_0 : List (S89)) (a1 : Int) : Option (Int × Int × Int) := (impl_TableOf.f k l0_0 a1).bind fun bt289 => (if bt289.2 = 0 then (impl_MeanOf.l0 k a1 bt289.1 (([1] : List Int))) else (some (0, 0, bt289.2)))
theorem impl_MeanOf.mono_l : ∀ k, (∀ y0 y1 y2, LeO (impl_MeanOf.l0 k y0 y1 y2) (impl_MeanOf.l0 (k + 1) y0 y1 y2)) ∧ (∀ y0 y1 y2 y3 y4 y5, LeO (impl_MeanOf.l1 k y0 y1 y2 y3 y4 y5) (impl_MeanOf.l1 (k + 1) y0 y1 y2 y3 y4 y5))
 | 0 => ⟨fun _ _ _ r h => by simp [impl_MeanOf.l0] at h, fun _ _ _ _ _ _ r h => by simp [impl_MeanOf.l1] at h⟩
 | k + 1 => by
  obtain ⟨ih0, ih1⟩ := impl_MeanOf.mono_l k
  refine ⟨?_, ?_⟩
  ·
   intro y0 y1 y2
   unfold impl_MeanOf.l0
   repeat' first
   | (with_reducible exact ih0 _ _ _)
   | (with_reducible exact ih1 _ _ _ _ _ _)
   | (with_reducible exact impl_MakeRatio.mono _ _ _)
   | (with_reducible exact impl_TableOf.mono _ _ _)
   | (with_reducible exact impl_weigh.mono _ _)
   | (with_reducible exact LeO.refl _)
   | (with_reducible exact LeO.none _)
   | (with_reducible refine LeO.ite ?_ ?_)
   | (with_reducible refine LeO.bind ?_ (fun _ => ?_))
   | exact ih0 _ _ _
   | exact ih1 _ _ _ _ _ _
   | exact LeO.none _
   | refine LeO.ite ?_ ?_
   | refine LeO.bind ?_ (fun _ => ?_)
  ·
   intro y0 y1 y2 y3 y4 y5
   unfold impl_MeanOf.l1
   repeat' first
   | (with_reducible exact ih0 _ _ _)
   | (with_reducible exact ih1 _ _ _ _ _ _)
   | (with_reducible exact impl_MakeRatio.mono _ _ _)
   | (with_reducible exact impl_TableOf.mono _ _ _)
   | (with_reducible exact impl_weigh.mono _ _)
   | (with_reducible exact LeO.refl _)
   | (with_reducible exact LeO.none _)
   | (with_reducible refine LeO.ite ?_ ?_)
   | (with_reducible refine LeO.bind ?_ (fun _ => ?_))
   | exact ih0 _ _ _
   | exact ih1 _ _ _ _ _ _
   | exact LeO.none _
   | refine LeO.ite ?_ ?_
   | refine LeO.bind ?_ (fun _ => ?_)
theorem impl_MeanOf.mono : ∀ a0 a1 k, LeO (impl_MeanOf.f k a0 a1) (impl_MeanOf.f (k + 1) a0 a1) := by
 intro a0 a1 k
 obtain ⟨ih0, ih1⟩ := impl_MeanOf.mono_l k
 unfold impl_MeanOf.f
 repeat' first
   | (with_reducible exact ih0 _ _ _)
   | (with_reducible exact ih1 _ _ _ _ _ _)
   | (with_reducible exact impl_MakeRatio.mono _ _ _)
   | (with_reducible exact impl_TableOf.mono _ _ _)
   | (with_reducible exact impl_weigh.mono _ _)
   | (with_reducible exact LeO.refl _)
   | (with_reducible exact LeO.none _)
   | (with_reducible refine LeO.ite ?_ ?_)
   | (with_reducible refine LeO.bind ?_ (fun _ => ?_))
   | exact ih0 _ _ _
   | exact ih1 _ _ _ _ _ _
   | exact LeO.none _
   | refine LeO.ite ?_ ?_
   | refine LeO.bind ?_ (fun _ => ?_)
set_option maxHeartbeats 8000000 in
set_option maxRecDepth 100000 in
theorem impl_MeanOf.calls (k : Nat) (A0_0 : Option Addr) (c0_0 : Nat) (l0_0 : List (S89)) (a1 : Int) (r1 : Int) (r2 : Int) (r3 : Int) (w : World) (hr0_0 : Kd.C k89 w A0_0 l0_0.length l0_0) (hc0_0 : l0_0.length ≤ c0_0) (h : impl_MeanOf.f k l0_0 a1 = some (r1, r2, r3)) :
  Calls Try.prog 52 #[.agg #[.slice A0_0 l0_0.length c0_0], .int .i64 a1] w fun e w' => e = .returned (.tuple #[.agg #[.int .i64 r1, .int .i64 r2], .int .i64 r3]) ∧ Below w.heap.size w w' := by
 have hu34 := Try.underlying34
 have hu71 := Try.underlying71
 have hu151 := Try.underlying151
 have HR0_0 := A_ hr0_0
 have HC0_0 := A_ hc0_0
 clear hr0_0 hc0_0
 have HB := A_ (Below.refl w.heap.size w)
 have H : ((impl_TableOf.f k l0_0 a1).bind fun bt289 => (if bt289.2 = 0 then (impl_MeanOf.l0 k a1 bt289.1 (([1] : List Int))) else (some (0, 0, bt289.2)))) = some (r1, r2, r3) := h
 clear h
 replace H := Option.bind_eq_some_iff.mp H
 obtain ⟨⟨t289, t292⟩, A30, H⟩ := H
 try dsimp only at H
 have A3 := A_ A30
 clear A30
 by_cases c4 : t292 = 0
 ·
  rw [if_pos c4] at H
  have c4b0 := beq_iff_eq.mpr c4
  have c4b1 := bne_eq_false_iff_eq.mpr c4
  clear c4
  obtain ⟨y293, hy293⟩ : ∃ y_ : List Int, y_ = (([1] : List Int)) := ⟨_, rfl⟩
  replace H : (impl_MeanOf.l0 k a1 t289 y293) = some (r1, r2, r3) := by first | (rw [hy293]; with_reducible exact H) | (have H2_ := (Option.bind_some _ _).symm.trans H; rw [hy293]; with_reducible exact H2_) | (have H2_ := (Option.bind_some _ _).symm.trans H; with_reducible exact H2_) | with_reducible exact H | (rw [hy293]; exact H) | exact H
  have Ny293 := A_ hy293
  clear hy293
  have H' := A_ H
  clear H
  go_enter Try.func52, Try.ntmps52
  go_wp2_with (first | ((with_reducible refine gate_dst (N := 2) rfl ?_); refine box_event ?hg (N := 2) ?hd (cs := #[.slice A0_0 l0_0.length c0_0]) (t := 34) ?hr ?_; (case hd => rfl); (case hg => rfl); (case hr => first | (go_simp; done) | (go_simp; rfl)); intro gb287 hg w5 hbox hb; have _ := A_ (below_step z5_4_ hb); have _ := A_ (hbox); have _ := A_ ((by rw [hg]; exact (below_size z5_4_) : w.heap.size ≤ gb287)); have _ := A_ ((by rw [hg]; exact (below_size z5_4_) : w.heap.size ≤ gb287)); clear HB; rename_i HB BK287 GW287 GE287; clear hb hbox hg) | ((with_reducible refine gate_dst (N := 4) rfl ?_); refine box_event ?hg (N := 4) ?hd (cs := #[.int .i64 0, .int .i64 0]) (t := 71) ?hr ?_; (case hd => rfl); (case hg => rfl); (case hr => first | (go_simp; done) | (go_simp; rfl)); intro gb288 hg w6 hbox hb; have _ := A_ (blk_below (g := gb287) (o := .cells #[.slice A0_0 l0_0.length c0_0] 34 (0, 0)) z5_2_ hb); have _ := A_ (below_step z5_5_ hb); have _ := A_ (hbox); have _ := A_ ((by rw [hg]; exact (below_size z5_5_) : w.heap.size ≤ gb288)); have _ := A_ ((by rw [hg]; exact (below_size z5_5_) : w.heap.size ≤ gb288)); have _ := A_ ((by rw [hg]; exact Nat.ne_of_lt (blk_lt (g := gb287) (o := .cells #[.slice A0_0 l0_0.length c0_0] 34 (0, 0)) z5_2_) : gb287 ≠ gb288)); have _ := A_ ((by rw [hg]; exact Nat.ne_of_gt (blk_lt (g := gb287) (o := .cells #[.slice A0_0 l0_0.length c0_0] 34 (0, 0)) z5_2_) : gb288 ≠ gb287)); clear BK287 HB; rename_i BK287 HB BK288 GW288 GE288 NB287_288 NB288_287; clear hb hbox hg; have hnb7 := NB287_288.out; have hnc7 := NB288_287.out; have hcz8_0 : w6.cell? ⟨gb287, 0, none⟩ = some (.slice A0_0 l0_0.length c0_0) := (blk_cell BK287.out 0).trans rfl; have hfz8_0 := blk_frozen BK287.out 0) | (go_at_call 47; (with_reducible refine (impl_TableOf.calls k _ _ l0_0 a1 t289 t292 _ ?side1 ?side2 A3.out).mono ?_); (case side1 => have hx_ := (Kd.C_below HR0_0.out HB.out); exact kc_); (case side2 => exact HC0_0.out); rintro e w9 ⟨v290, rfl, ho0, hb⟩; have _ := A_ (Kd.S_lower ho0 (below_size z5_1_)); have _ := A_ (blk_below (g := gb287) (o := .cells #[.slice A0_0 l0_0.length c0_0] 34 (0, 0)) z5_2_ hb); have _ := A_ (blk_below (g := gb288) (o := .cells #[.int .i64 0, .int .i64 0] 71 (0, 0)) z5_3_ hb); have _ := A_ (below_step z5_1_ hb); clear BK287 BK288 HB; rename_i HO291 BK287 BK288 HB; (try clear hb); (try clear ho0)) | ((with_reducible refine gate_dst (N := 22) rfl ?_); refine Kd.R_lit (Kd.int .i64) _ 2 ?hg (N := 22) ?hd (xs := ([1] : List Int)) (inner := [.int .i64 1]) (ok := fun _ => True) (okp := fun _ => True) ?hr ?hp (fun _ hk => hk) trivial (Below.refl _ _) (Nat.le_refl _) (by simp) ?_; (case hd => rfl); (case hg => rfl); (case hr => first | (go_simp; done) | (go_simp; rfl)); (case hp => exact (Reps.one (show Kd.M (Kd.int .i64) _ _ _ 1 [.int .i64 1] from rfl) (Reps.none _ _))); intro v294 w10 ho11 hb hg_ hnew_; clear hg_ hnew_; (first | rw [← Ny293.out] at ho11 | (simp only [Int.reduceToNat] at ho11; rw [← Ny293.out] at ho11)); have _ := A_ (Kd.S_below z5_19_ hb); have _ := A_ (Kd.R_lower ho11 (below_size z5_1_)); have _ := A_ (blk_below (g := gb287) (o := .cells #[.slice A0_0 l0_0.length c0_0] 34 (0, 0)) z5_2_ hb); have _ := A_ (blk_below (g := gb288) (o := .cells #[.int .i64 0, .int .i64 0] 71 (0, 0)) z5_3_ hb); have _ := A_ (below_step z5_1_ hb); clear HO291 BK287 BK288 HB; rename_i HO291 HO295 BK287 BK288 HB; clear hb ho11))
  repeat (go_quiet (first | ((with_reducible refine gate_dst (N := 2) rfl ?_); refine box_event ?hg (N := 2) ?hd (cs := #[.slice A0_0 l0_0.length c0_0]) (t := 34) ?hr ?_; (case hd => rfl); (case hg => rfl); (case hr => first | (go_simp; done) | (go_simp; rfl)); intro gb287 hg w5 hbox hb; have _ := A_ (below_step z5_4_ hb); have _ := A_ (hbox); have _ := A_ ((by rw [hg]; exact (below_size z5_4_) : w.heap.size ≤ gb287)); have _ := A_ ((by rw [hg]; exact (below_size z5_4_) : w.heap.size ≤ gb287)); clear HB; rename_i HB BK287 GW287 GE287; clear hb hbox hg) | ((with_reducible refine gate_dst (N := 4) rfl ?_); refine box_event ?hg (N := 4) ?hd (cs := #[.int .i64 0, .int .i64 0]) (t := 71) ?hr ?_; (case hd => rfl); (case hg => rfl); (case hr => first | (go_simp; done) | (go_simp; rfl)); intro gb288 hg w6 hbox hb; have _ := A_ (blk_below (g := gb287) (o := .cells #[.slice A0_0 l0_0.length c0_0] 34 (0, 0)) z5_2_ hb); have _ := A_ (below_step z5_5_ hb); have _ := A_ (hbox); have _ := A_ ((by rw [hg]; exact (below_size z5_5_) : w.heap.size ≤ gb288)); have _ := A_ ((by rw [hg]; exact (below_size z5_5_) : w.heap.size ≤ gb288)); have _ := A_ ((by rw [hg]; exact Nat.ne_of_lt (blk_lt (g := gb287) (o := .cells #[.slice A0_0 l0_0.length c0_0] 34 (0, 0)) z5_2_) : gb287 ≠ gb288)); have _ := A_ ((by rw [hg]; exact Nat.ne_of_gt (blk_lt (g := gb287) (o := .cells #[.slice A0_0 l0_0.length c0_0] 34 (0, 0)) z5_2_) : gb288 ≠ gb287)); clear BK287 HB; rename_i BK287 HB BK288 GW288 GE288 NB287_288 NB288_287; clear hb hbox hg; have hnb7 := NB287_288.out; have hnc7 := NB288_287.out; have hcz8_0 : w6.cell? ⟨gb287, 0, none⟩ = some (.slice A0_0 l0_0.length c0_0) := (blk_cell BK287.out 0).trans rfl; have hfz8_0 := blk_frozen BK287.out 0) | (go_at_call 47; (with_reducible refine (impl_TableOf.calls k _ _ l0_0 a1 t289 t292 _ ?side1 ?side2 A3.out).mono ?_); (case side1 => have hx_ := (Kd.C_below HR0_0.out HB.out); exact kc_); (case side2 => exact HC0_0.out); rintro e w9 ⟨v290, rfl, ho0, hb⟩; have _ := A_ (Kd.S_lower ho0 (below_size z5_1_)); have _ := A_ (blk_below (g := gb287) (o := .cells #[.slice A0_0 l0_0.length c0_0] 34 (0, 0)) z5_2_ hb); have _ := A_ (blk_below (g := gb288) (o := .cells #[.int .i64 0, .int .i64 0] 71 (0, 0)) z5_3_ hb); have _ := A_ (below_step z5_1_ hb); clear BK287 BK288 HB; rename_i HO291 BK287 BK288 HB; (try clear hb); (try clear ho0)) | ((with_reducible refine gate_dst (N := 22) rfl ?_); refine Kd.R_lit (Kd.int .i64) _ 2 ?hg (N := 22) ?hd (xs := ([1] : List Int)) (inner := [.int .i64 1]) (ok := fun _ => True) (okp := fun _ => True) ?hr ?hp (fun _ hk => hk) trivial (Below.refl _ _) (Nat.le_refl _) (by simp) ?_; (case hd => rfl); (case hg => rfl); (case hr => first | (go_simp; done) | (go_simp; rfl)); (case hp => exact (Reps.one (show Kd.M (Kd.int .i64) _ _ _ 1 [.int .i64 1] from rfl) (Reps.none _ _))); intro v294 w10 ho11 hb hg_ hnew_; clear hg_ hnew_; (first | rw [← Ny293.out] at ho11 | (simp only [Int.reduceToNat] at ho11; rw [← Ny293.out] at ho11)); have _ := A_ (Kd.S_below z5_19_ hb); have _ := A_ (Kd.R_lower ho11 (below_size z5_1_)); have _ := A_ (blk_below (g := gb287) (o := .cells #[.slice A0_0 l0_0.length c0_0] 34 (0, 0)) z5_2_ hb); have _ := A_ (blk_below (g := gb288) (o := .cells #[.int .i64 0, .int .i64 0] 71 (0, 0)) z5_3_ hb); have _ := A_ (below_step z5_1_ hb); clear HO291 BK287 BK288 HB; rename_i HO291 HO295 BK287 BK288 HB; clear hb ho11)); try go_wp2_with (first | ((with_reducible refine gate_dst (N := 2) rfl ?_); refine box_event ?hg (N := 2) ?hd (cs := #[.slice A0_0 l0_0.length c0_0]) (t := 34) ?hr ?_; (case hd => rfl); (case hg => rfl); (case hr => first | (go_simp; done) | (go_simp; rfl)); intro gb287 hg w5 hbox hb; have _ := A_ (below_step z5_4_ hb); have _ := A_ (hbox); have _ := A_ ((by rw [hg]; exact (below_size z5_4_) : w.heap.size ≤ gb287)); have _ := A_ ((by rw [hg]; exact (below_size z5_4_) : w.heap.size ≤ gb287)); clear HB; rename_i HB BK287 GW287 GE287; clear hb hbox hg) | ((with_reducible refine gate_dst (N := 4) rfl ?_); refine box_event ?hg (N := 4) ?hd (cs := #[.int .i64 0, .int .i64 0]) (t := 71) ?hr ?_; (case hd => rfl); (case hg => rfl); (case hr => first | (go_simp; done) | (go_simp; rfl)); intro gb288 hg w6 hbox hb; have _ := A_ (blk_below (g := gb287) (o := .cells #[.slice A0_0 l0_0.length c0_0] 34 (0, 0)) z5_2_ hb); have _ := A_ (below_step z5_5_ hb); have _ := A_ (hbox); have _ := A_ ((by rw [hg]; exact (below_size z5_5_) : w.heap.size ≤ gb288)); have _ := A_ ((by rw [hg]; exact (below_size z5_5_) : w.heap.size ≤ gb288)); have _ := A_ ((by rw [hg]; exact Nat.ne_of_lt (blk_lt (g := gb287) (o := .cells #[.slice A0_0 l0_0.length c0_0] 34 (0, 0)) z5_2_) : gb287 ≠ gb288)); have _ := A_ ((by rw [hg]; exact Nat.ne_of_gt (blk_lt (g := gb287) (o := .cells #[.slice A0_0 l0_0.length c0_0] 34 (0, 0)) z5_2_) : gb288 ≠ gb287)); clear BK287 HB; rename_i BK287 HB BK288 GW288 GE288 NB287_288 NB288_287; clear hb hbox hg; have hnb7 := NB287_288.out; have hnc7 := NB288_287.out; have hcz8_0 : w6.cell? ⟨gb287, 0, none⟩ = some (.slice A0_0 l0_0.length c0_0) := (blk_cell BK287.out 0).trans rfl; have hfz8_0 := blk_frozen BK287.out 0) | (go_at_call 47; (with_reducible refine (impl_TableOf.calls k _ _ l0_0 a1 t289 t292 _ ?side1 ?side2 A3.out).mono ?_); (case side1 => have hx_ := (Kd.C_below HR0_0.out HB.out); exact kc_); (case side2 => exact HC0_0.out); rintro e w9 ⟨v290, rfl, ho0, hb⟩; have _ := A_ (Kd.S_lower ho0 (below_size z5_1_)); have _ := A_ (blk_below (g := gb287) (o := .cells #[.slice A0_0 l0_0.length c0_0] 34 (0, 0)) z5_2_ hb); have _ := A_ (blk_below (g := gb288) (o := .cells #[.int .i64 0, .int .i64 0] 71 (0, 0)) z5_3_ hb); have _ := A_ (below_step z5_1_ hb); clear BK287 BK288 HB; rename_i HO291 BK287 BK288 HB; (try clear hb); (try clear ho0)) | ((with_reducible refine gate_dst (N := 22) rfl ?_); refine Kd.R_lit (Kd.int .i64) _ 2 ?hg (N := 22) ?hd (xs := ([1] : List Int)) (inner := [.int .i64 1]) (ok := fun _ => True) (okp := fun _ => True) ?hr ?hp (fun _ hk => hk) trivial (Below.refl _ _) (Nat.le_refl _) (by simp) ?_; (case hd => rfl); (case hg => rfl); (case hr => first | (go_simp; done) | (go_simp; rfl)); (case hp => exact (Reps.one (show Kd.M (Kd.int .i64) _ _ _ 1 [.int .i64 1] from rfl) (Reps.none _ _))); intro v294 w10 ho11 hb hg_ hnew_; clear hg_ hnew_; (first | rw [← Ny293.out] at ho11 | (simp only [Int.reduceToNat] at ho11; rw [← Ny293.out] at ho11)); have _ := A_ (Kd.S_below z5_19_ hb); have _ := A_ (Kd.R_lower ho11 (below_size z5_1_)); have _ := A_ (blk_below (g := gb287) (o := .cells #[.slice A0_0 l0_0.length c0_0] 34 (0, 0)) z5_2_ hb); have _ := A_ (blk_below (g := gb288) (o := .cells #[.int .i64 0, .int .i64 0] 71 (0, 0)) z5_3_ hb); have _ := A_ (below_step z5_1_ hb); clear HO291 BK287 BK288 HB; rename_i HO291 HO295 BK287 BK288 HB; clear hb ho11)))
  go_loopg [8] k (fun kq v8 w' => ∃ (x8_1 : List Int), Aside0 (impl_MeanOf.l0 kq a1 t289 x8_1 = some (r1, r2, r3)) ∧ Aside0 (kq ≤ k) ∧ Aside0 (Kd.S k151 151 w' w.heap.size (fun _ => True) v290 t289) ∧ Aside0 (Kd.R (Kd.int .i64) 2 w' w.heap.size (fun _ => True) v8 x8_1) ∧ Aside0 (w'.heap[gb287]? = some (.cells #[(.slice A0_0 l0_0.length c0_0)] 34 (0, 0))) ∧ Aside0 (w'.heap[gb288]? = some (.cells #[.int .i64 0, .int .i64 0] 71 (0, 0))) ∧ Aside0 (Below w.heap.size w w'))
  case atStart => exact ⟨(y293), H', ⟨Nat.le_refl _⟩, ⟨z5_19_⟩, ⟨(by (with_reducible repeat (first | apply Kd.R_alloc | apply Kd.R_drewN | apply Kd.R_drew)); exact HO295.out)⟩, ⟨z5_2_⟩, ⟨z5_3_⟩, ⟨z5_1_⟩⟩
  case round =>
   clear H'
   try clear p2
   try clear c4
   try clear c4b0
   try clear c4b1
   try clear c5
   try clear c7
   try clear hcz8_0
   try clear hfz8_0
   obtain ⟨x8_1, HA, HK1, HO_6, HO_8, BK287, BK288, HB⟩ := hrel
   cases gk with
   | zero => exact absurd HA.out (by simp [impl_MeanOf.l0])
   | succ k1 =>
    have H := HA.out
    clear HA
    simp only [impl_MeanOf.l0] at H
    by_cases c12 : (x8_1.length : Int) ≤ 12
    ·
     rw [if_pos c12] at H
     have c12b0 := decide_eq_true c12
     have c12b1 : decide (x8_1.length ≤ 12) = true := decide_eq_true (by omega)
     clear c12
     obtain ⟨ji13, hji13⟩ : ∃ j_ : Int, (wrap64 ((x8_1.length : Int) - 1)) = j_ := ⟨_, rfl⟩
     replace H : (if 0 ≤ (ji13) then (if (ji13) < (x8_1.length : Int) then (if x8_1.length < 17592186044416 then (impl_MeanOf.l0 k1 a1 t289 (x8_1 ++ [wrap64 (3 * (rd x8_1 (ji13)))])) else (none)) else (none)) else (none)) = some (r1, r2, r3) := by first | (rw [hji13] at H; exact H) | (simp only [hji13] at H ⊢; exact H)
     have hji13w : (IntKind.i64.wrap ((x8_1.length : Int) - 1)) = ji13 := (i64_w _).trans hji13
     by_cases c14 : 0 ≤ (ji13)
     ·
      rw [if_pos c14] at H
      have c14b0 := decide_eq_true c14
      clear c14
      by_cases c15 : (ji13) < (x8_1.length : Int)
      ·
       rw [if_pos c15] at H
       have c15b0 := decide_eq_true c15
       clear c15
       by_cases c16 : x8_1.length < 17592186044416
       ·
        rw [if_pos c16] at H
        have LMc16 := A_ c16
        clear c16
        obtain ⟨y297, hy297⟩ : ∃ y_ : List Int, y_ = (x8_1 ++ [wrap64 (3 * (rd x8_1 (ji13)))]) := ⟨_, rfl⟩
        replace H : (impl_MeanOf.l0 k1 a1 t289 y297) = some (r1, r2, r3) := by first | (rw [hy297]; with_reducible exact H) | (have H2_ := (Option.bind_some _ _).symm.trans H; rw [hy297]; with_reducible exact H2_) | (have H2_ := (Option.bind_some _ _).symm.trans H; with_reducible exact H2_) | with_reducible exact H | (rw [hy297]; exact H) | exact H
        have Ny297 := A_ hy297
        clear hy297
        have H' := A_ H
        clear H
        obtain ⟨Ao17, co17, eo17⟩ := Kd.R_slice HO_8.out
        subst eo17
        have p296 : 0 ≤ ((ji13) : Int) := of_decide_eq_true (by assumption)
        have q296 : (ji13) < (x8_1.length : Int) := of_decide_eq_true (by assumption)
        obtain ⟨ad296, e296, hx296_0⟩ := Kd.at_int (Kd.R_reads' HO_8.out).2.2 (ji13) p296 q296
        cases e296
        replace p296 := eq_true p296
        replace q296 := eq_true q296
        go_wp2_with (first | ((with_reducible refine gate_builtin (b := .append) (xs := #[.tmp 26, .tmp 34]) rfl ?_); at_builtin; refine Kd.R_append (Kd.int .i64) (w0 := w) w.heap.size rfl (.tmp 26) (.tmp 34) 155 2 (.int .i64 0) 8 rfl Try.underlying155 info2 rfl (by decide) (by omega) (.slice (some ad296) x8_1.length co17) x8_1 (wrap64 (3 * (rd x8_1 (ji13)))) [.int .i64 (wrap64 (3 * (rd x8_1 (ji13))))] (fun _ => True) (fun _ => False) rfl rfl ?aP (fun _ hk => hk.elim) ?aF ?aO ?aB ?aS ?aL ?_; (case aP => exact rfl); (case aB => exact z5_1_); (case aF => exact (fun _ _ => trivial)); (case aO => exact z5_8_); (case aS => exact (below_size z5_1_)); (case aL => have := LMc16.out; omega); intro v298 w18 ho hb hg hat; rw [← Ny297.out] at ho; have _ := A_ (Kd.S_over' z5_12_ (Kd.R_typed z5_8_) (by decide) hg); have _ := A_ (blk_grown (g := gb287) (o := .cells #[.slice A0_0 l0_0.length c0_0] 34 (0, 0)) z5_2_ hg (Kd.R_ne HO_8.out BK287.out (by decide))); have _ := A_ (blk_grown (g := gb288) (o := .cells #[.int .i64 0, .int .i64 0] 71 (0, 0)) z5_3_ hg (Kd.R_ne HO_8.out BK288.out (by decide))); have _ := A_ (hb); have _ := A_ (ho); clear HO_6 BK287 BK288 HB HO_8; rename_i HO_6 BK287 BK288 HB HO299; clear ho hb hg hat))
        repeat (go_quiet (first | ((with_reducible refine gate_builtin (b := .append) (xs := #[.tmp 26, .tmp 34]) rfl ?_); at_builtin; refine Kd.R_append (Kd.int .i64) (w0 := w) w.heap.size rfl (.tmp 26) (.tmp 34) 155 2 (.int .i64 0) 8 rfl Try.underlying155 info2 rfl (by decide) (by omega) (.slice (some ad296) x8_1.length co17) x8_1 (wrap64 (3 * (rd x8_1 (ji13)))) [.int .i64 (wrap64 (3 * (rd x8_1 (ji13))))] (fun _ => True) (fun _ => False) rfl rfl ?aP (fun _ hk => hk.elim) ?aF ?aO ?aB ?aS ?aL ?_; (case aP => exact rfl); (case aB => exact z5_1_); (case aF => exact (fun _ _ => trivial)); (case aO => exact z5_8_); (case aS => exact (below_size z5_1_)); (case aL => have := LMc16.out; omega); intro v298 w18 ho hb hg hat; rw [← Ny297.out] at ho; have _ := A_ (Kd.S_over' z5_12_ (Kd.R_typed z5_8_) (by decide) hg); have _ := A_ (blk_grown (g := gb287) (o := .cells #[.slice A0_0 l0_0.length c0_0] 34 (0, 0)) z5_2_ hg (Kd.R_ne HO_8.out BK287.out (by decide))); have _ := A_ (blk_grown (g := gb288) (o := .cells #[.int .i64 0, .int .i64 0] 71 (0, 0)) z5_3_ hg (Kd.R_ne HO_8.out BK288.out (by decide))); have _ := A_ (hb); have _ := A_ (ho); clear HO_6 BK287 BK288 HB HO_8; rename_i HO_6 BK287 BK288 HB HO299; clear ho hb hg hat)); try go_wp2_with (first | ((with_reducible refine gate_builtin (b := .append) (xs := #[.tmp 26, .tmp 34]) rfl ?_); at_builtin; refine Kd.R_append (Kd.int .i64) (w0 := w) w.heap.size rfl (.tmp 26) (.tmp 34) 155 2 (.int .i64 0) 8 rfl Try.underlying155 info2 rfl (by decide) (by omega) (.slice (some ad296) x8_1.length co17) x8_1 (wrap64 (3 * (rd x8_1 (ji13)))) [.int .i64 (wrap64 (3 * (rd x8_1 (ji13))))] (fun _ => True) (fun _ => False) rfl rfl ?aP (fun _ hk => hk.elim) ?aF ?aO ?aB ?aS ?aL ?_; (case aP => exact rfl); (case aB => exact z5_1_); (case aF => exact (fun _ _ => trivial)); (case aO => exact z5_8_); (case aS => exact (below_size z5_1_)); (case aL => have := LMc16.out; omega); intro v298 w18 ho hb hg hat; rw [← Ny297.out] at ho; have _ := A_ (Kd.S_over' z5_12_ (Kd.R_typed z5_8_) (by decide) hg); have _ := A_ (blk_grown (g := gb287) (o := .cells #[.slice A0_0 l0_0.length c0_0] 34 (0, 0)) z5_2_ hg (Kd.R_ne HO_8.out BK287.out (by decide))); have _ := A_ (blk_grown (g := gb288) (o := .cells #[.int .i64 0, .int .i64 0] 71 (0, 0)) z5_3_ hg (Kd.R_ne HO_8.out BK288.out (by decide))); have _ := A_ (hb); have _ := A_ (ho); clear HO_6 BK287 BK288 HB HO_8; rename_i HO_6 BK287 BK288 HB HO299; clear ho hb hg hat)))
        go_roundg k1
        case measure => have := HK1.out; omega
        case rel => exact ⟨(y297), H', ⟨(by have := HK1.out; omega)⟩, ⟨z5_12_⟩, ⟨(by (with_reducible repeat (first | apply Kd.R_alloc | apply Kd.R_drewN | apply Kd.R_drew)); exact HO299.out)⟩, ⟨z5_2_⟩, ⟨z5_3_⟩, ⟨z5_1_⟩⟩
       ·
        rw [if_neg c16] at H
        exact absurd H (by simp)
      ·
       rw [if_neg c15] at H
       exact absurd H (by simp)
     ·
      rw [if_neg c14] at H
      exact absurd H (by simp)
    ·
     rw [if_neg c12] at H
     have c12b0 := decide_eq_false c12
     have c12b1 : decide (x8_1.length ≤ 12) = false := decide_eq_false (by omega)
     clear c12
     have H' := A_ H
     clear H
     obtain ⟨Ao19, co19, eo19⟩ := Kd.R_slice HO_8.out
     subst eo19
     obtain ⟨Ao20, co20, eo20⟩ := Kd.S_slice HO_6.out
     subst eo20
     go_wp2
     repeat (go_quiet (fail); try go_wp2)
     go_loopg [9, 38] k1 (fun kq v9 v38 w' => ∃ (x9_2 : Int) (x38_2 : Int) (x289000_2 : Int) (x289001_2 : Int), v9 = .int .i64 x9_2 ∧ v38 = .int .i64 x38_2 ∧ Aside0 (impl_MeanOf.l1 kq a1 x8_1 x9_2 t289 (t289.length : Int) x38_2 = some (r1, r2, r3)) ∧ Aside0 (kq ≤ k1) ∧ Aside0 (Kd.R (Kd.int .i64) 2 w' w.heap.size (fun _ => True) (.slice Ao19 x8_1.length co19) x8_1) ∧ Aside0 (Kd.S k151 151 w' w.heap.size (fun _ => True) (.slice Ao20 t289.length co20) t289) ∧ Aside0 (w'.heap[gb287]? = some (.cells #[(.slice A0_0 l0_0.length c0_0)] 34 (0, 0))) ∧ Aside0 (w'.heap[gb288]? = some (.cells #[.int .i64 x289000_2, .int .i64 x289001_2] 71 (0, 0))) ∧ Aside0 (Below w.heap.size w w'))
     case atStart => exact ⟨(0), (0), (0), (0), z5_16_, z5_16_, H', ⟨Nat.le_refl _⟩, ⟨z5_8_⟩, ⟨z5_12_⟩, ⟨z5_2_⟩, ⟨z5_3_⟩, ⟨z5_1_⟩⟩
     case round =>
      clear H'
      try clear c1
      try clear p2
      try clear q2
      try clear hx2
      try clear c4
      try clear c4b0
      try clear c4b1
      try clear c5
      try clear p6
      try clear c7
      try clear c12
      try clear c12b0
      try clear c12b1
      try clear c14
      try clear c14b0
      try clear c15
      try clear c15b0
      try clear c16
      try clear hcz8_0
      try clear hfz8_0
      try clear hx296_0
      try clear p2
      try clear p296
      try clear q296
      obtain ⟨x9_2, x38_2, x289000_2, x289001_2, rfl, rfl, HA, HK2, HO_8, HO_36, BK287, BK288, HB⟩ := hrel
      cases gk with
      | zero => exact absurd HA.out (by simp [impl_MeanOf.l1])
      | succ k2 =>
       have H := HA.out
       clear HA
       simp only [impl_MeanOf.l1] at H
       by_cases c21 : x38_2 < (t289.length : Int)
       ·
        rw [if_pos c21] at H
        have c21b0 := decide_eq_true c21
        clear c21
        by_cases c22 : 0 ≤ x38_2
        ·
         rw [if_pos c22] at H
         have c22b0 := decide_eq_true c22
         clear c22
         by_cases c23 : x38_2 < (t289.length : Int)
         ·
          rw [if_pos c23] at H
          have c23b0 := decide_eq_true c23
          clear c23
          by_cases c24 : (((rd_T151 t289 x38_2).f0).length : Int) > 12
          ·
           rw [if_pos c24] at H
           have c24b0 := decide_eq_true c24
           have c24b1 : decide (12 < ((rd_T151 t289 x38_2).f0).length) = true := decide_eq_true (by omega)
           clear c24
           simp only [Option.some.injEq, Prod.mk.injEq] at H
           obtain ⟨rfl, rfl, rfl⟩ := H
           have p300 : 0 ≤ (x38_2 : Int) := of_decide_eq_true (by assumption)
           have q300 : x38_2 < (t289.length : Int) := of_decide_eq_true (by assumption)
           obtain ⟨ad300, A300_0, c300_0, A300_1, c300_1, e300, hx300_0, hx300_1, hl300_0, hi300_0, hl300_1, hi300_1⟩ := at_T151 (Kd.S_reads' HO_36.out).2.2 x38_2 p300 q300
           cases e300
           obtain ⟨ce300, hce300, hMe300, hcc300⟩ := Kd.S_get HO_36.out z151 x38_2 p300 z5_30_
           obtain ⟨ve300_0, ve300_1, rfl, ge300_0, ge300_1⟩ := k151_openM hMe300
           have hv300_0 := hcc300 0 _ rfl
           rw [Nat.add_zero] at hv300_0
           replace hv300_0 := Option.some.inj (hv300_0.symm.trans hx300_0)
           rw [hv300_0] at ge300_0
           have HL300_0 := A_ (show Kd.R (Kd.int .i8) 86 _ _ _ _ ((rd_T151 t289 x38_2).f0) from ge300_0)
           clear hv300_0 ge300_0
           have hv300_1 := hcc300 1 _ rfl
           rw [add_field _ _ 1 (by omega)] at hv300_1
           replace hv300_1 := Option.some.inj (hv300_1.symm.trans hx300_1)
           rw [hv300_1] at ge300_1
           have HL300_1 := A_ (show Kd.R (Kd.int .i8) 86 _ _ _ _ ((rd_T151 t289 x38_2).f1) from ge300_1)
           clear hv300_1 ge300_1
           clear hcc300 hce300
           have HR300_0 := A_ hi300_0
           have HC300_0 := A_ hl300_0
           clear hi300_0 hl300_0
           have HR300_1 := A_ hi300_1
           have HC300_1 := A_ hl300_1
           clear hi300_1 hl300_1
           replace p300 := eq_true p300
           replace q300 := eq_true q300
           go_wp2_with (first | ((with_reducible refine gate_dst (N := 11) rfl ?_); refine box_event ?hg (N := 11) ?hd (cs := #[.slice none 0 0, .slice none 0 0]) (t := 151) ?hr ?_; (case hd => rfl); (case hg => rfl); (case hr => first | (go_simp; done) | (go_simp; rfl)); intro gb301 hg w25 hbox hb; have _ := A_ (Kd.R_below z5_8_ hb); have _ := A_ (Kd.S_below (Kd.S_elderB z5_11_ gb301 (Nat.le_of_eq hg.symm)) hb); have _ := A_ (Kd.R_below z5_18_ hb); have _ := A_ (Kd.R_below z5_17_ hb); have _ := A_ (blk_below (g := gb287) (o := .cells #[.slice A0_0 l0_0.length c0_0] 34 (0, 0)) z5_2_ hb); have _ := A_ (blk_below (g := gb288) (o := .cells #[.int .i64 x289000_2, .int .i64 x289001_2] 71 (0, 0)) z5_3_ hb); have _ := A_ (Kd.C_below z5_10_ hb); have _ := A_ (Kd.C_below z5_9_ hb); have _ := A_ (below_step z5_1_ hb); have _ := A_ (hbox); have _ := A_ ((by rw [hg]; exact (below_size z5_1_) : w.heap.size ≤ gb301)); have _ := A_ ((by rw [hg]; exact (below_size z5_1_) : w.heap.size ≤ gb301)); have _ := A_ ((by rw [hg]; exact Nat.ne_of_lt (blk_lt (g := gb287) (o := .cells #[.slice A0_0 l0_0.length c0_0] 34 (0, 0)) z5_2_) : gb287 ≠ gb301)); have _ := A_ ((by rw [hg]; exact Nat.ne_of_gt (blk_lt (g := gb287) (o := .cells #[.slice A0_0 l0_0.length c0_0] 34 (0, 0)) z5_2_) : gb301 ≠ gb287)); have _ := A_ ((by rw [hg]; exact Nat.ne_of_lt (blk_lt (g := gb288) (o := .cells #[.int .i64 x289000_2, .int .i64 x289001_2] 71 (0, 0)) z5_3_) : gb288 ≠ gb301)); have _ := A_ ((by rw [hg]; exact Nat.ne_of_gt (blk_lt (g := gb288) (o := .cells #[.int .i64 x289000_2, .int .i64 x289001_2] 71 (0, 0)) z5_3_) : gb301 ≠ gb288)); clear HO_8 HO_36 HL300_0 HL300_1 BK287 BK288 HR300_0 HR300_1 HB; rename_i HO_8 HO_36 HL300_0 HL300_1 BK287 BK288 HR300_0 HR300_1 HB BK301 GW301 GE301 NB287_301 NB301_287 NB288_301 NB301_288; clear hb hbox hg; have hnb26 := NB301_287.out; have hnc26 := NB287_301.out; have hnb27 := NB301_288.out; have hnc27 := NB288_301.out; obtain ⟨hcz28_0, hcz28_1⟩ := bc2 BK301.out; obtain ⟨hfz28_0, hfz28_1⟩ := bf2 BK301.out; have hnb29 := NB288_287.out; have hnc29 := NB287_288.out; obtain ⟨hcz30_0, hcz30_1⟩ := bc2 BK288.out; obtain ⟨hfz30_0, hfz30_1⟩ := bf2 BK288.out))
           repeat (go_quiet (first | ((with_reducible refine gate_dst (N := 11) rfl ?_); refine box_event ?hg (N := 11) ?hd (cs := #[.slice none 0 0, .slice none 0 0]) (t := 151) ?hr ?_; (case hd => rfl); (case hg => rfl); (case hr => first | (go_simp; done) | (go_simp; rfl)); intro gb301 hg w25 hbox hb; have _ := A_ (Kd.R_below z5_8_ hb); have _ := A_ (Kd.S_below (Kd.S_elderB z5_11_ gb301 (Nat.le_of_eq hg.symm)) hb); have _ := A_ (Kd.R_below z5_18_ hb); have _ := A_ (Kd.R_below z5_17_ hb); have _ := A_ (blk_below (g := gb287) (o := .cells #[.slice A0_0 l0_0.length c0_0] 34 (0, 0)) z5_2_ hb); have _ := A_ (blk_below (g := gb288) (o := .cells #[.int .i64 x289000_2, .int .i64 x289001_2] 71 (0, 0)) z5_3_ hb); have _ := A_ (Kd.C_below z5_10_ hb); have _ := A_ (Kd.C_below z5_9_ hb); have _ := A_ (below_step z5_1_ hb); have _ := A_ (hbox); have _ := A_ ((by rw [hg]; exact (below_size z5_1_) : w.heap.size ≤ gb301)); have _ := A_ ((by rw [hg]; exact (below_size z5_1_) : w.heap.size ≤ gb301)); have _ := A_ ((by rw [hg]; exact Nat.ne_of_lt (blk_lt (g := gb287) (o := .cells #[.slice A0_0 l0_0.length c0_0] 34 (0, 0)) z5_2_) : gb287 ≠ gb301)); have _ := A_ ((by rw [hg]; exact Nat.ne_of_gt (blk_lt (g := gb287) (o := .cells #[.slice A0_0 l0_0.length c0_0] 34 (0, 0)) z5_2_) : gb301 ≠ gb287)); have _ := A_ ((by rw [hg]; exact Nat.ne_of_lt (blk_lt (g := gb288) (o := .cells #[.int .i64 x289000_2, .int .i64 x289001_2] 71 (0, 0)) z5_3_) : gb288 ≠ gb301)); have _ := A_ ((by rw [hg]; exact Nat.ne_of_gt (blk_lt (g := gb288) (o := .cells #[.int .i64 x289000_2, .int .i64 x289001_2] 71 (0, 0)) z5_3_) : gb301 ≠ gb288)); clear HO_8 HO_36 HL300_0 HL300_1 BK287 BK288 HR300_0 HR300_1 HB; rename_i HO_8 HO_36 HL300_0 HL300_1 BK287 BK288 HR300_0 HR300_1 HB BK301 GW301 GE301 NB287_301 NB301_287 NB288_301 NB301_288; clear hb hbox hg; have hnb26 := NB301_287.out; have hnc26 := NB287_301.out; have hnb27 := NB301_288.out; have hnc27 := NB288_301.out; obtain ⟨hcz28_0, hcz28_1⟩ := bc2 BK301.out; obtain ⟨hfz28_0, hfz28_1⟩ := bf2 BK301.out; have hnb29 := NB288_287.out; have hnc29 := NB287_288.out; obtain ⟨hcz30_0, hcz30_1⟩ := bc2 BK288.out; obtain ⟨hfz30_0, hfz30_1⟩ := bf2 BK288.out)); try go_wp2_with (first | ((with_reducible refine gate_dst (N := 11) rfl ?_); refine box_event ?hg (N := 11) ?hd (cs := #[.slice none 0 0, .slice none 0 0]) (t := 151) ?hr ?_; (case hd => rfl); (case hg => rfl); (case hr => first | (go_simp; done) | (go_simp; rfl)); intro gb301 hg w25 hbox hb; have _ := A_ (Kd.R_below z5_8_ hb); have _ := A_ (Kd.S_below (Kd.S_elderB z5_11_ gb301 (Nat.le_of_eq hg.symm)) hb); have _ := A_ (Kd.R_below z5_18_ hb); have _ := A_ (Kd.R_below z5_17_ hb); have _ := A_ (blk_below (g := gb287) (o := .cells #[.slice A0_0 l0_0.length c0_0] 34 (0, 0)) z5_2_ hb); have _ := A_ (blk_below (g := gb288) (o := .cells #[.int .i64 x289000_2, .int .i64 x289001_2] 71 (0, 0)) z5_3_ hb); have _ := A_ (Kd.C_below z5_10_ hb); have _ := A_ (Kd.C_below z5_9_ hb); have _ := A_ (below_step z5_1_ hb); have _ := A_ (hbox); have _ := A_ ((by rw [hg]; exact (below_size z5_1_) : w.heap.size ≤ gb301)); have _ := A_ ((by rw [hg]; exact (below_size z5_1_) : w.heap.size ≤ gb301)); have _ := A_ ((by rw [hg]; exact Nat.ne_of_lt (blk_lt (g := gb287) (o := .cells #[.slice A0_0 l0_0.length c0_0] 34 (0, 0)) z5_2_) : gb287 ≠ gb301)); have _ := A_ ((by rw [hg]; exact Nat.ne_of_gt (blk_lt (g := gb287) (o := .cells #[.slice A0_0 l0_0.length c0_0] 34 (0, 0)) z5_2_) : gb301 ≠ gb287)); have _ := A_ ((by rw [hg]; exact Nat.ne_of_lt (blk_lt (g := gb288) (o := .cells #[.int .i64 x289000_2, .int .i64 x289001_2] 71 (0, 0)) z5_3_) : gb288 ≠ gb301)); have _ := A_ ((by rw [hg]; exact Nat.ne_of_gt (blk_lt (g := gb288) (o := .cells #[.int .i64 x289000_2, .int .i64 x289001_2] 71 (0, 0)) z5_3_) : gb301 ≠ gb288)); clear HO_8 HO_36 HL300_0 HL300_1 BK287 BK288 HR300_0 HR300_1 HB; rename_i HO_8 HO_36 HL300_0 HL300_1 BK287 BK288 HR300_0 HR300_1 HB BK301 GW301 GE301 NB287_301 NB301_287 NB288_301 NB301_288; clear hb hbox hg; have hnb26 := NB301_287.out; have hnc26 := NB287_301.out; have hnb27 := NB301_288.out; have hnc27 := NB288_301.out; obtain ⟨hcz28_0, hcz28_1⟩ := bc2 BK301.out; obtain ⟨hfz28_0, hfz28_1⟩ := bf2 BK301.out; have hnb29 := NB288_287.out; have hnc29 := NB287_288.out; obtain ⟨hcz30_0, hcz30_1⟩ := bc2 BK288.out; obtain ⟨hfz30_0, hfz30_1⟩ := bf2 BK288.out)))
           refine bodyPost_ret (results_ct rfl _ _ gb288 71 #[.int .i64 0, .int .i64 0] (0, 0) _ rfl (by (with_reducible repeat (first | refine blk_drewN ?_ _ | refine blk_drew ?_ | refine blk_alloc ?_ _)); refine blk_put (cs := #[.int .i64 0, .int .i64 x289001_2]) ?_ 1 _ rfl; (with_reducible repeat (first | refine blk_drewN ?_ _ | refine blk_drew ?_ | refine blk_alloc ?_ _)); refine blk_put (cs := #[.int .i64 x289000_2, .int .i64 x289001_2]) ?_ 0 _ rfl; (with_reducible repeat (first | refine blk_drewN ?_ _ | refine blk_drew ?_ | refine blk_alloc ?_ _)); refine blk_far ?_ NB288_301.out _; (with_reducible repeat (first | refine blk_drewN ?_ _ | refine blk_drew ?_ | refine blk_alloc ?_ _)); refine blk_far ?_ NB288_301.out _; (with_reducible repeat (first | refine blk_drewN ?_ _ | refine blk_drew ?_ | refine blk_alloc ?_ _)); exact BK288.out) Try.underlying71 rfl (by kernel_rfl)) rfl ?_
           exact ⟨z5_20_, z5_24_⟩
          ·
           rw [if_neg c24] at H
           have c24b0 := decide_eq_false c24
           have c24b1 : decide (12 < ((rd_T151 t289 x38_2).f0).length) = false := decide_eq_false (by omega)
           clear c24
           replace H := Option.bind_eq_some_iff.mp H
           obtain ⟨t302, A310, H⟩ := H
           try dsimp only at H
           have A31 := A_ A310
           clear A310
           obtain ⟨ji32, hji32⟩ : ∃ j_ : Int, (wrap64 (12 - (((rd_T151 t289 x38_2).f0).length : Int))) = j_ := ⟨_, rfl⟩
           replace H : (if 0 ≤ (ji32) then (if (ji32) < (x8_1.length : Int) then (impl_MeanOf.l1 k2 a1 x8_1 (wrap64 (x9_2 + (wrap64 (t302 * (rd x8_1 (ji32)))))) t289 (t289.length : Int) (wrap64 (x38_2 + 1))) else (none)) else (none)) = some (r1, r2, r3) := by first | (rw [hji32] at H; exact H) | (simp only [hji32] at H ⊢; exact H)
           (try rw [hji32] at A31)
           have hji32w : (IntKind.i64.wrap (12 - (((rd_T151 t289 x38_2).f0).length : Int))) = ji32 := (i64_w _).trans hji32
           by_cases c33 : 0 ≤ (ji32)
           ·
            rw [if_pos c33] at H
            have c33b0 := decide_eq_true c33
            clear c33
            by_cases c34 : (ji32) < (x8_1.length : Int)
            ·
             rw [if_pos c34] at H
             have c34b0 := decide_eq_true c34
             clear c34
             have H' := A_ H
             clear H
             have p300 : 0 ≤ (x38_2 : Int) := of_decide_eq_true (by assumption)
             have q300 : x38_2 < (t289.length : Int) := of_decide_eq_true (by assumption)
             obtain ⟨ad300, A300_0, c300_0, A300_1, c300_1, e300, hx300_0, hx300_1, hl300_0, hi300_0, hl300_1, hi300_1⟩ := at_T151 (Kd.S_reads' HO_36.out).2.2 x38_2 p300 q300
             cases e300
             obtain ⟨ce300, hce300, hMe300, hcc300⟩ := Kd.S_get HO_36.out z151 x38_2 p300 z5_30_
             obtain ⟨ve300_0, ve300_1, rfl, ge300_0, ge300_1⟩ := k151_openM hMe300
             have hv300_0 := hcc300 0 _ rfl
             rw [Nat.add_zero] at hv300_0
             replace hv300_0 := Option.some.inj (hv300_0.symm.trans hx300_0)
             rw [hv300_0] at ge300_0
             have HL300_0 := A_ (show Kd.R (Kd.int .i8) 86 _ _ _ _ ((rd_T151 t289 x38_2).f0) from ge300_0)
             clear hv300_0 ge300_0
             have hv300_1 := hcc300 1 _ rfl
             rw [add_field _ _ 1 (by omega)] at hv300_1
             replace hv300_1 := Option.some.inj (hv300_1.symm.trans hx300_1)
             rw [hv300_1] at ge300_1
             have HL300_1 := A_ (show Kd.R (Kd.int .i8) 86 _ _ _ _ ((rd_T151 t289 x38_2).f1) from ge300_1)
             clear hv300_1 ge300_1
             clear hcc300 hce300
             have HR300_0 := A_ hi300_0
             have HC300_0 := A_ hl300_0
             clear hi300_0 hl300_0
             have HR300_1 := A_ hi300_1
             have HC300_1 := A_ hl300_1
             clear hi300_1 hl300_1
             replace p300 := eq_true p300
             replace q300 := eq_true q300
             go_wp2_with (first | ((with_reducible refine gate_dst (N := 11) rfl ?_); refine box_event ?hg (N := 11) ?hd (cs := #[.slice none 0 0, .slice none 0 0]) (t := 151) ?hr ?_; (case hd => rfl); (case hg => rfl); (case hr => first | (go_simp; done) | (go_simp; rfl)); intro gb301 hg w35 hbox hb; have _ := A_ (Kd.R_below z5_8_ hb); have _ := A_ (Kd.S_below (Kd.S_elderB z5_11_ gb301 (Nat.le_of_eq hg.symm)) hb); have _ := A_ (Kd.R_below z5_18_ hb); have _ := A_ (Kd.R_below z5_17_ hb); have _ := A_ (blk_below (g := gb287) (o := .cells #[.slice A0_0 l0_0.length c0_0] 34 (0, 0)) z5_2_ hb); have _ := A_ (blk_below (g := gb288) (o := .cells #[.int .i64 x289000_2, .int .i64 x289001_2] 71 (0, 0)) z5_3_ hb); have _ := A_ (Kd.C_below z5_10_ hb); have _ := A_ (Kd.C_below z5_9_ hb); have _ := A_ (below_step z5_1_ hb); have _ := A_ (hbox); have _ := A_ ((by rw [hg]; exact (below_size z5_1_) : w.heap.size ≤ gb301)); have _ := A_ ((by rw [hg]; exact (below_size z5_1_) : w.heap.size ≤ gb301)); have _ := A_ ((by rw [hg]; exact Nat.ne_of_lt (blk_lt (g := gb287) (o := .cells #[.slice A0_0 l0_0.length c0_0] 34 (0, 0)) z5_2_) : gb287 ≠ gb301)); have _ := A_ ((by rw [hg]; exact Nat.ne_of_gt (blk_lt (g := gb287) (o := .cells #[.slice A0_0 l0_0.length c0_0] 34 (0, 0)) z5_2_) : gb301 ≠ gb287)); have _ := A_ ((by rw [hg]; exact Nat.ne_of_lt (blk_lt (g := gb288) (o := .cells #[.int .i64 x289000_2, .int .i64 x289001_2] 71 (0, 0)) z5_3_) : gb288 ≠ gb301)); have _ := A_ ((by rw [hg]; exact Nat.ne_of_gt (blk_lt (g := gb288) (o := .cells #[.int .i64 x289000_2, .int .i64 x289001_2] 71 (0, 0)) z5_3_) : gb301 ≠ gb288)); clear HO_8 HO_36 HL300_0 HL300_1 BK287 BK288 HR300_0 HR300_1 HB; rename_i HO_8 HO_36 HL300_0 HL300_1 BK287 BK288 HR300_0 HR300_1 HB BK301 GW301 GE301 NB287_301 NB301_287 NB288_301 NB301_288; clear hb hbox hg; have hnb36 := NB301_287.out; have hnc36 := NB287_301.out; have hnb37 := NB301_288.out; have hnc37 := NB288_301.out; obtain ⟨hcz38_0, hcz38_1⟩ := bc2 BK301.out; obtain ⟨hfz38_0, hfz38_1⟩ := bf2 BK301.out) | (go_at_call 107; (with_reducible refine (impl_weigh.calls k2 _ _ ((rd_T151 t289 x38_2).f1) t302 _ ?side1 ?side2 A31.out).mono ?_); (case side1 => repeat (first | exact ((Kd.R_reads' z5_14_).2.2) | (with_reducible refine Kd.C_alloc ?_ _) | (with_reducible refine Kd.C_drewN ?_ _) | (with_reducible refine Kd.C_drew ?_))); (case side2 => exact HC300_1.out); rintro e w' ⟨rfl, ⟨nd, rfl⟩⟩; (try first | exact ⟨rfl, _, World.drewN_drewN _ _ _⟩ | exact ⟨rfl, _, Eq.trans (World.drewN_drewN _ _ _) (congrArg (World.drewN _) (Nat.add_assoc _ _ _))⟩); have p303 : 0 ≤ ((ji32) : Int) := of_decide_eq_true (by assumption); have q303 : (ji32) < (x8_1.length : Int) := of_decide_eq_true (by assumption); obtain ⟨ad303, e303, hx303_0⟩ := Kd.at_int (Kd.R_reads' HO_8.out).2.2 (ji32) p303 q303; cases e303; have hn303_0 : ad303.block ≠ gb301 := Kd.own_blk (Kd.R_ne HO_8.out BK301.out (by decide)); have hn303_1 : ad303.block ≠ gb301 := Kd.own_blk (Kd.R_ne HO_8.out BK301.out (by decide)); replace hx303_0 := (cell_far (p := ⟨gb301, 0, none⟩) z5_23_ (.slice A300_0 ((rd_T151 t289 x38_2).f0).length c300_0)).trans hx303_0; replace hx303_0 := (cell_far (p := ⟨gb301, 1, none⟩) z5_22_ (.slice A300_1 ((rd_T151 t289 x38_2).f1).length c300_1)).trans hx303_0; (try have hy303_0 := fun (n_ : Nat) => (show ((((w35.drewN n_).setCell ⟨gb301, 0, none⟩ (.slice A300_0 ((rd_T151 t289 x38_2).f0).length c300_0)).setCell ⟨gb301, 1, none⟩ (.slice A300_1 ((rd_T151 t289 x38_2).f1).length c300_1))).cell? _ = some _ from hx303_0)); clear hn303_0; clear hn303_1; replace p303 := eq_true p303; replace q303 := eq_true q303))
             repeat (go_quiet (first | ((with_reducible refine gate_dst (N := 11) rfl ?_); refine box_event ?hg (N := 11) ?hd (cs := #[.slice none 0 0, .slice none 0 0]) (t := 151) ?hr ?_; (case hd => rfl); (case hg => rfl); (case hr => first | (go_simp; done) | (go_simp; rfl)); intro gb301 hg w35 hbox hb; have _ := A_ (Kd.R_below z5_8_ hb); have _ := A_ (Kd.S_below (Kd.S_elderB z5_11_ gb301 (Nat.le_of_eq hg.symm)) hb); have _ := A_ (Kd.R_below z5_18_ hb); have _ := A_ (Kd.R_below z5_17_ hb); have _ := A_ (blk_below (g := gb287) (o := .cells #[.slice A0_0 l0_0.length c0_0] 34 (0, 0)) z5_2_ hb); have _ := A_ (blk_below (g := gb288) (o := .cells #[.int .i64 x289000_2, .int .i64 x289001_2] 71 (0, 0)) z5_3_ hb); have _ := A_ (Kd.C_below z5_10_ hb); have _ := A_ (Kd.C_below z5_9_ hb); have _ := A_ (below_step z5_1_ hb); have _ := A_ (hbox); have _ := A_ ((by rw [hg]; exact (below_size z5_1_) : w.heap.size ≤ gb301)); have _ := A_ ((by rw [hg]; exact (below_size z5_1_) : w.heap.size ≤ gb301)); have _ := A_ ((by rw [hg]; exact Nat.ne_of_lt (blk_lt (g := gb287) (o := .cells #[.slice A0_0 l0_0.length c0_0] 34 (0, 0)) z5_2_) : gb287 ≠ gb301)); have _ := A_ ((by rw [hg]; exact Nat.ne_of_gt (blk_lt (g := gb287) (o := .cells #[.slice A0_0 l0_0.length c0_0] 34 (0, 0)) z5_2_) : gb301 ≠ gb287)); have _ := A_ ((by rw [hg]; exact Nat.ne_of_lt (blk_lt (g := gb288) (o := .cells #[.int .i64 x289000_2, .int .i64 x289001_2] 71 (0, 0)) z5_3_) : gb288 ≠ gb301)); have _ := A_ ((by rw [hg]; exact Nat.ne_of_gt (blk_lt (g := gb288) (o := .cells #[.int .i64 x289000_2, .int .i64 x289001_2] 71 (0, 0)) z5_3_) : gb301 ≠ gb288)); clear HO_8 HO_36 HL300_0 HL300_1 BK287 BK288 HR300_0 HR300_1 HB; rename_i HO_8 HO_36 HL300_0 HL300_1 BK287 BK288 HR300_0 HR300_1 HB BK301 GW301 GE301 NB287_301 NB301_287 NB288_301 NB301_288; clear hb hbox hg; have hnb36 := NB301_287.out; have hnc36 := NB287_301.out; have hnb37 := NB301_288.out; have hnc37 := NB288_301.out; obtain ⟨hcz38_0, hcz38_1⟩ := bc2 BK301.out; obtain ⟨hfz38_0, hfz38_1⟩ := bf2 BK301.out) | (go_at_call 107; (with_reducible refine (impl_weigh.calls k2 _ _ ((rd_T151 t289 x38_2).f1) t302 _ ?side1 ?side2 A31.out).mono ?_); (case side1 => repeat (first | exact ((Kd.R_reads' z5_14_).2.2) | (with_reducible refine Kd.C_alloc ?_ _) | (with_reducible refine Kd.C_drewN ?_ _) | (with_reducible refine Kd.C_drew ?_))); (case side2 => exact HC300_1.out); rintro e w' ⟨rfl, ⟨nd, rfl⟩⟩; (try first | exact ⟨rfl, _, World.drewN_drewN _ _ _⟩ | exact ⟨rfl, _, Eq.trans (World.drewN_drewN _ _ _) (congrArg (World.drewN _) (Nat.add_assoc _ _ _))⟩); have p303 : 0 ≤ ((ji32) : Int) := of_decide_eq_true (by assumption); have q303 : (ji32) < (x8_1.length : Int) := of_decide_eq_true (by assumption); obtain ⟨ad303, e303, hx303_0⟩ := Kd.at_int (Kd.R_reads' HO_8.out).2.2 (ji32) p303 q303; cases e303; have hn303_0 : ad303.block ≠ gb301 := Kd.own_blk (Kd.R_ne HO_8.out BK301.out (by decide)); have hn303_1 : ad303.block ≠ gb301 := Kd.own_blk (Kd.R_ne HO_8.out BK301.out (by decide)); replace hx303_0 := (cell_far (p := ⟨gb301, 0, none⟩) z5_23_ (.slice A300_0 ((rd_T151 t289 x38_2).f0).length c300_0)).trans hx303_0; replace hx303_0 := (cell_far (p := ⟨gb301, 1, none⟩) z5_22_ (.slice A300_1 ((rd_T151 t289 x38_2).f1).length c300_1)).trans hx303_0; (try have hy303_0 := fun (n_ : Nat) => (show ((((w35.drewN n_).setCell ⟨gb301, 0, none⟩ (.slice A300_0 ((rd_T151 t289 x38_2).f0).length c300_0)).setCell ⟨gb301, 1, none⟩ (.slice A300_1 ((rd_T151 t289 x38_2).f1).length c300_1))).cell? _ = some _ from hx303_0)); clear hn303_0; clear hn303_1; replace p303 := eq_true p303; replace q303 := eq_true q303)); try go_wp2_with (first | ((with_reducible refine gate_dst (N := 11) rfl ?_); refine box_event ?hg (N := 11) ?hd (cs := #[.slice none 0 0, .slice none 0 0]) (t := 151) ?hr ?_; (case hd => rfl); (case hg => rfl); (case hr => first | (go_simp; done) | (go_simp; rfl)); intro gb301 hg w35 hbox hb; have _ := A_ (Kd.R_below z5_8_ hb); have _ := A_ (Kd.S_below (Kd.S_elderB z5_11_ gb301 (Nat.le_of_eq hg.symm)) hb); have _ := A_ (Kd.R_below z5_18_ hb); have _ := A_ (Kd.R_below z5_17_ hb); have _ := A_ (blk_below (g := gb287) (o := .cells #[.slice A0_0 l0_0.length c0_0] 34 (0, 0)) z5_2_ hb); have _ := A_ (blk_below (g := gb288) (o := .cells #[.int .i64 x289000_2, .int .i64 x289001_2] 71 (0, 0)) z5_3_ hb); have _ := A_ (Kd.C_below z5_10_ hb); have _ := A_ (Kd.C_below z5_9_ hb); have _ := A_ (below_step z5_1_ hb); have _ := A_ (hbox); have _ := A_ ((by rw [hg]; exact (below_size z5_1_) : w.heap.size ≤ gb301)); have _ := A_ ((by rw [hg]; exact (below_size z5_1_) : w.heap.size ≤ gb301)); have _ := A_ ((by rw [hg]; exact Nat.ne_of_lt (blk_lt (g := gb287) (o := .cells #[.slice A0_0 l0_0.length c0_0] 34 (0, 0)) z5_2_) : gb287 ≠ gb301)); have _ := A_ ((by rw [hg]; exact Nat.ne_of_gt (blk_lt (g := gb287) (o := .cells #[.slice A0_0 l0_0.length c0_0] 34 (0, 0)) z5_2_) : gb301 ≠ gb287)); have _ := A_ ((by rw [hg]; exact Nat.ne_of_lt (blk_lt (g := gb288) (o := .cells #[.int .i64 x289000_2, .int .i64 x289001_2] 71 (0, 0)) z5_3_) : gb288 ≠ gb301)); have _ := A_ ((by rw [hg]; exact Nat.ne_of_gt (blk_lt (g := gb288) (o := .cells #[.int .i64 x289000_2, .int .i64 x289001_2] 71 (0, 0)) z5_3_) : gb301 ≠ gb288)); clear HO_8 HO_36 HL300_0 HL300_1 BK287 BK288 HR300_0 HR300_1 HB; rename_i HO_8 HO_36 HL300_0 HL300_1 BK287 BK288 HR300_0 HR300_1 HB BK301 GW301 GE301 NB287_301 NB301_287 NB288_301 NB301_288; clear hb hbox hg; have hnb36 := NB301_287.out; have hnc36 := NB287_301.out; have hnb37 := NB301_288.out; have hnc37 := NB288_301.out; obtain ⟨hcz38_0, hcz38_1⟩ := bc2 BK301.out; obtain ⟨hfz38_0, hfz38_1⟩ := bf2 BK301.out) | (go_at_call 107; (with_reducible refine (impl_weigh.calls k2 _ _ ((rd_T151 t289 x38_2).f1) t302 _ ?side1 ?side2 A31.out).mono ?_); (case side1 => repeat (first | exact ((Kd.R_reads' z5_14_).2.2) | (with_reducible refine Kd.C_alloc ?_ _) | (with_reducible refine Kd.C_drewN ?_ _) | (with_reducible refine Kd.C_drew ?_))); (case side2 => exact HC300_1.out); rintro e w' ⟨rfl, ⟨nd, rfl⟩⟩; (try first | exact ⟨rfl, _, World.drewN_drewN _ _ _⟩ | exact ⟨rfl, _, Eq.trans (World.drewN_drewN _ _ _) (congrArg (World.drewN _) (Nat.add_assoc _ _ _))⟩); have p303 : 0 ≤ ((ji32) : Int) := of_decide_eq_true (by assumption); have q303 : (ji32) < (x8_1.length : Int) := of_decide_eq_true (by assumption); obtain ⟨ad303, e303, hx303_0⟩ := Kd.at_int (Kd.R_reads' HO_8.out).2.2 (ji32) p303 q303; cases e303; have hn303_0 : ad303.block ≠ gb301 := Kd.own_blk (Kd.R_ne HO_8.out BK301.out (by decide)); have hn303_1 : ad303.block ≠ gb301 := Kd.own_blk (Kd.R_ne HO_8.out BK301.out (by decide)); replace hx303_0 := (cell_far (p := ⟨gb301, 0, none⟩) z5_23_ (.slice A300_0 ((rd_T151 t289 x38_2).f0).length c300_0)).trans hx303_0; replace hx303_0 := (cell_far (p := ⟨gb301, 1, none⟩) z5_22_ (.slice A300_1 ((rd_T151 t289 x38_2).f1).length c300_1)).trans hx303_0; (try have hy303_0 := fun (n_ : Nat) => (show ((((w35.drewN n_).setCell ⟨gb301, 0, none⟩ (.slice A300_0 ((rd_T151 t289 x38_2).f0).length c300_0)).setCell ⟨gb301, 1, none⟩ (.slice A300_1 ((rd_T151 t289 x38_2).f1).length c300_1))).cell? _ = some _ from hx303_0)); clear hn303_0; clear hn303_1; replace p303 := eq_true p303; replace q303 := eq_true q303)))
             go_roundg k2
             case measure => have := HK1.out; have := HK2.out; omega
             case rel => exact ⟨(wrap64 (x9_2 + (wrap64 (t302 * (rd x8_1 (ji32)))))), (wrap64 (x38_2 + 1)), (x289000_2), (x289001_2), (by first | rfl | (simp; done) | (simp only [← hji32] <;> (first | rfl | (simp only [i64_w]; done) | (simp only [i64_w]; rfl) | simp)) | (simp [*]; done)), z5_16_, H', ⟨(by have := HK1.out; have := HK2.out; omega)⟩, ⟨(by (with_reducible repeat (first | apply Kd.R_alloc | apply Kd.R_drewN | apply Kd.R_drew)); exact Kd.R_mono (Kd.R_far (p := ⟨gb301, 1, none⟩) (Kd.R_far (p := ⟨gb301, 0, none⟩) (Kd.R_types HO_8.out BK301.out (by decide)) (fun _ hk => hk.2) (.slice A300_0 ((rd_T151 t289 x38_2).f0).length c300_0)) (fun _ hk => hk.2) (.slice A300_1 ((rd_T151 t289 x38_2).f1).length c300_1)) (fun _ hk => trivial))⟩, ⟨(by (with_reducible repeat (first | apply Kd.S_alloc | apply Kd.S_drewN | apply Kd.S_drew)); exact Kd.S_mono (Kd.S_far (p := ⟨gb301, 1, none⟩) (Kd.S_far (p := ⟨gb301, 0, none⟩) (Kd.S_mono HO_36.out (fun k_ hk => (⟨hk, hk.2⟩ : _ ∧ k_ ≠ gb301))) (fun _ hk => hk.2) (.slice A300_0 ((rd_T151 t289 x38_2).f0).length c300_0)) (fun _ hk => hk.2) (.slice A300_1 ((rd_T151 t289 x38_2).f1).length c300_1)) (fun _ hk => trivial))⟩, ⟨(by (with_reducible repeat (first | refine blk_drewN ?_ _ | refine blk_drew ?_ | refine blk_alloc ?_ _)); refine blk_far ?_ NB287_301.out _; (with_reducible repeat (first | refine blk_drewN ?_ _ | refine blk_drew ?_ | refine blk_alloc ?_ _)); refine blk_far ?_ NB287_301.out _; (with_reducible repeat (first | refine blk_drewN ?_ _ | refine blk_drew ?_ | refine blk_alloc ?_ _)); exact BK287.out)⟩, ⟨(by (with_reducible repeat (first | refine blk_drewN ?_ _ | refine blk_drew ?_ | refine blk_alloc ?_ _)); refine blk_far ?_ NB288_301.out _; (with_reducible repeat (first | refine blk_drewN ?_ _ | refine blk_drew ?_ | refine blk_alloc ?_ _)); refine blk_far ?_ NB288_301.out _; (with_reducible repeat (first | refine blk_drewN ?_ _ | refine blk_drew ?_ | refine blk_alloc ?_ _)); exact BK288.out)⟩, ⟨z5_24_⟩⟩
            ·
             rw [if_neg c34] at H
             exact absurd H (by simp)
           ·
            rw [if_neg c33] at H
            exact absurd H (by simp)
         ·
          rw [if_neg c23] at H
          exact absurd H (by simp)
        ·
         rw [if_neg c22] at H
         exact absurd H (by simp)
       ·
        rw [if_neg c21] at H
        have c21b0 := decide_eq_false c21
        clear c21
        by_cases c39 : 12 < (x8_1.length : Int)
        ·
         rw [if_pos c39] at H
         have c39b0 := decide_eq_true c39
         have c39b1 : decide (12 < x8_1.length) = true := decide_eq_true (by omega)
         clear c39
         by_cases c40 : 0 ≤ a1
         ·
          rw [if_pos c40] at H
          have c40b0 := eq_true c40
          have c40b1 := decide_eq_true c40
          clear c40
          obtain ⟨ji41, hji41⟩ : ∃ j_ : Int, (shl .i64 (rd x8_1 12) a1) = j_ := ⟨_, rfl⟩
          replace H : ((impl_MakeRatio.f k2 x9_2 (ji41)).bind fun bt305 => (some (bt305.1, bt305.2.1, bt305.2.2))) = some (r1, r2, r3) := by first | (rw [hji41] at H; exact H) | (simp only [hji41] at H ⊢; exact H)
          have hji41_ : (IntKind.i64.wrap ((rd x8_1 12) * 2 ^ min a1.toNat 64)) = ji41 := hji41
          have hji41z : a1 ≤ 64 → (IntKind.i64.wrap ((rd x8_1 12) * 2 ^ a1.toNat)) = ji41 := shl_small hji41
          have hji41y : (wrap64 ((rd x8_1 12) * 2 ^ min a1.toNat 64)) = ji41 := (i64_w _).symm.trans hji41_
          have hji41x : a1 ≤ 64 → (wrap64 ((rd x8_1 12) * 2 ^ a1.toNat)) = ji41 := fun h_ => (i64_w _).symm.trans (hji41z h_)
          replace H := Option.bind_eq_some_iff.mp H
          obtain ⟨⟨t305, t306, t307⟩, A420, H⟩ := H
          try dsimp only at H
          have A42 := A_ A420
          clear A420
          simp only [Option.some.injEq, Prod.mk.injEq] at H
          obtain ⟨rfl, rfl, rfl⟩ := H
          have p304 : 0 ≤ (12 : Int) := (by omega)
          have q304 : 12 < (x8_1.length : Int) := of_decide_eq_true (by assumption)
          obtain ⟨ad304, e304, hx304_0⟩ := Kd.at_int (Kd.R_reads' HO_8.out).2.2 12 p304 q304
          cases e304
          (try simp only [show (12 : Int).toNat = 12 from rfl, Nat.reduceMul, Nat.reduceEqDiff, Go.Addr.add, ↓reduceIte] at hx304_0)
          have qi304 : (12 < x8_1.length) = True := eq_true (by omega)
          (try rw [show ((12 : Int)).toNat = 12 from rfl] at hx304_0)
          replace p304 := eq_true p304
          replace q304 := eq_true q304
          go_wp2_with (first | (go_at_call 108; (with_reducible refine (impl_MakeRatio.calls k2 x9_2 ji41 t305 t306 t307 _ A42.out).mono ?_); rintro e w43 ⟨rfl, hb⟩; have _ := A_ (Kd.R_below z5_8_ hb); have _ := A_ (Kd.S_below z5_11_ hb); have _ := A_ (blk_below (g := gb287) (o := .cells #[.slice A0_0 l0_0.length c0_0] 34 (0, 0)) z5_2_ hb); have _ := A_ (blk_below (g := gb288) (o := .cells #[.int .i64 x289000_2, .int .i64 x289001_2] 71 (0, 0)) z5_3_ hb); have _ := A_ (below_step z5_1_ hb); clear HO_8 HO_36 BK287 BK288 HB; rename_i HO_8 HO_36 BK287 BK288 HB; (try clear hb); have hnb44 := NB288_287.out; have hnc44 := NB287_288.out; obtain ⟨hcz45_0, hcz45_1⟩ := bc2 BK288.out; obtain ⟨hfz45_0, hfz45_1⟩ := bf2 BK288.out))
          repeat (go_quiet (first | (go_at_call 108; (with_reducible refine (impl_MakeRatio.calls k2 x9_2 ji41 t305 t306 t307 _ A42.out).mono ?_); rintro e w43 ⟨rfl, hb⟩; have _ := A_ (Kd.R_below z5_8_ hb); have _ := A_ (Kd.S_below z5_11_ hb); have _ := A_ (blk_below (g := gb287) (o := .cells #[.slice A0_0 l0_0.length c0_0] 34 (0, 0)) z5_2_ hb); have _ := A_ (blk_below (g := gb288) (o := .cells #[.int .i64 x289000_2, .int .i64 x289001_2] 71 (0, 0)) z5_3_ hb); have _ := A_ (below_step z5_1_ hb); clear HO_8 HO_36 BK287 BK288 HB; rename_i HO_8 HO_36 BK287 BK288 HB; (try clear hb); have hnb44 := NB288_287.out; have hnc44 := NB287_288.out; obtain ⟨hcz45_0, hcz45_1⟩ := bc2 BK288.out; obtain ⟨hfz45_0, hfz45_1⟩ := bf2 BK288.out)); try go_wp2_with (first | (go_at_call 108; (with_reducible refine (impl_MakeRatio.calls k2 x9_2 ji41 t305 t306 t307 _ A42.out).mono ?_); rintro e w43 ⟨rfl, hb⟩; have _ := A_ (Kd.R_below z5_8_ hb); have _ := A_ (Kd.S_below z5_11_ hb); have _ := A_ (blk_below (g := gb287) (o := .cells #[.slice A0_0 l0_0.length c0_0] 34 (0, 0)) z5_2_ hb); have _ := A_ (blk_below (g := gb288) (o := .cells #[.int .i64 x289000_2, .int .i64 x289001_2] 71 (0, 0)) z5_3_ hb); have _ := A_ (below_step z5_1_ hb); clear HO_8 HO_36 BK287 BK288 HB; rename_i HO_8 HO_36 BK287 BK288 HB; (try clear hb); have hnb44 := NB288_287.out; have hnc44 := NB287_288.out; obtain ⟨hcz45_0, hcz45_1⟩ := bc2 BK288.out; obtain ⟨hfz45_0, hfz45_1⟩ := bf2 BK288.out)))
          refine bodyPost_ret (results_ct rfl _ _ gb288 71 #[.int .i64 t305, .int .i64 t306] (0, 0) _ rfl (by (with_reducible repeat (first | refine blk_drewN ?_ _ | refine blk_drew ?_ | refine blk_alloc ?_ _)); refine blk_put (cs := #[.int .i64 t305, .int .i64 x289001_2]) ?_ 1 _ rfl; (with_reducible repeat (first | refine blk_drewN ?_ _ | refine blk_drew ?_ | refine blk_alloc ?_ _)); refine blk_put (cs := #[.int .i64 x289000_2, .int .i64 x289001_2]) ?_ 0 _ rfl; (with_reducible repeat (first | refine blk_drewN ?_ _ | refine blk_drew ?_ | refine blk_alloc ?_ _)); exact BK288.out) Try.underlying71 rfl (by kernel_rfl)) rfl ?_
          exact ⟨(by first | rfl | (simp [errW_none, errW_some] <;> rfl) | (simp only [← hji41]; first | rfl | (simp [errW_none, errW_some] <;> rfl)) | (simp [*, errW_none, errW_some] <;> rfl)), z5_1_⟩
         ·
          rw [if_neg c40] at H
          exact absurd H (by simp)
        ·
         rw [if_neg c39] at H
         exact absurd H (by simp)
 ·
  rw [if_neg c4] at H
  have c4b0 : (t292 == 0) = false := beq_eq_false_iff_ne.mpr c4
  have c4b1 : (t292 != 0) = true := bne_iff_ne.mpr c4
  simp only [Option.some.injEq, Prod.mk.injEq] at H
  obtain ⟨rfl, rfl, rfl⟩ := H
  go_enter Try.func52, Try.ntmps52
  go_wp2_with (first | ((with_reducible refine gate_dst (N := 2) rfl ?_); refine box_event ?hg (N := 2) ?hd (cs := #[.slice A0_0 l0_0.length c0_0]) (t := 34) ?hr ?_; (case hd => rfl); (case hg => rfl); (case hr => first | (go_simp; done) | (go_simp; rfl)); intro gb287 hg w46 hbox hb; have _ := A_ (below_step z5_4_ hb); have _ := A_ (hbox); have _ := A_ ((by rw [hg]; exact (below_size z5_4_) : w.heap.size ≤ gb287)); have _ := A_ ((by rw [hg]; exact (below_size z5_4_) : w.heap.size ≤ gb287)); clear HB; rename_i HB BK287 GW287 GE287; clear hb hbox hg) | ((with_reducible refine gate_dst (N := 4) rfl ?_); refine box_event ?hg (N := 4) ?hd (cs := #[.int .i64 0, .int .i64 0]) (t := 71) ?hr ?_; (case hd => rfl); (case hg => rfl); (case hr => first | (go_simp; done) | (go_simp; rfl)); intro gb288 hg w47 hbox hb; have _ := A_ (blk_below (g := gb287) (o := .cells #[.slice A0_0 l0_0.length c0_0] 34 (0, 0)) z5_2_ hb); have _ := A_ (below_step z5_5_ hb); have _ := A_ (hbox); have _ := A_ ((by rw [hg]; exact (below_size z5_5_) : w.heap.size ≤ gb288)); have _ := A_ ((by rw [hg]; exact (below_size z5_5_) : w.heap.size ≤ gb288)); have _ := A_ ((by rw [hg]; exact Nat.ne_of_lt (blk_lt (g := gb287) (o := .cells #[.slice A0_0 l0_0.length c0_0] 34 (0, 0)) z5_2_) : gb287 ≠ gb288)); have _ := A_ ((by rw [hg]; exact Nat.ne_of_gt (blk_lt (g := gb287) (o := .cells #[.slice A0_0 l0_0.length c0_0] 34 (0, 0)) z5_2_) : gb288 ≠ gb287)); clear BK287 HB; rename_i BK287 HB BK288 GW288 GE288 NB287_288 NB288_287; clear hb hbox hg; have hnb48 := NB287_288.out; have hnc48 := NB288_287.out; have hcz49_0 : w47.cell? ⟨gb287, 0, none⟩ = some (.slice A0_0 l0_0.length c0_0) := (blk_cell BK287.out 0).trans rfl; have hfz49_0 := blk_frozen BK287.out 0) | (go_at_call 47; (with_reducible refine (impl_TableOf.calls k _ _ l0_0 a1 t289 t292 _ ?side1 ?side2 A3.out).mono ?_); (case side1 => have hx_ := (Kd.C_below HR0_0.out HB.out); exact kc_); (case side2 => exact HC0_0.out); rintro e w50 ⟨v290, rfl, ho0, hb⟩; have _ := A_ (Kd.S_lower ho0 (below_size z5_1_)); have _ := A_ (blk_below (g := gb287) (o := .cells #[.slice A0_0 l0_0.length c0_0] 34 (0, 0)) z5_2_ hb); have _ := A_ (blk_below (g := gb288) (o := .cells #[.int .i64 0, .int .i64 0] 71 (0, 0)) z5_3_ hb); have _ := A_ (below_step z5_1_ hb); clear BK287 BK288 HB; rename_i HO291 BK287 BK288 HB; (try clear hb); (try clear ho0); obtain ⟨hcz51_0, hcz51_1⟩ := bc2 BK288.out; obtain ⟨hfz51_0, hfz51_1⟩ := bf2 BK288.out))
  repeat (go_quiet (first | ((with_reducible refine gate_dst (N := 2) rfl ?_); refine box_event ?hg (N := 2) ?hd (cs := #[.slice A0_0 l0_0.length c0_0]) (t := 34) ?hr ?_; (case hd => rfl); (case hg => rfl); (case hr => first | (go_simp; done) | (go_simp; rfl)); intro gb287 hg w46 hbox hb; have _ := A_ (below_step z5_4_ hb); have _ := A_ (hbox); have _ := A_ ((by rw [hg]; exact (below_size z5_4_) : w.heap.size ≤ gb287)); have _ := A_ ((by rw [hg]; exact (below_size z5_4_) : w.heap.size ≤ gb287)); clear HB; rename_i HB BK287 GW287 GE287; clear hb hbox hg) | ((with_reducible refine gate_dst (N := 4) rfl ?_); refine box_event ?hg (N := 4) ?hd (cs := #[.int .i64 0, .int .i64 0]) (t := 71) ?hr ?_; (case hd => rfl); (case hg => rfl); (case hr => first | (go_simp; done) | (go_simp; rfl)); intro gb288 hg w47 hbox hb; have _ := A_ (blk_below (g := gb287) (o := .cells #[.slice A0_0 l0_0.length c0_0] 34 (0, 0)) z5_2_ hb); have _ := A_ (below_step z5_5_ hb); have _ := A_ (hbox); have _ := A_ ((by rw [hg]; exact (below_size z5_5_) : w.heap.size ≤ gb288)); have _ := A_ ((by rw [hg]; exact (below_size z5_5_) : w.heap.size ≤ gb288)); have _ := A_ ((by rw [hg]; exact Nat.ne_of_lt (blk_lt (g := gb287) (o := .cells #[.slice A0_0 l0_0.length c0_0] 34 (0, 0)) z5_2_) : gb287 ≠ gb288)); have _ := A_ ((by rw [hg]; exact Nat.ne_of_gt (blk_lt (g := gb287) (o := .cells #[.slice A0_0 l0_0.length c0_0] 34 (0, 0)) z5_2_) : gb288 ≠ gb287)); clear BK287 HB; rename_i BK287 HB BK288 GW288 GE288 NB287_288 NB288_287; clear hb hbox hg; have hnb48 := NB287_288.out; have hnc48 := NB288_287.out; have hcz49_0 : w47.cell? ⟨gb287, 0, none⟩ = some (.slice A0_0 l0_0.length c0_0) := (blk_cell BK287.out 0).trans rfl; have hfz49_0 := blk_frozen BK287.out 0) | (go_at_call 47; (with_reducible refine (impl_TableOf.calls k _ _ l0_0 a1 t289 t292 _ ?side1 ?side2 A3.out).mono ?_); (case side1 => have hx_ := (Kd.C_below HR0_0.out HB.out); exact kc_); (case side2 => exact HC0_0.out); rintro e w50 ⟨v290, rfl, ho0, hb⟩; have _ := A_ (Kd.S_lower ho0 (below_size z5_1_)); have _ := A_ (blk_below (g := gb287) (o := .cells #[.slice A0_0 l0_0.length c0_0] 34 (0, 0)) z5_2_ hb); have _ := A_ (blk_below (g := gb288) (o := .cells #[.int .i64 0, .int .i64 0] 71 (0, 0)) z5_3_ hb); have _ := A_ (below_step z5_1_ hb); clear BK287 BK288 HB; rename_i HO291 BK287 BK288 HB; (try clear hb); (try clear ho0); obtain ⟨hcz51_0, hcz51_1⟩ := bc2 BK288.out; obtain ⟨hfz51_0, hfz51_1⟩ := bf2 BK288.out)); try go_wp2_with (first | ((with_reducible refine gate_dst (N := 2) rfl ?_); refine box_event ?hg (N := 2) ?hd (cs := #[.slice A0_0 l0_0.length c0_0]) (t := 34) ?hr ?_; (case hd => rfl); (case hg => rfl); (case hr => first | (go_simp; done) | (go_simp; rfl)); intro gb287 hg w46 hbox hb; have _ := A_ (below_step z5_4_ hb); have _ := A_ (hbox); have _ := A_ ((by rw [hg]; exact (below_size z5_4_) : w.heap.size ≤ gb287)); have _ := A_ ((by rw [hg]; exact (below_size z5_4_) : w.heap.size ≤ gb287)); clear HB; rename_i HB BK287 GW287 GE287; clear hb hbox hg) | ((with_reducible refine gate_dst (N := 4) rfl ?_); refine box_event ?hg (N := 4) ?hd (cs := #[.int .i64 0, .int .i64 0]) (t := 71) ?hr ?_; (case hd => rfl); (case hg => rfl); (case hr => first | (go_simp; done) | (go_simp; rfl)); intro gb288 hg w47 hbox hb; have _ := A_ (blk_below (g := gb287) (o := .cells #[.slice A0_0 l0_0.length c0_0] 34 (0, 0)) z5_2_ hb); have _ := A_ (below_step z5_5_ hb); have _ := A_ (hbox); have _ := A_ ((by rw [hg]; exact (below_size z5_5_) : w.heap.size ≤ gb288)); have _ := A_ ((by rw [hg]; exact (below_size z5_5_) : w.heap.size ≤ gb288)); have _ := A_ ((by rw [hg]; exact Nat.ne_of_lt (blk_lt (g := gb287) (o := .cells #[.slice A0_0 l0_0.length c0_0] 34 (0, 0)) z5_2_) : gb287 ≠ gb288)); have _ := A_ ((by rw [hg]; exact Nat.ne_of_gt (blk_lt (g := gb287) (o := .cells #[.slice A0_0 l0_0.length c0_0] 34 (0, 0)) z5_2_) : gb288 ≠ gb287)); clear BK287 HB; rename_i BK287 HB BK288 GW288 GE288 NB287_288 NB288_287; clear hb hbox hg; have hnb48 := NB287_288.out; have hnc48 := NB288_287.out; have hcz49_0 : w47.cell? ⟨gb287, 0, none⟩ = some (.slice A0_0 l0_0.length c0_0) := (blk_cell BK287.out 0).trans rfl; have hfz49_0 := blk_frozen BK287.out 0) | (go_at_call 47; (with_reducible refine (impl_TableOf.calls k _ _ l0_0 a1 t289 t292 _ ?side1 ?side2 A3.out).mono ?_); (case side1 => have hx_ := (Kd.C_below HR0_0.out HB.out); exact kc_); (case side2 => exact HC0_0.out); rintro e w50 ⟨v290, rfl, ho0, hb⟩; have _ := A_ (Kd.S_lower ho0 (below_size z5_1_)); have _ := A_ (blk_below (g := gb287) (o := .cells #[.slice A0_0 l0_0.length c0_0] 34 (0, 0)) z5_2_ hb); have _ := A_ (blk_below (g := gb288) (o := .cells #[.int .i64 0, .int .i64 0] 71 (0, 0)) z5_3_ hb); have _ := A_ (below_step z5_1_ hb); clear BK287 BK288 HB; rename_i HO291 BK287 BK288 HB; (try clear hb); (try clear ho0); obtain ⟨hcz51_0, hcz51_1⟩ := bc2 BK288.out; obtain ⟨hfz51_0, hfz51_1⟩ := bf2 BK288.out)))
  refine bodyPost_ret (results_ct rfl _ _ gb288 71 #[.int .i64 0, .int .i64 0] (0, 0) _ rfl (by (with_reducible repeat (first | refine blk_drewN ?_ _ | refine blk_drew ?_ | refine blk_alloc ?_ _)); refine blk_put (cs := #[.int .i64 0, .int .i64 0]) ?_ 1 _ rfl; (with_reducible repeat (first | refine blk_drewN ?_ _ | refine blk_drew ?_ | refine blk_alloc ?_ _)); refine blk_put (cs := #[.int .i64 0, .int .i64 0]) ?_ 0 _ rfl; (with_reducible repeat (first | refine blk_drewN ?_ _ | refine blk_drew ?_ | refine blk_alloc ?_ _)); exact BK288.out) Try.underlying71 rfl (by kernel_rfl)) rfl ?_
  exact ⟨z5_20_, z5_1_⟩
end Go.Proofs.Ytpfnohdnaocpdaa.PT

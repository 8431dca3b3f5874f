import Derived.Test.YtenhgmddpkiliaaPBx0
import Derived.Test.YtenhgmddpkiliaaPBform
import Derived.Test.YtenhgmddpkiliaaPBlineOf
import Derived.Test.YtenhgmddpkiliaaPBx2
import Derived.Test.YtenhgmddpkiliaaPBx3
import Derived.Test.YtenhgmddpkiliaaPBx5
import Derived.Test.YtenhgmddpkiliaaPBx8
namespace Go.Proofs.Ytenhgmddpkiliaa.PB
open Go.RowKit Go.Proofs.YtenhgmddpkiliaaW.PrintWords Go.Proofs.YtenhgmddpkiliaaW.PrintLast Go.Proofs.YtenhgmddpkiliaaW.PrintMore Go.Proofs.YtenhgmddpkiliaaRP
attribute [local go_sem] max2_int min2_int max_two min_two max_three min_three max_four min_four Go.Proofs.YtenhgmddpkiliaaRP.max_eight Go.Proofs.YtenhgmddpkiliaaRP.tmod_len   -- for this text's walks alone
set_option linter.unusedVariables false
set_option linter.unusedSimpArgs false
theorem z9_1_ {P : Prop} (h : P := by repeat (first | (with_reducible first | exact HB.out | apply below_alloc | apply pw_below_drewN | apply below_drew1 | refine below_set ?_ GE235.out) | exact HB.out)) : P := h
theorem z9_2_ {P : Prop} (h : P := by repeat (first | (with_reducible first | exact HB.out | apply below_alloc | apply pw_below_drewN | apply below_drew1 | refine below_set ?_ GE328.out) | exact HB.out)) : P := h
theorem z9_3_ {P : Prop} (h : P := by (try simp only [List.map_toArray, List.map_cons, List.map_nil]); first | done | rfl | (simp only [List.length_drop, List.length_take]; rfl)) : P := h
theorem z9_4_ {P : Prop} (h : P := by (with_reducible repeat (first | refine blk_drewN ?_ _ | refine blk_drew ?_ | refine blk_alloc ?_ _)); exact BK235.out) : P := h
theorem z9_5_ {P : Prop} (h : P := by (with_reducible repeat (first | refine blk_drewN ?_ _ | refine blk_drew ?_ | refine blk_alloc ?_ _)); exact BK328.out) : P := h
theorem z9_6_ {P : Prop} (h : P := by first | rfl | (simp; done) | (simp [*]; done) | (simp [isE_]; done)) : P := h
theorem z9_7_ {P : Prop} (h : P := by repeat (first | (with_reducible first | exact HB.out | apply below_alloc | apply pw_below_drewN | apply below_drew1) | exact HB.out)) : P := h
theorem z9_8_ {P : Prop} (h : P := by first | rfl | (simp [errW_none, errW_some] <;> rfl) | (simp [*, errW_none, errW_some] <;> rfl)) : P := h
theorem z9_9_ {P : Prop} (h : P := by (with_reducible repeat (first | apply Kd.R_alloc | apply Kd.R_drewN | apply Kd.R_drew)); exact HO_13.out) : P := h
theorem z9_10_ {P : Prop} (h : P := by (with_reducible repeat (first | apply Kd.R_alloc | apply Kd.R_drewN | apply Kd.R_drew)); exact HO246.out) : P := h
theorem z9_11_ {P : Prop} (h : P := by (with_reducible repeat (first | apply Kd.R_alloc | apply Kd.R_drewN | apply Kd.R_drew)); exact HO_12.out) : P := h
theorem z9_12_ {P : Prop} (h : P := by (with_reducible repeat (first | apply Kd.R_alloc | apply Kd.R_drewN | apply Kd.R_drew)); exact HO_9.out) : P := h
theorem z9_13_ {P : Prop} (h : P := by have := HK1.out; have := HJ5.out; first | omega | exact Nat.le_refl _) : P := h
theorem z9_14_ {P : Prop} (h : P := by (with_reducible repeat (first | apply Kd.R_alloc | apply Kd.R_drewN | apply Kd.R_drew)); exact HO_72.out) : P := h
theorem z9_15_ {P : Prop} (h : P := by have := HK1.out; first | omega | exact Nat.le_refl _) : P := h
theorem z9_16_ {P : Prop} (h : P := by (with_reducible repeat (first | apply Kd.R_alloc | apply Kd.R_drewN | apply Kd.R_drew)); exact HO257.out) : P := h
/-! ### spec_KeptAfter: function 56 -/
mutual
def spec_KeptAfter.j0 : Nat → List (S45) → List (S124) → Bool → ByteArray → Int → ByteArray → ByteArray → Int → Int → Option ((List (S45)) × (List (S124)) × Int)
 | 0, _, _, _, _, _, _, _, _, _ => none
 | k + 1, x0, x1, x24, x236000, x236001, x236002, x236003, x236004, x236005 => if x24 = true then (some ((([] : List (S45))), (([] : List (S124))), 1)) else ((spec_l07Write.f k x0 x236000 x236001 x236002 x236003 x236004 x236005).bind fun bt244 => (if bt244.2 = 0 then ((spec_l07Find.f k bt244.1 x236000).bind fun t254 => ((spec_l07Users.f k bt244.1 t254).bind fun t255 => (spec_KeptAfter.l0 k x1 bt244.1 t254 t255 (([] : List (S124))) 0))) else (some ((([] : List (S45))), (([] : List (S124))), bt244.2))))
def spec_KeptAfter.l0 : Nat → List (S124) → List (S45) → Int → List Bool → List (S124) → Int → Option ((List (S45)) × (List (S124)) × Int)
 | 0, _, _, _, _, _, _ => none
 | k + 1, x1, x9, x11, x12, x13, x14 => if x14 < (x1.length : Int) then (if 0 ≤ x14 then ((spec_l07Find.f k x9 ((rd_T124 x1 x14).f0)).bind fun t262 => (if t262 = x11 then (spec_KeptAfter.l0 k x1 x9 x11 x12 x13 (wrap64 (x14 + 1))) else (if 0 ≤ t262 then (if t262 < (x12.length : Int) then (if rdOf false x12 t262 = true then (spec_KeptAfter.l0 k x1 x9 x11 x12 x13 (wrap64 (x14 + 1))) else (if x13.length < 2513169434916 then (spec_KeptAfter.l0 k x1 x9 x11 x12 (x13 ++ [(⟨(rd_T124 x1 x14).f0, (rd_T124 x1 x14).f1, (⟨(rd_T124 x1 x14).f2.f0, (⟨(rd_T124 x1 x14).f2.f1.f0, (rd_T124 x1 x14).f2.f1.f1, (rd_T124 x1 x14).f2.f1.f2, (rd_T124 x1 x14).f2.f1.f3, (rd_T124 x1 x14).f2.f1.f4, (rd_T124 x1 x14).f2.f1.f5⟩ : S116)⟩ : S122)⟩ : S124)]) (wrap64 (x14 + 1))) else (none))) else (none)) else (none)))) else (none)) else (some (x9, x13, 0))
end
def spec_KeptAfter.f (k : Nat) (l0 : List (S45)) (l1 : List (S124)) (a2_0 : ByteArray) (a2_1 : Int) (a2_2 : ByteArray) (a2_3 : ByteArray) (a2_4 : Int) (a2_5 : Int) : Option ((List (S45)) × (List (S124)) × Int) := (spec_l07Ok.f k l0).bind fun t236 => (if t236 = true then ((spec_l07Form.f k l0 l1).bind fun t237 => (spec_KeptAfter.j0 k l0 l1 (!t237) a2_0 a2_1 a2_2 a2_3 a2_4 a2_5)) else (spec_KeptAfter.j0 k l0 l1 true a2_0 a2_1 a2_2 a2_3 a2_4 a2_5))
theorem spec_KeptAfter.mono_l : ∀ k, (∀ y0 y1 y2 y3 y4 y5 y6 y7 y8, LeO (spec_KeptAfter.j0 k y0 y1 y2 y3 y4 y5 y6 y7 y8) (spec_KeptAfter.j0 (k + 1) y0 y1 y2 y3 y4 y5 y6 y7 y8)) ∧ (∀ y0 y1 y2 y3 y4 y5, LeO (spec_KeptAfter.l0 k y0 y1 y2 y3 y4 y5) (spec_KeptAfter.l0 (k + 1) y0 y1 y2 y3 y4 y5))
 | 0 => ⟨fun _ _ _ _ _ _ _ _ _ r h => by simp [spec_KeptAfter.j0] at h, fun _ _ _ _ _ _ r h => by simp [spec_KeptAfter.l0] at h⟩
 | k + 1 => by
  obtain ⟨ih0, ih1⟩ := spec_KeptAfter.mono_l k
  refine ⟨?_, ?_⟩
  ·
   intro y0 y1 y2 y3 y4 y5 y6 y7 y8
   unfold spec_KeptAfter.j0
   repeat' first
   | (with_reducible exact ih0 _ _ _ _ _ _ _ _ _)
   | (with_reducible exact ih1 _ _ _ _ _ _)
   | (with_reducible exact spec_l07Find.mono _ _ _)
   | (with_reducible exact spec_l07Form.mono _ _ _)
   | (with_reducible exact spec_l07Ok.mono _ _)
   | (with_reducible exact spec_l07Users.mono _ _ _)
   | (with_reducible exact spec_l07Write.mono _ _ _ _ _ _ _ _)
   | (with_reducible exact LeO.refl _)
   | (with_reducible exact LeO.none _)
   | (with_reducible refine LeO.ite ?_ ?_)
   | (with_reducible refine LeO.bind ?_ (fun _ => ?_))
   | exact ih0 _ _ _ _ _ _ _ _ _
   | exact ih1 _ _ _ _ _ _
   | exact LeO.none _
   | refine LeO.ite ?_ ?_
   | refine LeO.bind ?_ (fun _ => ?_)
  ·
   intro y0 y1 y2 y3 y4 y5
   unfold spec_KeptAfter.l0
   repeat' first
   | (with_reducible exact ih0 _ _ _ _ _ _ _ _ _)
   | (with_reducible exact ih1 _ _ _ _ _ _)
   | (with_reducible exact spec_l07Find.mono _ _ _)
   | (with_reducible exact spec_l07Form.mono _ _ _)
   | (with_reducible exact spec_l07Ok.mono _ _)
   | (with_reducible exact spec_l07Users.mono _ _ _)
   | (with_reducible exact spec_l07Write.mono _ _ _ _ _ _ _ _)
   | (with_reducible exact LeO.refl _)
   | (with_reducible exact LeO.none _)
   | (with_reducible refine LeO.ite ?_ ?_)
   | (with_reducible refine LeO.bind ?_ (fun _ => ?_))
   | exact ih0 _ _ _ _ _ _ _ _ _
   | exact ih1 _ _ _ _ _ _
   | exact LeO.none _
   | refine LeO.ite ?_ ?_
   | refine LeO.bind ?_ (fun _ => ?_)
theorem spec_KeptAfter.mono : ∀ a0 a1 a2 a3 a4 a5 a6 a7 k, LeO (spec_KeptAfter.f k a0 a1 a2 a3 a4 a5 a6 a7) (spec_KeptAfter.f (k + 1) a0 a1 a2 a3 a4 a5 a6 a7) := by
 intro a0 a1 a2 a3 a4 a5 a6 a7 k
 obtain ⟨ih0, ih1⟩ := spec_KeptAfter.mono_l k
 unfold spec_KeptAfter.f
 repeat' first
   | (with_reducible exact ih0 _ _ _ _ _ _ _ _ _)
   | (with_reducible exact ih1 _ _ _ _ _ _)
   | (with_reducible exact spec_l07Find.mono _ _ _)
   | (with_reducible exact spec_l07Form.mono _ _ _)
   | (with_reducible exact spec_l07Ok.mono _ _)
   | (with_reducible exact spec_l07Users.mono _ _ _)
   | (with_reducible exact spec_l07Write.mono _ _ _ _ _ _ _ _)
   | (with_reducible exact LeO.refl _)
   | (with_reducible exact LeO.none _)
   | (with_reducible refine LeO.ite ?_ ?_)
   | (with_reducible refine LeO.bind ?_ (fun _ => ?_))
   | exact ih0 _ _ _ _ _ _ _ _ _
   | exact ih1 _ _ _ _ _ _
   | exact LeO.none _
   | refine LeO.ite ?_ ?_
   | refine LeO.bind ?_ (fun _ => ?_)
set_option maxHeartbeats 8000000 in
set_option maxRecDepth 100000 in
theorem spec_KeptAfter.calls (k : Nat) (A0 : Option Addr) (c0 : Nat) (l0 : List (S45)) (A1 : Option Addr) (c1 : Nat) (l1 : List (S124)) (a2_0 : ByteArray) (a2_1 : Int) (a2_2 : ByteArray) (a2_3 : ByteArray) (a2_4 : Int) (a2_5 : Int) (r1 : List (S45)) (r2 : List (S124)) (r3 : Int) (w : World) (hr0 : Kd.C k45 w A0 l0.length l0) (hc0 : l0.length ≤ c0) (hr1 : Kd.C k124 w A1 l1.length l1) (hc1 : l1.length ≤ c1) (h : spec_KeptAfter.f k l0 l1 a2_0 a2_1 a2_2 a2_3 a2_4 a2_5 = some (r1, r2, r3)) :
  Calls Try.prog 56 #[.slice A0 l0.length c0, .slice A1 l1.length c1, .agg #[.string a2_0, .int .i8 a2_1, .string a2_2, .string a2_3, .int .i64 a2_4, .int .i64 a2_5]] w fun e w' => ∃ v0_ v1_ : Value, e = .returned (.tuple #[v0_, v1_, .int .i64 r3]) ∧ Kd.R k45 45 w' w.heap.size (fun _ => True) v0_ r1 ∧ Kd.R k124 124 w' w.heap.size (fun _ => True) v1_ r2 ∧ Below w.heap.size w w' := by
 have hu45 := Try.underlying45
 have hu124 := Try.underlying124
 have HR0 := A_ hr0
 have HC0 := A_ hc0
 clear hr0 hc0
 have HR1 := A_ hr1
 have HC1 := A_ hc1
 clear hr1 hc1
 have HB := A_ (Below.refl w.heap.size w)
 have H : ((spec_l07Ok.f k l0).bind fun t236 => (if t236 = true then ((spec_l07Form.f k l0 l1).bind fun t237 => (spec_KeptAfter.j0 k l0 l1 (!t237) a2_0 a2_1 a2_2 a2_3 a2_4 a2_5)) else (spec_KeptAfter.j0 k l0 l1 true a2_0 a2_1 a2_2 a2_3 a2_4 a2_5))) = some (r1, r2, r3) := h
 clear h
 have HC4 := A_ H
 clear H
 go_enter Try.func56, Try.ntmps56
 go_upto_region 1 with (first | ((with_reducible refine gate_dst (N := 5) rfl ?_); refine box_event ?hg (N := 5) ?hd (cs := #[.string a2_0, .int .i8 a2_1, .string a2_2, .string a2_3, .int .i64 a2_4, .int .i64 a2_5]) (t := 45) ?hr ?_; (case hd => rfl); (case hg => rfl); (case hr => first | (go_simp; done) | (go_simp; rfl)); intro gb235 hg w5 hbox hb; have _ := A_ (below_step z9_7_ hb); have _ := A_ (hbox); have _ := A_ ((by rw [hg]; exact (below_size z9_7_) : w.heap.size ≤ gb235)); have _ := A_ ((by rw [hg]; exact (below_size z9_7_) : w.heap.size ≤ gb235)); clear HB; rename_i HB BK235 GW235 GE235; clear hb hbox hg))
 (try simp only [Act.put, sA_, sB_, sC_])
 go_cut [24] (fun v24 wc => ∃ (kq : Nat) (x24_3 : Bool), v24 = .bool x24_3 ∧ Aside0 (spec_KeptAfter.j0 kq l0 l1 x24_3 a2_0 a2_1 a2_2 a2_3 a2_4 a2_5 = some (r1, r2, r3)) ∧ Aside0 (kq ≤ k) ∧ Aside0 (wc.heap[gb235]? = some (.cells #[.string a2_0, .int .i8 a2_1, .string a2_2, .string a2_3, .int .i64 a2_4, .int .i64 a2_5] 45 (0, 0))) ∧ Aside0 (Below w.heap.size w wc))
 case first =>
  have H := HC4.out
  clear HC4
  replace H := Option.bind_eq_some_iff.mp H
  obtain ⟨t236, A60, H⟩ := H
  try dsimp only at H
  have A6 := A_ A60
  clear A60
  by_cases c7 : t236 = true
  ·
   subst c7
   have H1 := H; rw [if_pos rfl] at H1
   clear H
   have H := H1
   clear H1
   replace H := Option.bind_eq_some_iff.mp H
   obtain ⟨t237, A80, H⟩ := H
   try dsimp only at H
   have A8 := A_ A80
   clear A80
   have H' := A_ H
   clear H
   go_wp2_with (first | ((with_reducible refine gate_callee (f := 64) rfl ?_); refine goesL_ (some 17) rfl rfl Try.func64 (by kernel_rfl) rfl #[.slice A0 l0.length c0] rfl z9_3_ ?_; (with_reducible refine (spec_l07Ok.calls k _ _ l0 true _ ?side1 ?side2 A6.out).mono ?_); (case side1 => have hx_ := (Kd.C_below HR0.out HB.out); exact kc_); (case side2 => exact HC0.out); rintro e w9 ⟨rfl, hb⟩; refine ⟨_, rfl, ?_⟩; have _ := A_ (blk_below (g := gb235) (o := .cells #[.string a2_0, .int .i8 a2_1, .string a2_2, .string a2_3, .int .i64 a2_4, .int .i64 a2_5] 45 (0, 0)) z9_4_ hb); have _ := A_ (below_step z9_1_ hb); clear BK235 HB; rename_i BK235 HB; (try clear hb)) | (go_at_call 97; (with_reducible refine (spec_l07Form.calls k _ _ l0 _ _ l1 t237 _ ?side1 ?side2 ?side3 ?side4 A8.out).mono ?_); (case side1 => have hx_ := (Kd.C_below HR0.out HB.out); exact kc_); (case side2 => exact HC0.out); (case side3 => have hx_ := (Kd.C_below HR1.out HB.out); exact kc_); (case side4 => exact HC1.out); rintro e w' ⟨rfl, ⟨nd, rfl⟩⟩))
   go_meet
   case rel => exact ⟨_, (!t237), z9_6_, H', ⟨(by first | omega | exact Nat.le_refl _)⟩, ⟨z9_4_⟩, ⟨z9_1_⟩⟩
  ·
   replace c7 := Bool.eq_false_iff.mpr c7
   subst c7
   have H1 := H; rw [if_neg (show ¬ (false = true) by decide)] at H1
   clear H
   have H := H1
   clear H1
   have H' := A_ H
   clear H
   go_wp2_with (first | ((with_reducible refine gate_callee (f := 64) rfl ?_); refine goesL_ (some 17) rfl rfl Try.func64 (by kernel_rfl) rfl #[.slice A0 l0.length c0] rfl z9_3_ ?_; (with_reducible refine (spec_l07Ok.calls k _ _ l0 false _ ?side1 ?side2 A6.out).mono ?_); (case side1 => have hx_ := (Kd.C_below HR0.out HB.out); exact kc_); (case side2 => exact HC0.out); rintro e w10 ⟨rfl, hb⟩; refine ⟨_, rfl, ?_⟩; have _ := A_ (blk_below (g := gb235) (o := .cells #[.string a2_0, .int .i8 a2_1, .string a2_2, .string a2_3, .int .i64 a2_4, .int .i64 a2_5] 45 (0, 0)) z9_4_ hb); have _ := A_ (below_step z9_1_ hb); clear BK235 HB; rename_i BK235 HB; (try clear hb)))
   go_meet
   case rel => exact ⟨_, (true), z9_6_, H', ⟨(by first | omega | exact Nat.le_refl _)⟩, ⟨z9_4_⟩, ⟨z9_1_⟩⟩
 case rest =>
  clear HC4
  try clear c1
  try clear p2
  try clear c5
  try clear c6
  try clear c7
  obtain ⟨kq, x24_3, rfl, HA, HJ3, BK235, HB⟩ := hcut
  cases kq with
  | zero => exact absurd HA.out (by simp [spec_KeptAfter.j0])
  | succ kj3 =>
   have H := HA.out
   clear HA
   simp only [spec_KeptAfter.j0] at H
   by_cases c11 : x24_3 = true
   ·
    subst c11
    have H1 := H; rw [if_pos rfl] at H1
    clear H
    have H := H1
    clear H1
    obtain ⟨y238, hy238⟩ : ∃ y_ : List (S45), y_ = (([] : List (S45))) := ⟨_, rfl⟩
    replace H : (some (y238, (([] : List (S124))), 1)) = some (r1, r2, r3) := by first | (rw [hy238]; with_reducible exact H) | (have H2_ := (Option.bind_some _ _).symm.trans H; rw [hy238]; with_reducible exact H2_) | (have H2_ := (Option.bind_some _ _).symm.trans H; with_reducible exact H2_) | with_reducible exact H | (rw [hy238]; exact H) | exact H
    have Ny238 := A_ hy238
    clear hy238
    obtain ⟨y241, hy241⟩ : ∃ y_ : List (S124), y_ = (([] : List (S124))) := ⟨_, rfl⟩
    replace H : (some (y238, y241, 1)) = some (r1, r2, r3) := by first | (rw [hy241]; with_reducible exact H) | (have H2_ := (Option.bind_some _ _).symm.trans H; rw [hy241]; with_reducible exact H2_) | (have H2_ := (Option.bind_some _ _).symm.trans H; with_reducible exact H2_) | with_reducible exact H | (rw [hy241]; exact H) | exact H
    have Ny241 := A_ hy241
    clear hy241
    simp only [Option.some.injEq, Prod.mk.injEq] at H
    obtain ⟨rfl, rfl, rfl⟩ := H
    go_wp2_with (first | ((with_reducible refine gate_dst (N := 25) rfl ?_); refine Kd.R_lit k45 _ 45 ?hg (N := 25) ?hd (xs := ([] : List (S45))) (inner := []) (ok := fun _ => True) (okp := fun _ => True) ?hr ?hp (fun _ hk => hk) trivial (Below.refl _ _) (Nat.le_refl _) (by simp) ?_; (case hd => rfl); (case hg => rfl); (case hr => first | (go_simp; done) | (go_simp; rfl)); (case hp => exact (Reps.none _ _)); intro v239 w12 ho13 hb hg_ hnew_; clear hg_ hnew_; (first | rw [← Ny238.out] at ho13 | (simp only [Int.reduceToNat] at ho13; rw [← Ny238.out] at ho13)); have _ := A_ (Kd.R_lower (Kd.R_newB ho13 (g := gb235) (o := .cells #[.string a2_0, .int .i8 a2_1, .string a2_2, .string a2_3, .int .i64 a2_4, .int .i64 a2_5] 45 (0, 0)) z9_4_) (below_size z9_1_)); have _ := A_ (blk_below (g := gb235) (o := .cells #[.string a2_0, .int .i8 a2_1, .string a2_2, .string a2_3, .int .i64 a2_4, .int .i64 a2_5] 45 (0, 0)) z9_4_ hb); have _ := A_ (below_step z9_1_ hb); clear BK235 HB; rename_i HO240 BK235 HB; clear hb ho13) | ((with_reducible refine gate_dst (N := 26) rfl ?_); refine Kd.R_lit k124 _ 124 ?hg (N := 26) ?hd (xs := ([] : List (S124))) (inner := []) (ok := fun _ => True) (okp := fun _ => True) ?hr ?hp (fun _ hk => hk) trivial (Below.refl _ _) (Nat.le_refl _) (by simp) ?_; (case hd => rfl); (case hg => rfl); (case hr => first | (go_simp; done) | (go_simp; rfl)); (case hp => exact (Reps.none _ _)); intro v242 w14 ho15 hb hg_ hnew_; clear hg_ hnew_; (first | rw [← Ny241.out] at ho15 | (simp only [Int.reduceToNat] at ho15; rw [← Ny241.out] at ho15)); have _ := A_ (Kd.R_below (by (with_reducible repeat (first | apply Kd.R_alloc | apply Kd.R_drewN | apply Kd.R_drew)); exact HO240.out) hb); have _ := A_ (Kd.R_lower ho15 (below_size z9_1_)); have _ := A_ (blk_below (g := gb235) (o := .cells #[.string a2_0, .int .i8 a2_1, .string a2_2, .string a2_3, .int .i64 a2_4, .int .i64 a2_5] 45 (0, 0)) z9_4_ hb); have _ := A_ (below_step z9_1_ hb); clear HO240 BK235 HB; rename_i HO240 HO243 BK235 HB; clear hb ho15))
    go_ret3
    exact ⟨_, _, z9_8_, (by (with_reducible repeat (first | apply Kd.R_alloc | apply Kd.R_drewN | apply Kd.R_drew)); exact Kd.R_mono HO240.out (fun _ hk => trivial)), (by (with_reducible repeat (first | apply Kd.R_alloc | apply Kd.R_drewN | apply Kd.R_drew)); exact HO243.out), z9_1_⟩
   ·
    replace c11 := Bool.eq_false_iff.mpr c11
    subst c11
    have H1 := H; rw [if_neg (show ¬ (false = true) by decide)] at H1
    clear H
    have H := H1
    clear H1
    replace H := Option.bind_eq_some_iff.mp H
    obtain ⟨⟨t244, t247⟩, A160, H⟩ := H
    try dsimp only at H
    have A16 := A_ A160
    clear A160
    by_cases c17 : t247 = 0
    ·
     rw [if_pos c17] at H
     have c17b0 := beq_iff_eq.mpr c17
     have c17b1 := bne_eq_false_iff_eq.mpr c17
     clear c17
     replace H := Option.bind_eq_some_iff.mp H
     obtain ⟨t254, A180, H⟩ := H
     try dsimp only at H
     have A18 := A_ A180
     clear A180
     replace H := Option.bind_eq_some_iff.mp H
     obtain ⟨t255, A190, H⟩ := H
     try dsimp only at H
     have A19 := A_ A190
     clear A190
     obtain ⟨y258, hy258⟩ : ∃ y_ : List (S124), y_ = (([] : List (S124))) := ⟨_, rfl⟩
     replace H : (spec_KeptAfter.l0 kj3 l1 t244 t254 t255 y258 0) = some (r1, r2, r3) := by first | (rw [hy258]; with_reducible exact H) | (have H2_ := (Option.bind_some _ _).symm.trans H; rw [hy258]; with_reducible exact H2_) | (have H2_ := (Option.bind_some _ _).symm.trans H; with_reducible exact H2_) | with_reducible exact H | (rw [hy258]; exact H) | exact H
     have Ny258 := A_ hy258
     clear hy258
     have H' := A_ H
     clear H
     obtain ⟨hcz20_0, hcz20_1, hcz20_2, hcz20_3, hcz20_4, hcz20_5⟩ := bc6 BK235.out
     obtain ⟨hfz20_0, hfz20_1, hfz20_2, hfz20_3, hfz20_4, hfz20_5⟩ := bf6 BK235.out
     go_wp2_with (first | ((with_reducible refine gate_callee (f := 77) rfl ?_); refine goesL_ (some 30) rfl rfl Try.func77 (by kernel_rfl) rfl #[.slice A0 l0.length c0, .agg #[.string a2_0, .int .i8 a2_1, .string a2_2, .string a2_3, .int .i64 a2_4, .int .i64 a2_5]] rfl z9_3_ ?_; (with_reducible refine (spec_l07Write.calls kj3 _ _ l0 a2_0 a2_1 a2_2 a2_3 a2_4 a2_5 t244 t247 _ ?side1 ?side2 A16.out).mono ?_); (case side1 => have hx_ := (Kd.C_below HR0.out HB.out); exact kc_); (case side2 => exact HC0.out); rintro e w21 ⟨v245, rfl, ho0, hb⟩; refine ⟨_, rfl, ?_⟩; have _ := A_ (Kd.R_lower (Kd.R_newB ho0 (g := gb235) (o := .cells #[.string a2_0, .int .i8 a2_1, .string a2_2, .string a2_3, .int .i64 a2_4, .int .i64 a2_5] 45 (0, 0)) z9_4_) (below_size z9_1_)); have _ := A_ (blk_below (g := gb235) (o := .cells #[.string a2_0, .int .i8 a2_1, .string a2_2, .string a2_3, .int .i64 a2_4, .int .i64 a2_5] 45 (0, 0)) z9_4_ hb); have _ := A_ (below_step z9_1_ hb); clear BK235 HB; rename_i HO246 BK235 HB; (try clear hb); (try clear ho0); obtain ⟨hcz22_0, hcz22_1, hcz22_2, hcz22_3, hcz22_4, hcz22_5⟩ := bc6 BK235.out; obtain ⟨hfz22_0, hfz22_1, hfz22_2, hfz22_3, hfz22_4, hfz22_5⟩ := bf6 BK235.out; obtain ⟨Ao23, co23, eo23⟩ := Kd.R_slice HO246.out; subst eo23) | ((with_reducible refine gate_callee (f := 89) rfl ?_); refine goesL_ (some 41) rfl rfl Try.func89 (by kernel_rfl) rfl #[.slice Ao23 t244.length co23, .string a2_0] rfl z9_3_ ?_; (with_reducible refine (spec_l07Find.calls kj3 _ _ t244 a2_0 t254 _ ?side1 ?side2 A18.out).mono ?_); (case side1 => have hx_ := (Kd.R_reads' HO246.out).2.2; exact kc_); (case side2 => exact (Kd.R_reads' HO246.out).2.1); rintro e w' ⟨rfl, ⟨nd, rfl⟩⟩; refine ⟨_, rfl, ?_⟩) | ((with_reducible refine gate_callee (f := 86) rfl ?_); refine goesL_ (some 44) rfl rfl Try.func86 (by kernel_rfl) rfl #[.slice Ao23 t244.length co23, .int .i64 t254] rfl z9_3_ ?_; (with_reducible refine (spec_l07Users.calls kj3 _ _ t244 t254 t255 _ ?side1 ?side2 A19.out).mono ?_); (case side1 => have hx_ := (Kd.R_reads' HO246.out).2.2; exact kc_); (case side2 => exact (Kd.R_reads' HO246.out).2.1); rintro e w24 ⟨v256, rfl, ho0, hb⟩; refine ⟨_, rfl, ?_⟩; have _ := A_ (Kd.R_below z9_10_ hb); have _ := A_ (Kd.R_lower ho0 (below_size z9_1_)); have _ := A_ (blk_below (g := gb235) (o := .cells #[.string a2_0, .int .i8 a2_1, .string a2_2, .string a2_3, .int .i64 a2_4, .int .i64 a2_5] 45 (0, 0)) z9_4_ hb); have _ := A_ (below_step z9_1_ hb); clear HO246 BK235 HB; rename_i HO246 HO257 BK235 HB; (try clear hb); (try clear ho0)) | ((with_reducible refine gate_dst (N := 45) rfl ?_); refine Kd.R_lit k124 _ 124 ?hg (N := 45) ?hd (xs := ([] : List (S124))) (inner := []) (ok := fun _ => True) (okp := fun _ => True) ?hr ?hp (fun _ hk => hk) trivial (Below.refl _ _) (Nat.le_refl _) (by simp) ?_; (case hd => rfl); (case hg => rfl); (case hr => first | (go_simp; done) | (go_simp; rfl)); (case hp => exact (Reps.none _ _)); intro v259 w25 ho26 hb hg_ hnew_; clear hg_ hnew_; (first | rw [← Ny258.out] at ho26 | (simp only [Int.reduceToNat] at ho26; rw [← Ny258.out] at ho26)); have _ := A_ (Kd.R_below z9_10_ hb); have _ := A_ (Kd.R_below z9_16_ hb); have _ := A_ (Kd.R_lower ho26 (below_size z9_1_)); have _ := A_ (blk_below (g := gb235) (o := .cells #[.string a2_0, .int .i8 a2_1, .string a2_2, .string a2_3, .int .i64 a2_4, .int .i64 a2_5] 45 (0, 0)) z9_4_ hb); have _ := A_ (below_step z9_1_ hb); clear HO246 HO257 BK235 HB; rename_i HO246 HO257 HO260 BK235 HB; clear hb ho26))
     go_loopg [13, 14] kj3 (fun kq v13 v14 w' => ∃ (x13_2 : List (S124)) (x14_2 : Int), v14 = .int .i64 x14_2 ∧ Aside0 (spec_KeptAfter.l0 kq l1 t244 t254 t255 x13_2 x14_2 = some (r1, r2, r3)) ∧ Aside0 (kq ≤ kj3) ∧ Aside0 (Kd.R k45 45 w' w.heap.size (fun k_ => k_ ≠ gb235) (.slice Ao23 t244.length co23) t244) ∧ Aside0 (Kd.R Kd.bool 4 w' w.heap.size (fun _ => True) v256 t255) ∧ Aside0 (Kd.R k124 124 w' w.heap.size (fun _ => True) v13 x13_2) ∧ Aside0 (w'.heap[gb235]? = some (.cells #[.string a2_0, .int .i8 a2_1, .string a2_2, .string a2_3, .int .i64 a2_4, .int .i64 a2_5] 45 (0, 0))) ∧ Aside0 (Below w.heap.size w w'))
     case atStart => exact ⟨(y258), (0), z9_6_, H', ⟨Nat.le_refl _⟩, ⟨(by (with_reducible repeat (first | apply Kd.R_alloc | apply Kd.R_drewN | apply Kd.R_drew)); exact Kd.R_mono HO246.out (fun _ hk => hk.2))⟩, ⟨z9_16_⟩, ⟨(by (with_reducible repeat (first | apply Kd.R_alloc | apply Kd.R_drewN | apply Kd.R_drew)); exact HO260.out)⟩, ⟨z9_4_⟩, ⟨z9_1_⟩⟩
     case round =>
      clear H'
      try clear c1
      try clear p2
      try clear c5
      try clear c6
      try clear c7
      try clear c8
      try clear c11
      try clear c17
      try clear c17b0
      try clear c17b1
      try clear hcz20_0
      try clear hcz20_1
      try clear hcz20_2
      try clear hcz20_3
      try clear hcz20_4
      try clear hcz20_5
      try clear hcz22_0
      try clear hcz22_1
      try clear hcz22_2
      try clear hcz22_3
      try clear hcz22_4
      try clear hcz22_5
      try clear hfz20_0
      try clear hfz20_1
      try clear hfz20_2
      try clear hfz20_3
      try clear hfz20_4
      try clear hfz20_5
      try clear hfz22_0
      try clear hfz22_1
      try clear hfz22_2
      try clear hfz22_3
      try clear hfz22_4
      try clear hfz22_5
      try clear p2
      obtain ⟨x13_2, x14_2, rfl, HA, HK2, HO_9, HO_12, HO_13, BK235, HB⟩ := hrel
      cases gk with
      | zero => exact absurd HA.out (by simp [spec_KeptAfter.l0])
      | succ k2 =>
       have H := HA.out
       clear HA
       simp only [spec_KeptAfter.l0] at H
       by_cases c27 : x14_2 < (l1.length : Int)
       ·
        rw [if_pos c27] at H
        have c27b0 := decide_eq_true c27
        clear c27
        by_cases c28 : 0 ≤ x14_2
        ·
         rw [if_pos c28] at H
         have c28b0 := decide_eq_true c28
         clear c28
         replace H := Option.bind_eq_some_iff.mp H
         obtain ⟨t262, A290, H⟩ := H
         try dsimp only at H
         have A29 := A_ A290
         clear A290
         by_cases c30 : t262 = t254
         ·
          rw [if_pos c30] at H
          have c30b0 := beq_iff_eq.mpr c30
          have c30b1 := bne_eq_false_iff_eq.mpr c30
          clear c30
          have H' := A_ H
          clear H
          have p261 : 0 ≤ (x14_2 : Int) := of_decide_eq_true (by assumption)
          have q261 : x14_2 < (l1.length : Int) := of_decide_eq_true (by assumption)
          obtain ⟨ad261, e261, hx261_0, hx261_1, hx261_2, hx261_3, hx261_4, hx261_5, hx261_6, hx261_7, hx261_8⟩ := at_T124 HR1.out x14_2 p261 q261
          cases e261
          replace hx261_0 := cel HB.out hx261_0
          replace hx261_1 := cel HB.out hx261_1
          replace hx261_2 := cel HB.out hx261_2
          replace hx261_3 := cel HB.out hx261_3
          replace hx261_4 := cel HB.out hx261_4
          replace hx261_5 := cel HB.out hx261_5
          replace hx261_6 := cel HB.out hx261_6
          replace hx261_7 := cel HB.out hx261_7
          replace hx261_8 := cel HB.out hx261_8
          replace p261 := eq_true p261
          replace q261 := eq_true q261
          go_wp2_with (first | ((with_reducible refine gate_callee (f := 89) rfl ?_); refine goesL_ (some 58) rfl rfl Try.func89 (by kernel_rfl) rfl #[.slice Ao23 t244.length co23, .string ((rd_T124 l1 x14_2).f0)] rfl z9_3_ ?_; (with_reducible refine (spec_l07Find.calls k2 _ _ t244 ((rd_T124 l1 x14_2).f0) t262 _ ?side1 ?side2 A29.out).mono ?_); (case side1 => have hx_ := (Kd.R_reads' HO_9.out).2.2; exact kc_); (case side2 => exact (Kd.R_reads' HO_9.out).2.1); rintro e w' ⟨rfl, ⟨nd, rfl⟩⟩; refine ⟨_, rfl, ?_⟩))
          go_roundg k2
          case measure => have := HJ3.out; have := HK2.out; omega
          case rel => exact ⟨(x13_2), (wrap64 (x14_2 + 1)), z9_6_, H', ⟨(by have := HJ3.out; have := HK2.out; omega)⟩, ⟨z9_12_⟩, ⟨z9_11_⟩, ⟨z9_9_⟩, ⟨z9_4_⟩, ⟨z9_1_⟩⟩
         ·
          rw [if_neg c30] at H
          have c30b0 : (t262 == t254) = false := beq_eq_false_iff_ne.mpr c30
          have c30b1 : (t262 != t254) = true := bne_iff_ne.mpr c30
          by_cases c31 : 0 ≤ t262
          ·
           rw [if_pos c31] at H
           have c31b0 := decide_eq_true c31
           clear c31
           by_cases c32 : t262 < (t255.length : Int)
           ·
            rw [if_pos c32] at H
            have c32b0 := decide_eq_true c32
            clear c32
            obtain ⟨bq33, hbq33⟩ : ∃ b_ : Bool, b_ = (rdOf false t255 t262) := ⟨_, rfl⟩
            replace H : (if bq33 = true then (spec_KeptAfter.l0 k2 l1 t244 t254 t255 x13_2 (wrap64 (x14_2 + 1))) else (if x13_2.length < 2513169434916 then (spec_KeptAfter.l0 k2 l1 t244 t254 t255 (x13_2 ++ [(⟨(rd_T124 l1 x14_2).f0, (rd_T124 l1 x14_2).f1, (⟨(rd_T124 l1 x14_2).f2.f0, (⟨(rd_T124 l1 x14_2).f2.f1.f0, (rd_T124 l1 x14_2).f2.f1.f1, (rd_T124 l1 x14_2).f2.f1.f2, (rd_T124 l1 x14_2).f2.f1.f3, (rd_T124 l1 x14_2).f2.f1.f4, (rd_T124 l1 x14_2).f2.f1.f5⟩ : S116)⟩ : S122)⟩ : S124)]) (wrap64 (x14_2 + 1))) else (none))) = some (r1, r2, r3) := by rw [← hbq33] at H; exact H
            have Nbq33 := A_ hbq33
            clear hbq33
            by_cases c34 : bq33 = true
            ·
             subst c34
             have H1 := H; rw [if_pos rfl] at H1
             clear H
             have H := H1
             clear H1
             have H' := A_ H
             clear H
             have p261 : 0 ≤ (x14_2 : Int) := of_decide_eq_true (by assumption)
             have q261 : x14_2 < (l1.length : Int) := of_decide_eq_true (by assumption)
             obtain ⟨ad261, e261, hx261_0, hx261_1, hx261_2, hx261_3, hx261_4, hx261_5, hx261_6, hx261_7, hx261_8⟩ := at_T124 HR1.out x14_2 p261 q261
             (try rw [← Nbq33.out] at hx261_2)
             cases e261
             replace hx261_0 := cel HB.out hx261_0
             replace hx261_1 := cel HB.out hx261_1
             replace hx261_2 := cel HB.out hx261_2
             replace hx261_3 := cel HB.out hx261_3
             replace hx261_4 := cel HB.out hx261_4
             replace hx261_5 := cel HB.out hx261_5
             replace hx261_6 := cel HB.out hx261_6
             replace hx261_7 := cel HB.out hx261_7
             replace hx261_8 := cel HB.out hx261_8
             replace p261 := eq_true p261
             replace q261 := eq_true q261
             go_wp2_with (first | ((with_reducible refine gate_callee (f := 89) rfl ?_); refine goesL_ (some 58) rfl rfl Try.func89 (by kernel_rfl) rfl #[.slice Ao23 t244.length co23, .string ((rd_T124 l1 x14_2).f0)] rfl z9_3_ ?_; (with_reducible refine (spec_l07Find.calls k2 _ _ t244 ((rd_T124 l1 x14_2).f0) t262 _ ?side1 ?side2 A29.out).mono ?_); (case side1 => have hx_ := (Kd.R_reads' HO_9.out).2.2; exact kc_); (case side2 => exact (Kd.R_reads' HO_9.out).2.1); rintro e w' ⟨rfl, ⟨nd, rfl⟩⟩; refine ⟨_, rfl, ?_⟩; obtain ⟨Ao35, co35, eo35⟩ := Kd.R_slice HO_12.out; subst eo35; have p263 : 0 ≤ (t262 : Int) := of_decide_eq_true (by assumption); have q263 : t262 < (t255.length : Int) := of_decide_eq_true (by assumption); obtain ⟨ad263, e263, hx263_0⟩ := Kd.at_bool (Kd.R_reads' HO_12.out).2.2 t262 p263 q263; (try rw [← Nbq33.out] at hx263_0); cases e263; replace p263 := eq_true p263; replace q263 := eq_true q263))
             go_roundg k2
             case measure => have := HJ3.out; have := HK2.out; omega
             case rel => exact ⟨(x13_2), (wrap64 (x14_2 + 1)), z9_6_, H', ⟨(by have := HJ3.out; have := HK2.out; omega)⟩, ⟨z9_12_⟩, ⟨z9_11_⟩, ⟨z9_9_⟩, ⟨z9_4_⟩, ⟨z9_1_⟩⟩
            ·
             replace c34 := Bool.eq_false_iff.mpr c34
             subst c34
             have H1 := H; rw [if_neg (show ¬ (false = true) by decide)] at H1
             clear H
             have H := H1
             clear H1
             by_cases c36 : x13_2.length < 2513169434916
             ·
              rw [if_pos c36] at H
              have LMc36 := A_ c36
              clear c36
              obtain ⟨y265, hy265⟩ : ∃ y_ : List (S124), y_ = (x13_2 ++ [(⟨(rd_T124 l1 x14_2).f0, (rd_T124 l1 x14_2).f1, (⟨(rd_T124 l1 x14_2).f2.f0, (⟨(rd_T124 l1 x14_2).f2.f1.f0, (rd_T124 l1 x14_2).f2.f1.f1, (rd_T124 l1 x14_2).f2.f1.f2, (rd_T124 l1 x14_2).f2.f1.f3, (rd_T124 l1 x14_2).f2.f1.f4, (rd_T124 l1 x14_2).f2.f1.f5⟩ : S116)⟩ : S122)⟩ : S124)]) := ⟨_, rfl⟩
              replace H : (spec_KeptAfter.l0 k2 l1 t244 t254 t255 y265 (wrap64 (x14_2 + 1))) = some (r1, r2, r3) := by first | (rw [hy265]; with_reducible exact H) | (have H2_ := (Option.bind_some _ _).symm.trans H; rw [hy265]; with_reducible exact H2_) | (have H2_ := (Option.bind_some _ _).symm.trans H; with_reducible exact H2_) | with_reducible exact H | (rw [hy265]; exact H) | exact H
              have Ny265 := A_ hy265
              clear hy265
              have H' := A_ H
              clear H
              have p261 : 0 ≤ (x14_2 : Int) := of_decide_eq_true (by assumption)
              have q261 : x14_2 < (l1.length : Int) := of_decide_eq_true (by assumption)
              obtain ⟨ad261, e261, hx261_0, hx261_1, hx261_2, hx261_3, hx261_4, hx261_5, hx261_6, hx261_7, hx261_8⟩ := at_T124 HR1.out x14_2 p261 q261
              (try rw [← Nbq33.out] at hx261_2)
              cases e261
              replace hx261_0 := cel HB.out hx261_0
              replace hx261_1 := cel HB.out hx261_1
              replace hx261_2 := cel HB.out hx261_2
              replace hx261_3 := cel HB.out hx261_3
              replace hx261_4 := cel HB.out hx261_4
              replace hx261_5 := cel HB.out hx261_5
              replace hx261_6 := cel HB.out hx261_6
              replace hx261_7 := cel HB.out hx261_7
              replace hx261_8 := cel HB.out hx261_8
              replace p261 := eq_true p261
              replace q261 := eq_true q261
              go_wp2_with (first | ((with_reducible refine gate_callee (f := 89) rfl ?_); refine goesL_ (some 58) rfl rfl Try.func89 (by kernel_rfl) rfl #[.slice Ao23 t244.length co23, .string ((rd_T124 l1 x14_2).f0)] rfl z9_3_ ?_; (with_reducible refine (spec_l07Find.calls k2 _ _ t244 ((rd_T124 l1 x14_2).f0) t262 _ ?side1 ?side2 A29.out).mono ?_); (case side1 => have hx_ := (Kd.R_reads' HO_9.out).2.2; exact kc_); (case side2 => exact (Kd.R_reads' HO_9.out).2.1); rintro e w' ⟨rfl, ⟨nd, rfl⟩⟩; refine ⟨_, rfl, ?_⟩; obtain ⟨Ao37, co37, eo37⟩ := Kd.R_slice HO_12.out; subst eo37; have p263 : 0 ≤ (t262 : Int) := of_decide_eq_true (by assumption); have q263 : t262 < (t255.length : Int) := of_decide_eq_true (by assumption); obtain ⟨ad263, e263, hx263_0⟩ := Kd.at_bool (Kd.R_reads' HO_12.out).2.2 t262 p263 q263; (try rw [← Nbq33.out] at hx263_0); cases e263; replace p263 := eq_true p263; replace q263 := eq_true q263; have p264 : 0 ≤ (x14_2 : Int) := of_decide_eq_true (by assumption); have q264 : x14_2 < (l1.length : Int) := of_decide_eq_true (by assumption); obtain ⟨ad264, e264, hx264_0, hx264_1, hx264_2, hx264_3, hx264_4, hx264_5, hx264_6, hx264_7, hx264_8⟩ := at_T124 HR1.out x14_2 p264 q264; (try rw [← Nbq33.out] at hx264_2); obtain rfl : ad261 = ad264 := (by injection e264); replace hx264_0 := cel HB.out hx264_0; replace hx264_1 := cel HB.out hx264_1; replace hx264_2 := cel HB.out hx264_2; replace hx264_3 := cel HB.out hx264_3; replace hx264_4 := cel HB.out hx264_4; replace hx264_5 := cel HB.out hx264_5; replace hx264_6 := cel HB.out hx264_6; replace hx264_7 := cel HB.out hx264_7; replace hx264_8 := cel HB.out hx264_8; replace p264 := eq_true p264; replace q264 := eq_true q264) | ((with_reducible refine gate_builtin (b := .append) (xs := #[.tmp 69, .tmp 74]) rfl ?_); at_builtin; refine Kd.R_append k124 (w0 := w) w.heap.size rfl (.tmp 69) (.tmp 74) 69 124 (.agg #[(.string ⟨#[]⟩), (.int .i64 0), (.bool false), (.int .u32 0), (.int .u32 0), (.int .u32 0), (.int .u32 0), (.int .u32 0), (.int .u32 0)]) 56 rfl Try.underlying69 info124 rfl (by decide) (by omega) u13 x13_2 (⟨(rd_T124 l1 x14_2).f0, (rd_T124 l1 x14_2).f1, (⟨(rd_T124 l1 x14_2).f2.f0, (⟨(rd_T124 l1 x14_2).f2.f1.f0, (rd_T124 l1 x14_2).f2.f1.f1, (rd_T124 l1 x14_2).f2.f1.f2, (rd_T124 l1 x14_2).f2.f1.f3, (rd_T124 l1 x14_2).f2.f1.f4, (rd_T124 l1 x14_2).f2.f1.f5⟩ : S116)⟩ : S122)⟩ : S124) [.string ((rd_T124 l1 x14_2).f0), .int .i64 ((rd_T124 l1 x14_2).f1), .bool ((rd_T124 l1 x14_2).f2.f0), .int .u32 ((rd_T124 l1 x14_2).f2.f1.f0), .int .u32 ((rd_T124 l1 x14_2).f2.f1.f1), .int .u32 ((rd_T124 l1 x14_2).f2.f1.f2), .int .u32 ((rd_T124 l1 x14_2).f2.f1.f3), .int .u32 ((rd_T124 l1 x14_2).f2.f1.f4), .int .u32 ((rd_T124 l1 x14_2).f2.f1.f5)] (fun _ => True) (fun _ => False) rfl rfl ?aP (fun _ hk => hk.elim) ?aF ?aO ?aB ?aS ?aL ?_; (case aP => exact k124_mkM _ _ _ (⟨(rd_T124 l1 x14_2).f0, (rd_T124 l1 x14_2).f1, (⟨(rd_T124 l1 x14_2).f2.f0, (⟨(rd_T124 l1 x14_2).f2.f1.f0, (rd_T124 l1 x14_2).f2.f1.f1, (rd_T124 l1 x14_2).f2.f1.f2, (rd_T124 l1 x14_2).f2.f1.f3, (rd_T124 l1 x14_2).f2.f1.f4, (rd_T124 l1 x14_2).f2.f1.f5⟩ : S116)⟩ : S122)⟩ : S124)); (case aB => exact z9_1_); (case aF => exact (fun _ _ => trivial)); (case aO => exact z9_9_); (case aS => exact (below_size z9_1_)); (case aL => have := LMc36.out; omega); intro v266 w38 ho hb hg hat; rw [← Ny265.out] at ho; have _ := A_ (Kd.R_over' z9_12_ (Kd.R_typed z9_9_) (by decide) hg); have _ := A_ (Kd.R_over' z9_11_ (Kd.R_typed z9_9_) (by decide) hg); have _ := A_ (blk_grown (g := gb235) (o := .cells #[.string a2_0, .int .i8 a2_1, .string a2_2, .string a2_3, .int .i64 a2_4, .int .i64 a2_5] 45 (0, 0)) z9_4_ hg (Kd.R_ne HO_13.out BK235.out (by decide))); have _ := A_ (hb); have _ := A_ (ho); clear HO_9 HO_12 BK235 HB HO_13; rename_i HO_9 HO_12 BK235 HB HO267; clear ho hb hg hat))
              go_roundg k2
              case measure => have := HJ3.out; have := HK2.out; omega
              case rel => exact ⟨(y265), (wrap64 (x14_2 + 1)), z9_6_, H', ⟨(by have := HJ3.out; have := HK2.out; omega)⟩, ⟨z9_12_⟩, ⟨z9_11_⟩, ⟨(by (with_reducible repeat (first | apply Kd.R_alloc | apply Kd.R_drewN | apply Kd.R_drew)); exact HO267.out)⟩, ⟨z9_4_⟩, ⟨z9_1_⟩⟩
             ·
              rw [if_neg c36] at H
              exact absurd H (by simp)
           ·
            rw [if_neg c32] at H
            exact absurd H (by simp)
          ·
           rw [if_neg c31] at H
           exact absurd H (by simp)
        ·
         rw [if_neg c28] at H
         exact absurd H (by simp)
       ·
        rw [if_neg c27] at H
        have c27b0 := decide_eq_false c27
        clear c27
        simp only [Option.some.injEq, Prod.mk.injEq] at H
        obtain ⟨rfl, rfl, rfl⟩ := H
        go_wp2
        go_ret3
        exact ⟨_, _, z9_8_, (by (with_reducible repeat (first | apply Kd.R_alloc | apply Kd.R_drewN | apply Kd.R_drew)); exact Kd.R_mono HO_9.out (fun _ hk => trivial)), z9_9_, z9_1_⟩
    ·
     rw [if_neg c17] at H
     have c17b0 : (t247 == 0) = false := beq_eq_false_iff_ne.mpr c17
     have c17b1 : (t247 != 0) = true := bne_iff_ne.mpr c17
     obtain ⟨y248, hy248⟩ : ∃ y_ : List (S45), y_ = (([] : List (S45))) := ⟨_, rfl⟩
     replace H : (some (y248, (([] : List (S124))), t247)) = some (r1, r2, r3) := by first | (rw [hy248]; with_reducible exact H) | (have H2_ := (Option.bind_some _ _).symm.trans H; rw [hy248]; with_reducible exact H2_) | (have H2_ := (Option.bind_some _ _).symm.trans H; with_reducible exact H2_) | with_reducible exact H | (rw [hy248]; exact H) | exact H
     have Ny248 := A_ hy248
     clear hy248
     obtain ⟨y251, hy251⟩ : ∃ y_ : List (S124), y_ = (([] : List (S124))) := ⟨_, rfl⟩
     replace H : (some (y248, y251, t247)) = some (r1, r2, r3) := by first | (rw [hy251]; with_reducible exact H) | (have H2_ := (Option.bind_some _ _).symm.trans H; rw [hy251]; with_reducible exact H2_) | (have H2_ := (Option.bind_some _ _).symm.trans H; with_reducible exact H2_) | with_reducible exact H | (rw [hy251]; exact H) | exact H
     have Ny251 := A_ hy251
     clear hy251
     simp only [Option.some.injEq, Prod.mk.injEq] at H
     obtain ⟨rfl, rfl, rfl⟩ := H
     obtain ⟨hcz39_0, hcz39_1, hcz39_2, hcz39_3, hcz39_4, hcz39_5⟩ := bc6 BK235.out
     obtain ⟨hfz39_0, hfz39_1, hfz39_2, hfz39_3, hfz39_4, hfz39_5⟩ := bf6 BK235.out
     go_wp2_with (first | ((with_reducible refine gate_callee (f := 77) rfl ?_); refine goesL_ (some 30) rfl rfl Try.func77 (by kernel_rfl) rfl #[.slice A0 l0.length c0, .agg #[.string a2_0, .int .i8 a2_1, .string a2_2, .string a2_3, .int .i64 a2_4, .int .i64 a2_5]] rfl z9_3_ ?_; (with_reducible refine (spec_l07Write.calls kj3 _ _ l0 a2_0 a2_1 a2_2 a2_3 a2_4 a2_5 t244 t247 _ ?side1 ?side2 A16.out).mono ?_); (case side1 => have hx_ := (Kd.C_below HR0.out HB.out); exact kc_); (case side2 => exact HC0.out); rintro e w40 ⟨v245, rfl, ho0, hb⟩; refine ⟨_, rfl, ?_⟩; have _ := A_ (Kd.R_lower (Kd.R_newB ho0 (g := gb235) (o := .cells #[.string a2_0, .int .i8 a2_1, .string a2_2, .string a2_3, .int .i64 a2_4, .int .i64 a2_5] 45 (0, 0)) z9_4_) (below_size z9_1_)); have _ := A_ (blk_below (g := gb235) (o := .cells #[.string a2_0, .int .i8 a2_1, .string a2_2, .string a2_3, .int .i64 a2_4, .int .i64 a2_5] 45 (0, 0)) z9_4_ hb); have _ := A_ (below_step z9_1_ hb); clear BK235 HB; rename_i HO246 BK235 HB; (try clear hb); (try clear ho0)) | ((with_reducible refine gate_dst (N := 35) rfl ?_); refine Kd.R_lit k45 _ 45 ?hg (N := 35) ?hd (xs := ([] : List (S45))) (inner := []) (ok := fun _ => True) (okp := fun _ => True) ?hr ?hp (fun _ hk => hk) trivial (Below.refl _ _) (Nat.le_refl _) (by simp) ?_; (case hd => rfl); (case hg => rfl); (case hr => first | (go_simp; done) | (go_simp; rfl)); (case hp => exact (Reps.none _ _)); intro v249 w41 ho42 hb hg_ hnew_; clear hg_ hnew_; (first | rw [← Ny248.out] at ho42 | (simp only [Int.reduceToNat] at ho42; rw [← Ny248.out] at ho42)); have _ := A_ (Kd.R_elder' z9_10_ (Kd.R_base ho42) hb); have _ := A_ (Kd.R_lower (Kd.R_newB (Kd.R_new' ho42 (Kd.R_lt z9_10_)) (g := gb235) (o := .cells #[.string a2_0, .int .i8 a2_1, .string a2_2, .string a2_3, .int .i64 a2_4, .int .i64 a2_5] 45 (0, 0)) z9_4_) (below_size z9_1_)); have _ := A_ (blk_below (g := gb235) (o := .cells #[.string a2_0, .int .i8 a2_1, .string a2_2, .string a2_3, .int .i64 a2_4, .int .i64 a2_5] 45 (0, 0)) z9_4_ hb); have _ := A_ (below_step z9_1_ hb); clear HO246 BK235 HB; rename_i HO246 HO250 BK235 HB; clear hb ho42) | ((with_reducible refine gate_dst (N := 36) rfl ?_); refine Kd.R_lit k124 _ 124 ?hg (N := 36) ?hd (xs := ([] : List (S124))) (inner := []) (ok := fun _ => True) (okp := fun _ => True) ?hr ?hp (fun _ hk => hk) trivial (Below.refl _ _) (Nat.le_refl _) (by simp) ?_; (case hd => rfl); (case hg => rfl); (case hr => first | (go_simp; done) | (go_simp; rfl)); (case hp => exact (Reps.none _ _)); intro v252 w43 ho44 hb hg_ hnew_; clear hg_ hnew_; (first | rw [← Ny251.out] at ho44 | (simp only [Int.reduceToNat] at ho44; rw [← Ny251.out] at ho44)); have _ := A_ (Kd.R_below z9_10_ hb); have _ := A_ (Kd.R_below (by (with_reducible repeat (first | apply Kd.R_alloc | apply Kd.R_drewN | apply Kd.R_drew)); exact HO250.out) hb); have _ := A_ (Kd.R_lower ho44 (below_size z9_1_)); have _ := A_ (blk_below (g := gb235) (o := .cells #[.string a2_0, .int .i8 a2_1, .string a2_2, .string a2_3, .int .i64 a2_4, .int .i64 a2_5] 45 (0, 0)) z9_4_ hb); have _ := A_ (below_step z9_1_ hb); clear HO246 HO250 BK235 HB; rename_i HO246 HO250 HO253 BK235 HB; clear hb ho44))
     go_ret3
     exact ⟨_, _, z9_8_, (by (with_reducible repeat (first | apply Kd.R_alloc | apply Kd.R_drewN | apply Kd.R_drew)); exact Kd.R_mono HO250.out (fun _ hk => trivial)), (by (with_reducible repeat (first | apply Kd.R_alloc | apply Kd.R_drewN | apply Kd.R_drew)); exact HO253.out), z9_1_⟩
/-! ### impl_linesOk: function 65 -/
mutual
def impl_linesOk.l0 : Nat → List (S45) → List (S45) → Int → Int → Option (Bool)
 | 0, _, _, _, _ => none
 | k + 1, x0, x10, x11, x12 => if x12 < x11 then (if 0 ≤ x12 then (if x12 < (x10.length : Int) then ((impl_uses.f k ((rd_T45 x10 x12).f1)).bind fun bt329 => ((impl_lineName.f k ((rd_T45 x10 x12).f0)).bind fun t332 => (if t332 = true then ((impl_lineOf.f x0 ((rd_T45 x10 x12).f0)).bind fun t333 => (if t333 = x12 then (if ((rd_T45 x10 x12).f1) < 1 then (impl_linesOk.j1 k x0 bt329.1 bt329.2.1 x10 x11 x12 true ((rd_T45 x10 x12).f0) ((rd_T45 x10 x12).f1) ((rd_T45 x10 x12).f2) ((rd_T45 x10 x12).f3) ((rd_T45 x10 x12).f4) ((rd_T45 x10 x12).f5)) else (if ((rd_T45 x10 x12).f1) > 12 then (impl_linesOk.j1 k x0 bt329.1 bt329.2.1 x10 x11 x12 true ((rd_T45 x10 x12).f0) ((rd_T45 x10 x12).f1) ((rd_T45 x10 x12).f2) ((rd_T45 x10 x12).f3) ((rd_T45 x10 x12).f4) ((rd_T45 x10 x12).f5)) else ((impl_ratioOk.f ((rd_T45 x10 x12).f1) ((rd_T45 x10 x12).f4) ((rd_T45 x10 x12).f5)).bind fun t334 => (impl_linesOk.j1 k x0 bt329.1 bt329.2.1 x10 x11 x12 (!t334) ((rd_T45 x10 x12).f0) ((rd_T45 x10 x12).f1) ((rd_T45 x10 x12).f2) ((rd_T45 x10 x12).f3) ((rd_T45 x10 x12).f4) ((rd_T45 x10 x12).f5))))) else (impl_linesOk.j1 k x0 bt329.1 bt329.2.1 x10 x11 x12 true ((rd_T45 x10 x12).f0) ((rd_T45 x10 x12).f1) ((rd_T45 x10 x12).f2) ((rd_T45 x10 x12).f3) ((rd_T45 x10 x12).f4) ((rd_T45 x10 x12).f5)))) else (impl_linesOk.j1 k x0 bt329.1 bt329.2.1 x10 x11 x12 true ((rd_T45 x10 x12).f0) ((rd_T45 x10 x12).f1) ((rd_T45 x10 x12).f2) ((rd_T45 x10 x12).f3) ((rd_T45 x10 x12).f4) ((rd_T45 x10 x12).f5))))) else (none)) else (none)) else (some true)
def impl_linesOk.j1 : Nat → List (S45) → Bool → Bool → List (S45) → Int → Int → Bool → ByteArray → Int → ByteArray → ByteArray → Int → Int → Option (Bool)
 | 0, _, _, _, _, _, _, _, _, _, _, _, _, _ => none
 | k + 1, x0, x5, x6, x10, x11, x12, x55, x329000, x329001, x329002, x329003, x329004, x329005 => if x55 = true then (some false) else (if x5 = true then (if x6 = true then (impl_linesOk.j2 k x0 x10 x11 x12 false x329000 x329001 x329002 x329003 x329004 x329005) else (impl_linesOk.j2 k x0 x10 x11 x12 (x329003.toList != ([] : List UInt8)) x329000 x329001 x329002 x329003 x329004 x329005)) else (if x329002.toList = ([] : List UInt8) then (if x6 = true then (impl_linesOk.j2 k x0 x10 x11 x12 false x329000 x329001 x329002 x329003 x329004 x329005) else (impl_linesOk.j2 k x0 x10 x11 x12 (x329003.toList != ([] : List UInt8)) x329000 x329001 x329002 x329003 x329004 x329005)) else (impl_linesOk.j2 k x0 x10 x11 x12 true x329000 x329001 x329002 x329003 x329004 x329005)))
def impl_linesOk.j2 : Nat → List (S45) → List (S45) → Int → Int → Bool → ByteArray → Int → ByteArray → ByteArray → Int → Int → Option (Bool)
 | 0, _, _, _, _, _, _, _, _, _, _, _ => none
 | k + 1, x0, x10, x11, x12, x71, x329000, x329001, x329002, x329003, x329004, x329005 => if x71 = true then (some false) else ((impl_Line_used.f k [(⟨x329000, x329001, x329002, x329003, x329004, x329005⟩ : S45)]).bind fun t336 => (impl_linesOk.l1 k x0 x10 x11 x12 t336 (t336.length : Int) 0))
def impl_linesOk.l1 : Nat → List (S45) → List (S45) → Int → Int → List ByteArray → Int → Int → Option (Bool)
 | 0, _, _, _, _, _, _, _ => none
 | k + 1, x0, x10, x11, x12, x72, x73, x74 => if x74 < x73 then (if 0 ≤ x74 then (if x74 < (x72.length : Int) then ((impl_lineOf.f x0 (rdOf ByteArray.empty x72 x74)).bind fun t340 => (if t340 < 0 then (some false) else (impl_linesOk.l1 k x0 x10 x11 x12 x72 x73 (wrap64 (x74 + 1))))) else (none)) else (none)) else (impl_linesOk.l0 k x0 x10 x11 (wrap64 (x12 + 1)))
end
def impl_linesOk.f (k : Nat) (l0 : List (S45)) : Option (Bool) := impl_linesOk.l0 k l0 l0 (l0.length : Int) 0
theorem impl_linesOk.mono_l : ∀ k, (∀ y0 y1 y2 y3, LeO (impl_linesOk.l0 k y0 y1 y2 y3) (impl_linesOk.l0 (k + 1) y0 y1 y2 y3)) ∧ (∀ y0 y1 y2 y3 y4 y5 y6 y7 y8 y9 y10 y11 y12, LeO (impl_linesOk.j1 k y0 y1 y2 y3 y4 y5 y6 y7 y8 y9 y10 y11 y12) (impl_linesOk.j1 (k + 1) y0 y1 y2 y3 y4 y5 y6 y7 y8 y9 y10 y11 y12)) ∧ (∀ y0 y1 y2 y3 y4 y5 y6 y7 y8 y9 y10, LeO (impl_linesOk.j2 k y0 y1 y2 y3 y4 y5 y6 y7 y8 y9 y10) (impl_linesOk.j2 (k + 1) y0 y1 y2 y3 y4 y5 y6 y7 y8 y9 y10)) ∧ (∀ y0 y1 y2 y3 y4 y5 y6, LeO (impl_linesOk.l1 k y0 y1 y2 y3 y4 y5 y6) (impl_linesOk.l1 (k + 1) y0 y1 y2 y3 y4 y5 y6))
 | 0 => ⟨fun _ _ _ _ r h => by simp [impl_linesOk.l0] at h, fun _ _ _ _ _ _ _ _ _ _ _ _ _ r h => by simp [impl_linesOk.j1] at h, fun _ _ _ _ _ _ _ _ _ _ _ r h => by simp [impl_linesOk.j2] at h, fun _ _ _ _ _ _ _ r h => by simp [impl_linesOk.l1] at h⟩
 | k + 1 => by
  obtain ⟨ih0, ih1, ih2, ih3⟩ := impl_linesOk.mono_l k
  refine ⟨?_, ?_, ?_, ?_⟩
  ·
   intro y0 y1 y2 y3
   unfold impl_linesOk.l0
   repeat' first
   | (with_reducible exact ih0 _ _ _ _)
   | (with_reducible exact ih1 _ _ _ _ _ _ _ _ _ _ _ _ _)
   | (with_reducible exact ih2 _ _ _ _ _ _ _ _ _ _ _)
   | (with_reducible exact ih3 _ _ _ _ _ _ _)
   | (with_reducible exact impl_Line_used.mono _ _)
   | (with_reducible exact impl_lineName.mono _ _)
   | (with_reducible exact impl_uses.mono _ _)
   | (with_reducible exact LeO.refl _)
   | (with_reducible exact LeO.none _)
   | (with_reducible refine LeO.ite ?_ ?_)
   | (with_reducible refine LeO.bind ?_ (fun _ => ?_))
   | exact ih0 _ _ _ _
   | exact ih1 _ _ _ _ _ _ _ _ _ _ _ _ _
   | exact ih2 _ _ _ _ _ _ _ _ _ _ _
   | exact ih3 _ _ _ _ _ _ _
   | exact LeO.none _
   | refine LeO.ite ?_ ?_
   | refine LeO.bind ?_ (fun _ => ?_)
  ·
   intro y0 y1 y2 y3 y4 y5 y6 y7 y8 y9 y10 y11 y12
   unfold impl_linesOk.j1
   repeat' first
   | (with_reducible exact ih0 _ _ _ _)
   | (with_reducible exact ih1 _ _ _ _ _ _ _ _ _ _ _ _ _)
   | (with_reducible exact ih2 _ _ _ _ _ _ _ _ _ _ _)
   | (with_reducible exact ih3 _ _ _ _ _ _ _)
   | (with_reducible exact impl_Line_used.mono _ _)
   | (with_reducible exact impl_lineName.mono _ _)
   | (with_reducible exact impl_uses.mono _ _)
   | (with_reducible exact LeO.refl _)
   | (with_reducible exact LeO.none _)
   | (with_reducible refine LeO.ite ?_ ?_)
   | (with_reducible refine LeO.bind ?_ (fun _ => ?_))
   | exact ih0 _ _ _ _
   | exact ih1 _ _ _ _ _ _ _ _ _ _ _ _ _
   | exact ih2 _ _ _ _ _ _ _ _ _ _ _
   | exact ih3 _ _ _ _ _ _ _
   | exact LeO.none _
   | refine LeO.ite ?_ ?_
   | refine LeO.bind ?_ (fun _ => ?_)
  ·
   intro y0 y1 y2 y3 y4 y5 y6 y7 y8 y9 y10
   unfold impl_linesOk.j2
   repeat' first
   | (with_reducible exact ih0 _ _ _ _)
   | (with_reducible exact ih1 _ _ _ _ _ _ _ _ _ _ _ _ _)
   | (with_reducible exact ih2 _ _ _ _ _ _ _ _ _ _ _)
   | (with_reducible exact ih3 _ _ _ _ _ _ _)
   | (with_reducible exact impl_Line_used.mono _ _)
   | (with_reducible exact impl_lineName.mono _ _)
   | (with_reducible exact impl_uses.mono _ _)
   | (with_reducible exact LeO.refl _)
   | (with_reducible exact LeO.none _)
   | (with_reducible refine LeO.ite ?_ ?_)
   | (with_reducible refine LeO.bind ?_ (fun _ => ?_))
   | exact ih0 _ _ _ _
   | exact ih1 _ _ _ _ _ _ _ _ _ _ _ _ _
   | exact ih2 _ _ _ _ _ _ _ _ _ _ _
   | exact ih3 _ _ _ _ _ _ _
   | exact LeO.none _
   | refine LeO.ite ?_ ?_
   | refine LeO.bind ?_ (fun _ => ?_)
  ·
   intro y0 y1 y2 y3 y4 y5 y6
   unfold impl_linesOk.l1
   repeat' first
   | (with_reducible exact ih0 _ _ _ _)
   | (with_reducible exact ih1 _ _ _ _ _ _ _ _ _ _ _ _ _)
   | (with_reducible exact ih2 _ _ _ _ _ _ _ _ _ _ _)
   | (with_reducible exact ih3 _ _ _ _ _ _ _)
   | (with_reducible exact impl_Line_used.mono _ _)
   | (with_reducible exact impl_lineName.mono _ _)
   | (with_reducible exact impl_uses.mono _ _)
   | (with_reducible exact LeO.refl _)
   | (with_reducible exact LeO.none _)
   | (with_reducible refine LeO.ite ?_ ?_)
   | (with_reducible refine LeO.bind ?_ (fun _ => ?_))
   | exact ih0 _ _ _ _
   | exact ih1 _ _ _ _ _ _ _ _ _ _ _ _ _
   | exact ih2 _ _ _ _ _ _ _ _ _ _ _
   | exact ih3 _ _ _ _ _ _ _
   | exact LeO.none _
   | refine LeO.ite ?_ ?_
   | refine LeO.bind ?_ (fun _ => ?_)
theorem impl_linesOk.mono : ∀ a0 k, LeO (impl_linesOk.f k a0) (impl_linesOk.f (k + 1) a0) := by
 intro a0 k
 obtain ⟨ih0, ih1, ih2, ih3⟩ := impl_linesOk.mono_l k
 unfold impl_linesOk.f
 repeat' first
   | (with_reducible exact ih0 _ _ _ _)
   | (with_reducible exact ih1 _ _ _ _ _ _ _ _ _ _ _ _ _)
   | (with_reducible exact ih2 _ _ _ _ _ _ _ _ _ _ _)
   | (with_reducible exact ih3 _ _ _ _ _ _ _)
   | (with_reducible exact impl_Line_used.mono _ _)
   | (with_reducible exact impl_lineName.mono _ _)
   | (with_reducible exact impl_uses.mono _ _)
   | (with_reducible exact LeO.refl _)
   | (with_reducible exact LeO.none _)
   | (with_reducible refine LeO.ite ?_ ?_)
   | (with_reducible refine LeO.bind ?_ (fun _ => ?_))
   | exact ih0 _ _ _ _
   | exact ih1 _ _ _ _ _ _ _ _ _ _ _ _ _
   | exact ih2 _ _ _ _ _ _ _ _ _ _ _
   | exact ih3 _ _ _ _ _ _ _
   | exact LeO.none _
   | refine LeO.ite ?_ ?_
   | refine LeO.bind ?_ (fun _ => ?_)
set_option maxHeartbeats 8000000 in
set_option maxRecDepth 100000 in
theorem impl_linesOk.calls (k : Nat) (A0 : Option Addr) (c0 : Nat) (l0 : List (S45)) (r : Bool) (w : World) (hr0 : Kd.C k45 w A0 l0.length l0) (hc0 : l0.length ≤ c0) (h : impl_linesOk.f k l0 = some r) :
  Calls Try.prog 65 #[.slice A0 l0.length c0] w fun e w' => e = .returned (.bool r) ∧ Below w.heap.size w w' := by
 have hu45 := Try.underlying45
 have HR0 := A_ hr0
 have HC0 := A_ hc0
 clear hr0 hc0
 have HB := A_ (Below.refl w.heap.size w)
 have H : (impl_linesOk.l0 k l0 l0 (l0.length : Int) 0) = some r := h
 clear h
 have H' := A_ H
 clear H
 go_enter Try.func65, Try.ntmps65
 go_wp2
 go_loopg [12] k (fun kq v12 w' => ∃ (x12_1 : Int), v12 = .int .i64 x12_1 ∧ Aside0 (impl_linesOk.l0 kq l0 l0 (l0.length : Int) x12_1 = some r) ∧ Aside0 (kq ≤ k) ∧ Aside0 (Below w.heap.size w w'))
 case atStart => exact ⟨(0), z9_6_, H', ⟨Nat.le_refl _⟩, ⟨z9_7_⟩⟩
 case round =>
  clear H'
  obtain ⟨x12_1, rfl, HA, HK1, HB⟩ := hrel
  cases gk with
  | zero => exact absurd HA.out (by simp [impl_linesOk.l0])
  | succ k1 =>
   have H := HA.out
   clear HA
   simp only [impl_linesOk.l0] at H
   by_cases c2 : x12_1 < (l0.length : Int)
   ·
    rw [if_pos c2] at H
    have c2b0 := decide_eq_true c2
    clear c2
    by_cases c3 : 0 ≤ x12_1
    ·
     rw [if_pos c3] at H
     have c3b0 := decide_eq_true c3
     clear c3
     by_cases c4 : x12_1 < (l0.length : Int)
     ·
      rw [if_pos c4] at H
      have c4b0 := decide_eq_true c4
      clear c4
      replace H := Option.bind_eq_some_iff.mp H
      obtain ⟨⟨t329, t330, t331⟩, A50, H⟩ := H
      try dsimp only at H
      have A5 := A_ A50
      clear A50
      have HC6 := A_ H
      clear H
      have p327 : 0 ≤ (x12_1 : Int) := of_decide_eq_true (by assumption)
      have q327 : x12_1 < (l0.length : Int) := of_decide_eq_true (by assumption)
      obtain ⟨ad327, e327, hx327_0, hx327_1, hx327_2, hx327_3, hx327_4, hx327_5⟩ := at_T45 HR0.out x12_1 p327 q327
      cases e327
      replace hx327_0 := cel HB.out hx327_0
      replace hx327_1 := cel HB.out hx327_1
      replace hx327_2 := cel HB.out hx327_2
      replace hx327_3 := cel HB.out hx327_3
      replace hx327_4 := cel HB.out hx327_4
      replace hx327_5 := cel HB.out hx327_5
      replace p327 := eq_true p327
      replace q327 := eq_true q327
      go_upto_region 5 with (first | ((with_reducible refine gate_dst (N := 4) rfl ?_); refine box_event ?hg (N := 4) ?hd (cs := #[.string (⟨#[]⟩ : ByteArray), .int .i8 0, .string (⟨#[]⟩ : ByteArray), .string (⟨#[]⟩ : ByteArray), .int .i64 0, .int .i64 0]) (t := 45) ?hr ?_; (case hd => rfl); (case hg => rfl); (case hr => first | (go_simp; done) | (go_simp; rfl)); intro gb328 hg w7 hbox hb; have _ := A_ (below_step z9_7_ hb); have _ := A_ (hbox); have _ := A_ ((by rw [hg]; exact (below_size z9_7_) : w.heap.size ≤ gb328)); have _ := A_ ((by rw [hg]; exact (below_size z9_7_) : w.heap.size ≤ gb328)); clear HB; rename_i HB BK328 GW328 GE328; clear hb hbox hg; obtain ⟨hcz8_0, hcz8_1, hcz8_2, hcz8_3, hcz8_4, hcz8_5⟩ := bc6 BK328.out; obtain ⟨hfz8_0, hfz8_1, hfz8_2, hfz8_3, hfz8_4, hfz8_5⟩ := bf6 BK328.out) | ((with_reducible refine gate_callee (f := 74) rfl ?_); refine goesL_ (some 20) rfl rfl Try.func74 (by kernel_rfl) rfl #[.int .i8 ((rd_T45 l0 x12_1).f1)] rfl z9_3_ ?_; (with_reducible refine (impl_uses.calls k1 ((rd_T45 l0 x12_1).f1) t329 t330 t331 _ A5.out).mono ?_); rintro e w' ⟨rfl, ⟨nd, rfl⟩⟩; refine ⟨_, rfl, ?_⟩))
      (try simp only [Act.put, sA_, sB_, sC_])
      go_cut [55] (fun v55 wc => ∃ (kq : Nat) (x55_5 : Bool), v55 = .bool x55_5 ∧ Aside0 (impl_linesOk.j1 kq l0 t329 t330 l0 (l0.length : Int) x12_1 x55_5 ((rd_T45 l0 x12_1).f0) ((rd_T45 l0 x12_1).f1) ((rd_T45 l0 x12_1).f2) ((rd_T45 l0 x12_1).f3) ((rd_T45 l0 x12_1).f4) ((rd_T45 l0 x12_1).f5) = some r) ∧ Aside0 (kq ≤ k1) ∧ Aside0 (wc.heap[gb328]? = some (.cells #[.string ((rd_T45 l0 x12_1).f0), .int .i8 ((rd_T45 l0 x12_1).f1), .string ((rd_T45 l0 x12_1).f2), .string ((rd_T45 l0 x12_1).f3), .int .i64 ((rd_T45 l0 x12_1).f4), .int .i64 ((rd_T45 l0 x12_1).f5)] 45 (0, 0))) ∧ Aside0 (Below w.heap.size w wc))
      case first =>
       have H := HC6.out
       clear HC6
       replace H := Option.bind_eq_some_iff.mp H
       obtain ⟨t332, A90, H⟩ := H
       try dsimp only at H
       have A9 := A_ A90
       clear A90
       by_cases c10 : t332 = true
       ·
        subst c10
        have H1 := H; rw [if_pos rfl] at H1
        clear H
        have H := H1
        clear H1
        replace H := Option.bind_eq_some_iff.mp H
        obtain ⟨t333, A110, H⟩ := H
        try dsimp only at H
        have A11 := A_ A110
        clear A110
        by_cases c12 : t333 = x12_1
        ·
         rw [if_pos c12] at H
         have c12b0 := beq_iff_eq.mpr c12
         have c12b1 := bne_eq_false_iff_eq.mpr c12
         clear c12
         (first | rw [c12b0] | (simp only [i64_w, i32_w]; rw [c12b0]) | skip)
         by_cases c13 : ((rd_T45 l0 x12_1).f1) < 1
         ·
          rw [if_pos c13] at H
          have c13b0 := decide_eq_true c13
          clear c13
          have H' := A_ H
          clear H
          obtain ⟨hcz14_0, hcz14_1, hcz14_2, hcz14_3, hcz14_4, hcz14_5⟩ := bc6 BK328.out
          obtain ⟨hfz14_0, hfz14_1, hfz14_2, hfz14_3, hfz14_4, hfz14_5⟩ := bf6 BK328.out
          go_wp2_with (first | ((with_reducible refine gate_callee (f := 90) rfl ?_); refine goesL_ (some 26) rfl rfl Try.func90 (by kernel_rfl) rfl #[.string ((rd_T45 l0 x12_1).f0)] rfl z9_3_ ?_; (with_reducible refine (impl_lineName.calls k1 ((rd_T45 l0 x12_1).f0) true _ A9.out).mono ?_); rintro e w' ⟨rfl, ⟨nd, rfl⟩⟩; refine ⟨_, rfl, ?_⟩) | (go_at_call 79; (with_reducible refine (impl_lineOf.calls _ _ l0 ((rd_T45 l0 x12_1).f0) t333 _ ?side1 ?side2 A11.out).mono ?_); (case side1 => exact Kd.C_below HR0.out z9_2_); (case side2 => exact HC0.out); rintro e w15 ⟨rfl, hb⟩; have _ := A_ (blk_below (g := gb328) (o := .cells #[.string ((rd_T45 l0 x12_1).f0), .int .i8 ((rd_T45 l0 x12_1).f1), .string ((rd_T45 l0 x12_1).f2), .string ((rd_T45 l0 x12_1).f3), .int .i64 ((rd_T45 l0 x12_1).f4), .int .i64 ((rd_T45 l0 x12_1).f5)] 45 (0, 0)) (by (with_reducible repeat (first | refine blk_drewN ?_ _ | refine blk_drew ?_ | refine blk_alloc ?_ _)); refine blk_put (cs := #[.string ((rd_T45 l0 x12_1).f0), .int .i8 ((rd_T45 l0 x12_1).f1), .string ((rd_T45 l0 x12_1).f2), .string ((rd_T45 l0 x12_1).f3), .int .i64 ((rd_T45 l0 x12_1).f4), .int .i64 0]) ?_ 5 _ rfl; (with_reducible repeat (first | refine blk_drewN ?_ _ | refine blk_drew ?_ | refine blk_alloc ?_ _)); refine blk_put (cs := #[.string ((rd_T45 l0 x12_1).f0), .int .i8 ((rd_T45 l0 x12_1).f1), .string ((rd_T45 l0 x12_1).f2), .string ((rd_T45 l0 x12_1).f3), .int .i64 0, .int .i64 0]) ?_ 4 _ rfl; (with_reducible repeat (first | refine blk_drewN ?_ _ | refine blk_drew ?_ | refine blk_alloc ?_ _)); refine blk_put (cs := #[.string ((rd_T45 l0 x12_1).f0), .int .i8 ((rd_T45 l0 x12_1).f1), .string ((rd_T45 l0 x12_1).f2), .string (⟨#[]⟩ : ByteArray), .int .i64 0, .int .i64 0]) ?_ 3 _ rfl; (with_reducible repeat (first | refine blk_drewN ?_ _ | refine blk_drew ?_ | refine blk_alloc ?_ _)); refine blk_put (cs := #[.string ((rd_T45 l0 x12_1).f0), .int .i8 ((rd_T45 l0 x12_1).f1), .string (⟨#[]⟩ : ByteArray), .string (⟨#[]⟩ : ByteArray), .int .i64 0, .int .i64 0]) ?_ 2 _ rfl; (with_reducible repeat (first | refine blk_drewN ?_ _ | refine blk_drew ?_ | refine blk_alloc ?_ _)); refine blk_put (cs := #[.string ((rd_T45 l0 x12_1).f0), .int .i8 0, .string (⟨#[]⟩ : ByteArray), .string (⟨#[]⟩ : ByteArray), .int .i64 0, .int .i64 0]) ?_ 1 _ rfl; (with_reducible repeat (first | refine blk_drewN ?_ _ | refine blk_drew ?_ | refine blk_alloc ?_ _)); refine blk_put (cs := #[.string (⟨#[]⟩ : ByteArray), .int .i8 0, .string (⟨#[]⟩ : ByteArray), .string (⟨#[]⟩ : ByteArray), .int .i64 0, .int .i64 0]) ?_ 0 _ rfl; (with_reducible repeat (first | refine blk_drewN ?_ _ | refine blk_drew ?_ | refine blk_alloc ?_ _)); exact BK328.out) hb); have _ := A_ (below_step z9_2_ hb); clear BK328 HB; rename_i BK328 HB; (try clear hb); obtain ⟨hcz16_0, hcz16_1, hcz16_2, hcz16_3, hcz16_4, hcz16_5⟩ := bc6 BK328.out; obtain ⟨hfz16_0, hfz16_1, hfz16_2, hfz16_3, hfz16_4, hfz16_5⟩ := bf6 BK328.out))
          go_meet
          case rel => exact ⟨_, (true), z9_6_, H', ⟨z9_15_⟩, ⟨z9_5_⟩, ⟨z9_2_⟩⟩
         ·
          rw [if_neg c13] at H
          have c13b0 := decide_eq_false c13
          clear c13
          by_cases c17 : ((rd_T45 l0 x12_1).f1) > 12
          ·
           rw [if_pos c17] at H
           have c17b0 := decide_eq_true c17
           clear c17
           have H' := A_ H
           clear H
           obtain ⟨hcz18_0, hcz18_1, hcz18_2, hcz18_3, hcz18_4, hcz18_5⟩ := bc6 BK328.out
           obtain ⟨hfz18_0, hfz18_1, hfz18_2, hfz18_3, hfz18_4, hfz18_5⟩ := bf6 BK328.out
           go_wp2_with (first | ((with_reducible refine gate_callee (f := 90) rfl ?_); refine goesL_ (some 26) rfl rfl Try.func90 (by kernel_rfl) rfl #[.string ((rd_T45 l0 x12_1).f0)] rfl z9_3_ ?_; (with_reducible refine (impl_lineName.calls k1 ((rd_T45 l0 x12_1).f0) true _ A9.out).mono ?_); rintro e w' ⟨rfl, ⟨nd, rfl⟩⟩; refine ⟨_, rfl, ?_⟩) | (go_at_call 79; (with_reducible refine (impl_lineOf.calls _ _ l0 ((rd_T45 l0 x12_1).f0) t333 _ ?side1 ?side2 A11.out).mono ?_); (case side1 => exact Kd.C_below HR0.out z9_2_); (case side2 => exact HC0.out); rintro e w19 ⟨rfl, hb⟩; have _ := A_ (blk_below (g := gb328) (o := .cells #[.string ((rd_T45 l0 x12_1).f0), .int .i8 ((rd_T45 l0 x12_1).f1), .string ((rd_T45 l0 x12_1).f2), .string ((rd_T45 l0 x12_1).f3), .int .i64 ((rd_T45 l0 x12_1).f4), .int .i64 ((rd_T45 l0 x12_1).f5)] 45 (0, 0)) (by (with_reducible repeat (first | refine blk_drewN ?_ _ | refine blk_drew ?_ | refine blk_alloc ?_ _)); refine blk_put (cs := #[.string ((rd_T45 l0 x12_1).f0), .int .i8 ((rd_T45 l0 x12_1).f1), .string ((rd_T45 l0 x12_1).f2), .string ((rd_T45 l0 x12_1).f3), .int .i64 ((rd_T45 l0 x12_1).f4), .int .i64 0]) ?_ 5 _ rfl; (with_reducible repeat (first | refine blk_drewN ?_ _ | refine blk_drew ?_ | refine blk_alloc ?_ _)); refine blk_put (cs := #[.string ((rd_T45 l0 x12_1).f0), .int .i8 ((rd_T45 l0 x12_1).f1), .string ((rd_T45 l0 x12_1).f2), .string ((rd_T45 l0 x12_1).f3), .int .i64 0, .int .i64 0]) ?_ 4 _ rfl; (with_reducible repeat (first | refine blk_drewN ?_ _ | refine blk_drew ?_ | refine blk_alloc ?_ _)); refine blk_put (cs := #[.string ((rd_T45 l0 x12_1).f0), .int .i8 ((rd_T45 l0 x12_1).f1), .string ((rd_T45 l0 x12_1).f2), .string (⟨#[]⟩ : ByteArray), .int .i64 0, .int .i64 0]) ?_ 3 _ rfl; (with_reducible repeat (first | refine blk_drewN ?_ _ | refine blk_drew ?_ | refine blk_alloc ?_ _)); refine blk_put (cs := #[.string ((rd_T45 l0 x12_1).f0), .int .i8 ((rd_T45 l0 x12_1).f1), .string (⟨#[]⟩ : ByteArray), .string (⟨#[]⟩ : ByteArray), .int .i64 0, .int .i64 0]) ?_ 2 _ rfl; (with_reducible repeat (first | refine blk_drewN ?_ _ | refine blk_drew ?_ | refine blk_alloc ?_ _)); refine blk_put (cs := #[.string ((rd_T45 l0 x12_1).f0), .int .i8 0, .string (⟨#[]⟩ : ByteArray), .string (⟨#[]⟩ : ByteArray), .int .i64 0, .int .i64 0]) ?_ 1 _ rfl; (with_reducible repeat (first | refine blk_drewN ?_ _ | refine blk_drew ?_ | refine blk_alloc ?_ _)); refine blk_put (cs := #[.string (⟨#[]⟩ : ByteArray), .int .i8 0, .string (⟨#[]⟩ : ByteArray), .string (⟨#[]⟩ : ByteArray), .int .i64 0, .int .i64 0]) ?_ 0 _ rfl; (with_reducible repeat (first | refine blk_drewN ?_ _ | refine blk_drew ?_ | refine blk_alloc ?_ _)); exact BK328.out) hb); have _ := A_ (below_step z9_2_ hb); clear BK328 HB; rename_i BK328 HB; (try clear hb); obtain ⟨hcz20_0, hcz20_1, hcz20_2, hcz20_3, hcz20_4, hcz20_5⟩ := bc6 BK328.out; obtain ⟨hfz20_0, hfz20_1, hfz20_2, hfz20_3, hfz20_4, hfz20_5⟩ := bf6 BK328.out))
           go_meet
           case rel => exact ⟨_, (true), z9_6_, H', ⟨z9_15_⟩, ⟨z9_5_⟩, ⟨z9_2_⟩⟩
          ·
           rw [if_neg c17] at H
           have c17b0 := decide_eq_false c17
           clear c17
           replace H := Option.bind_eq_some_iff.mp H
           obtain ⟨t334, A210, H⟩ := H
           try dsimp only at H
           have A21 := A_ A210
           clear A210
           have H' := A_ H
           clear H
           obtain ⟨hcz22_0, hcz22_1, hcz22_2, hcz22_3, hcz22_4, hcz22_5⟩ := bc6 BK328.out
           obtain ⟨hfz22_0, hfz22_1, hfz22_2, hfz22_3, hfz22_4, hfz22_5⟩ := bf6 BK328.out
           go_wp2_with (first | ((with_reducible refine gate_callee (f := 90) rfl ?_); refine goesL_ (some 26) rfl rfl Try.func90 (by kernel_rfl) rfl #[.string ((rd_T45 l0 x12_1).f0)] rfl z9_3_ ?_; (with_reducible refine (impl_lineName.calls k1 ((rd_T45 l0 x12_1).f0) true _ A9.out).mono ?_); rintro e w' ⟨rfl, ⟨nd, rfl⟩⟩; refine ⟨_, rfl, ?_⟩) | (go_at_call 79; (with_reducible refine (impl_lineOf.calls _ _ l0 ((rd_T45 l0 x12_1).f0) t333 _ ?side1 ?side2 A11.out).mono ?_); (case side1 => exact Kd.C_below HR0.out z9_2_); (case side2 => exact HC0.out); rintro e w23 ⟨rfl, hb⟩; have _ := A_ (blk_below (g := gb328) (o := .cells #[.string ((rd_T45 l0 x12_1).f0), .int .i8 ((rd_T45 l0 x12_1).f1), .string ((rd_T45 l0 x12_1).f2), .string ((rd_T45 l0 x12_1).f3), .int .i64 ((rd_T45 l0 x12_1).f4), .int .i64 ((rd_T45 l0 x12_1).f5)] 45 (0, 0)) (by (with_reducible repeat (first | refine blk_drewN ?_ _ | refine blk_drew ?_ | refine blk_alloc ?_ _)); refine blk_put (cs := #[.string ((rd_T45 l0 x12_1).f0), .int .i8 ((rd_T45 l0 x12_1).f1), .string ((rd_T45 l0 x12_1).f2), .string ((rd_T45 l0 x12_1).f3), .int .i64 ((rd_T45 l0 x12_1).f4), .int .i64 0]) ?_ 5 _ rfl; (with_reducible repeat (first | refine blk_drewN ?_ _ | refine blk_drew ?_ | refine blk_alloc ?_ _)); refine blk_put (cs := #[.string ((rd_T45 l0 x12_1).f0), .int .i8 ((rd_T45 l0 x12_1).f1), .string ((rd_T45 l0 x12_1).f2), .string ((rd_T45 l0 x12_1).f3), .int .i64 0, .int .i64 0]) ?_ 4 _ rfl; (with_reducible repeat (first | refine blk_drewN ?_ _ | refine blk_drew ?_ | refine blk_alloc ?_ _)); refine blk_put (cs := #[.string ((rd_T45 l0 x12_1).f0), .int .i8 ((rd_T45 l0 x12_1).f1), .string ((rd_T45 l0 x12_1).f2), .string (⟨#[]⟩ : ByteArray), .int .i64 0, .int .i64 0]) ?_ 3 _ rfl; (with_reducible repeat (first | refine blk_drewN ?_ _ | refine blk_drew ?_ | refine blk_alloc ?_ _)); refine blk_put (cs := #[.string ((rd_T45 l0 x12_1).f0), .int .i8 ((rd_T45 l0 x12_1).f1), .string (⟨#[]⟩ : ByteArray), .string (⟨#[]⟩ : ByteArray), .int .i64 0, .int .i64 0]) ?_ 2 _ rfl; (with_reducible repeat (first | refine blk_drewN ?_ _ | refine blk_drew ?_ | refine blk_alloc ?_ _)); refine blk_put (cs := #[.string ((rd_T45 l0 x12_1).f0), .int .i8 0, .string (⟨#[]⟩ : ByteArray), .string (⟨#[]⟩ : ByteArray), .int .i64 0, .int .i64 0]) ?_ 1 _ rfl; (with_reducible repeat (first | refine blk_drewN ?_ _ | refine blk_drew ?_ | refine blk_alloc ?_ _)); refine blk_put (cs := #[.string (⟨#[]⟩ : ByteArray), .int .i8 0, .string (⟨#[]⟩ : ByteArray), .string (⟨#[]⟩ : ByteArray), .int .i64 0, .int .i64 0]) ?_ 0 _ rfl; (with_reducible repeat (first | refine blk_drewN ?_ _ | refine blk_drew ?_ | refine blk_alloc ?_ _)); exact BK328.out) hb); have _ := A_ (below_step z9_2_ hb); clear BK328 HB; rename_i BK328 HB; (try clear hb); obtain ⟨hcz24_0, hcz24_1, hcz24_2, hcz24_3, hcz24_4, hcz24_5⟩ := bc6 BK328.out; obtain ⟨hfz24_0, hfz24_1, hfz24_2, hfz24_3, hfz24_4, hfz24_5⟩ := bf6 BK328.out) | (go_at_call 105; (with_reducible refine (impl_ratioOk.calls ((rd_T45 l0 x12_1).f1) ((rd_T45 l0 x12_1).f4) ((rd_T45 l0 x12_1).f5) t334 _ A21.out).mono ?_); rintro e w' ⟨rfl, ⟨nd, rfl⟩⟩))
           go_meet
           case rel => exact ⟨_, (!t334), z9_6_, H', ⟨z9_15_⟩, ⟨z9_5_⟩, ⟨z9_2_⟩⟩
        ·
         rw [if_neg c12] at H
         have c12b0 : (t333 == x12_1) = false := beq_eq_false_iff_ne.mpr c12
         have c12b1 : (t333 != x12_1) = true := bne_iff_ne.mpr c12
         (first | rw [c12b0] | (simp only [i64_w, i32_w]; rw [c12b0]) | skip)
         have H' := A_ H
         clear H
         obtain ⟨hcz25_0, hcz25_1, hcz25_2, hcz25_3, hcz25_4, hcz25_5⟩ := bc6 BK328.out
         obtain ⟨hfz25_0, hfz25_1, hfz25_2, hfz25_3, hfz25_4, hfz25_5⟩ := bf6 BK328.out
         go_wp2_with (first | ((with_reducible refine gate_callee (f := 90) rfl ?_); refine goesL_ (some 26) rfl rfl Try.func90 (by kernel_rfl) rfl #[.string ((rd_T45 l0 x12_1).f0)] rfl z9_3_ ?_; (with_reducible refine (impl_lineName.calls k1 ((rd_T45 l0 x12_1).f0) true _ A9.out).mono ?_); rintro e w' ⟨rfl, ⟨nd, rfl⟩⟩; refine ⟨_, rfl, ?_⟩) | (go_at_call 79; (with_reducible refine (impl_lineOf.calls _ _ l0 ((rd_T45 l0 x12_1).f0) t333 _ ?side1 ?side2 A11.out).mono ?_); (case side1 => exact Kd.C_below HR0.out z9_2_); (case side2 => exact HC0.out); rintro e w26 ⟨rfl, hb⟩; have _ := A_ (blk_below (g := gb328) (o := .cells #[.string ((rd_T45 l0 x12_1).f0), .int .i8 ((rd_T45 l0 x12_1).f1), .string ((rd_T45 l0 x12_1).f2), .string ((rd_T45 l0 x12_1).f3), .int .i64 ((rd_T45 l0 x12_1).f4), .int .i64 ((rd_T45 l0 x12_1).f5)] 45 (0, 0)) (by (with_reducible repeat (first | refine blk_drewN ?_ _ | refine blk_drew ?_ | refine blk_alloc ?_ _)); refine blk_put (cs := #[.string ((rd_T45 l0 x12_1).f0), .int .i8 ((rd_T45 l0 x12_1).f1), .string ((rd_T45 l0 x12_1).f2), .string ((rd_T45 l0 x12_1).f3), .int .i64 ((rd_T45 l0 x12_1).f4), .int .i64 0]) ?_ 5 _ rfl; (with_reducible repeat (first | refine blk_drewN ?_ _ | refine blk_drew ?_ | refine blk_alloc ?_ _)); refine blk_put (cs := #[.string ((rd_T45 l0 x12_1).f0), .int .i8 ((rd_T45 l0 x12_1).f1), .string ((rd_T45 l0 x12_1).f2), .string ((rd_T45 l0 x12_1).f3), .int .i64 0, .int .i64 0]) ?_ 4 _ rfl; (with_reducible repeat (first | refine blk_drewN ?_ _ | refine blk_drew ?_ | refine blk_alloc ?_ _)); refine blk_put (cs := #[.string ((rd_T45 l0 x12_1).f0), .int .i8 ((rd_T45 l0 x12_1).f1), .string ((rd_T45 l0 x12_1).f2), .string (⟨#[]⟩ : ByteArray), .int .i64 0, .int .i64 0]) ?_ 3 _ rfl; (with_reducible repeat (first | refine blk_drewN ?_ _ | refine blk_drew ?_ | refine blk_alloc ?_ _)); refine blk_put (cs := #[.string ((rd_T45 l0 x12_1).f0), .int .i8 ((rd_T45 l0 x12_1).f1), .string (⟨#[]⟩ : ByteArray), .string (⟨#[]⟩ : ByteArray), .int .i64 0, .int .i64 0]) ?_ 2 _ rfl; (with_reducible repeat (first | refine blk_drewN ?_ _ | refine blk_drew ?_ | refine blk_alloc ?_ _)); refine blk_put (cs := #[.string ((rd_T45 l0 x12_1).f0), .int .i8 0, .string (⟨#[]⟩ : ByteArray), .string (⟨#[]⟩ : ByteArray), .int .i64 0, .int .i64 0]) ?_ 1 _ rfl; (with_reducible repeat (first | refine blk_drewN ?_ _ | refine blk_drew ?_ | refine blk_alloc ?_ _)); refine blk_put (cs := #[.string (⟨#[]⟩ : ByteArray), .int .i8 0, .string (⟨#[]⟩ : ByteArray), .string (⟨#[]⟩ : ByteArray), .int .i64 0, .int .i64 0]) ?_ 0 _ rfl; (with_reducible repeat (first | refine blk_drewN ?_ _ | refine blk_drew ?_ | refine blk_alloc ?_ _)); exact BK328.out) hb); have _ := A_ (below_step z9_2_ hb); clear BK328 HB; rename_i BK328 HB; (try clear hb)))
         go_meet
         case rel => exact ⟨_, (true), z9_6_, H', ⟨z9_15_⟩, ⟨z9_5_⟩, ⟨z9_2_⟩⟩
       ·
        replace c10 := Bool.eq_false_iff.mpr c10
        subst c10
        have H1 := H; rw [if_neg (show ¬ (false = true) by decide)] at H1
        clear H
        have H := H1
        clear H1
        have H' := A_ H
        clear H
        obtain ⟨hcz27_0, hcz27_1, hcz27_2, hcz27_3, hcz27_4, hcz27_5⟩ := bc6 BK328.out
        obtain ⟨hfz27_0, hfz27_1, hfz27_2, hfz27_3, hfz27_4, hfz27_5⟩ := bf6 BK328.out
        go_wp2_with (first | ((with_reducible refine gate_callee (f := 90) rfl ?_); refine goesL_ (some 26) rfl rfl Try.func90 (by kernel_rfl) rfl #[.string ((rd_T45 l0 x12_1).f0)] rfl z9_3_ ?_; (with_reducible refine (impl_lineName.calls k1 ((rd_T45 l0 x12_1).f0) false _ A9.out).mono ?_); rintro e w' ⟨rfl, ⟨nd, rfl⟩⟩; refine ⟨_, rfl, ?_⟩))
        go_meet
        case rel => exact ⟨_, (true), z9_6_, H', ⟨z9_15_⟩, ⟨(by (with_reducible repeat (first | refine blk_drewN ?_ _ | refine blk_drew ?_ | refine blk_alloc ?_ _)); refine blk_put (cs := #[.string ((rd_T45 l0 x12_1).f0), .int .i8 ((rd_T45 l0 x12_1).f1), .string ((rd_T45 l0 x12_1).f2), .string ((rd_T45 l0 x12_1).f3), .int .i64 ((rd_T45 l0 x12_1).f4), .int .i64 0]) ?_ 5 _ rfl; (with_reducible repeat (first | refine blk_drewN ?_ _ | refine blk_drew ?_ | refine blk_alloc ?_ _)); refine blk_put (cs := #[.string ((rd_T45 l0 x12_1).f0), .int .i8 ((rd_T45 l0 x12_1).f1), .string ((rd_T45 l0 x12_1).f2), .string ((rd_T45 l0 x12_1).f3), .int .i64 0, .int .i64 0]) ?_ 4 _ rfl; (with_reducible repeat (first | refine blk_drewN ?_ _ | refine blk_drew ?_ | refine blk_alloc ?_ _)); refine blk_put (cs := #[.string ((rd_T45 l0 x12_1).f0), .int .i8 ((rd_T45 l0 x12_1).f1), .string ((rd_T45 l0 x12_1).f2), .string (⟨#[]⟩ : ByteArray), .int .i64 0, .int .i64 0]) ?_ 3 _ rfl; (with_reducible repeat (first | refine blk_drewN ?_ _ | refine blk_drew ?_ | refine blk_alloc ?_ _)); refine blk_put (cs := #[.string ((rd_T45 l0 x12_1).f0), .int .i8 ((rd_T45 l0 x12_1).f1), .string (⟨#[]⟩ : ByteArray), .string (⟨#[]⟩ : ByteArray), .int .i64 0, .int .i64 0]) ?_ 2 _ rfl; (with_reducible repeat (first | refine blk_drewN ?_ _ | refine blk_drew ?_ | refine blk_alloc ?_ _)); refine blk_put (cs := #[.string ((rd_T45 l0 x12_1).f0), .int .i8 0, .string (⟨#[]⟩ : ByteArray), .string (⟨#[]⟩ : ByteArray), .int .i64 0, .int .i64 0]) ?_ 1 _ rfl; (with_reducible repeat (first | refine blk_drewN ?_ _ | refine blk_drew ?_ | refine blk_alloc ?_ _)); refine blk_put (cs := #[.string (⟨#[]⟩ : ByteArray), .int .i8 0, .string (⟨#[]⟩ : ByteArray), .string (⟨#[]⟩ : ByteArray), .int .i64 0, .int .i64 0]) ?_ 0 _ rfl; (with_reducible repeat (first | refine blk_drewN ?_ _ | refine blk_drew ?_ | refine blk_alloc ?_ _)); exact BK328.out)⟩, ⟨z9_2_⟩⟩
      case rest =>
       clear HC6
       try clear c1
       try clear c2
       try clear c2b0
       try clear p2
       try clear c3
       try clear c3b0
       try clear p3
       try clear q3
       try clear hx3
       try clear c4
       try clear c4b0
       try clear c6
       try clear c7
       try clear c9
       try clear c10
       try clear c12
       try clear c12b0
       try clear c12b1
       try clear c13
       try clear c13b0
       try clear c17
       try clear c17b0
       try clear hcz14_0
       try clear hcz14_1
       try clear hcz14_2
       try clear hcz14_3
       try clear hcz14_4
       try clear hcz14_5
       try clear hcz16_0
       try clear hcz16_1
       try clear hcz16_2
       try clear hcz16_3
       try clear hcz16_4
       try clear hcz16_5
       try clear hcz18_0
       try clear hcz18_1
       try clear hcz18_2
       try clear hcz18_3
       try clear hcz18_4
       try clear hcz18_5
       try clear hcz20_0
       try clear hcz20_1
       try clear hcz20_2
       try clear hcz20_3
       try clear hcz20_4
       try clear hcz20_5
       try clear hcz22_0
       try clear hcz22_1
       try clear hcz22_2
       try clear hcz22_3
       try clear hcz22_4
       try clear hcz22_5
       try clear hcz24_0
       try clear hcz24_1
       try clear hcz24_2
       try clear hcz24_3
       try clear hcz24_4
       try clear hcz24_5
       try clear hcz25_0
       try clear hcz25_1
       try clear hcz25_2
       try clear hcz25_3
       try clear hcz25_4
       try clear hcz25_5
       try clear hcz27_0
       try clear hcz27_1
       try clear hcz27_2
       try clear hcz27_3
       try clear hcz27_4
       try clear hcz27_5
       try clear hcz8_0
       try clear hcz8_1
       try clear hcz8_2
       try clear hcz8_3
       try clear hcz8_4
       try clear hcz8_5
       try clear hfz14_0
       try clear hfz14_1
       try clear hfz14_2
       try clear hfz14_3
       try clear hfz14_4
       try clear hfz14_5
       try clear hfz16_0
       try clear hfz16_1
       try clear hfz16_2
       try clear hfz16_3
       try clear hfz16_4
       try clear hfz16_5
       try clear hfz18_0
       try clear hfz18_1
       try clear hfz18_2
       try clear hfz18_3
       try clear hfz18_4
       try clear hfz18_5
       try clear hfz20_0
       try clear hfz20_1
       try clear hfz20_2
       try clear hfz20_3
       try clear hfz20_4
       try clear hfz20_5
       try clear hfz22_0
       try clear hfz22_1
       try clear hfz22_2
       try clear hfz22_3
       try clear hfz22_4
       try clear hfz22_5
       try clear hfz24_0
       try clear hfz24_1
       try clear hfz24_2
       try clear hfz24_3
       try clear hfz24_4
       try clear hfz24_5
       try clear hfz25_0
       try clear hfz25_1
       try clear hfz25_2
       try clear hfz25_3
       try clear hfz25_4
       try clear hfz25_5
       try clear hfz27_0
       try clear hfz27_1
       try clear hfz27_2
       try clear hfz27_3
       try clear hfz27_4
       try clear hfz27_5
       try clear hfz8_0
       try clear hfz8_1
       try clear hfz8_2
       try clear hfz8_3
       try clear hfz8_4
       try clear hfz8_5
       try clear hx327_0
       try clear hx327_1
       try clear hx327_2
       try clear hx327_3
       try clear hx327_4
       try clear hx327_5
       try clear p327
       try clear q327
       obtain ⟨kq, x55_5, rfl, HA, HJ5, BK328, HB⟩ := hcut
       cases kq with
       | zero => exact absurd HA.out (by simp [impl_linesOk.j1])
       | succ kj5 =>
        have H := HA.out
        clear HA
        simp only [impl_linesOk.j1] at H
        by_cases c28 : x55_5 = true
        ·
         subst c28
         have H1 := H; rw [if_pos rfl] at H1
         clear H
         have H := H1
         clear H1
         obtain rfl := Option.some.inj H
         go_wp2
         go_ret
         exact ⟨z9_8_, z9_2_⟩
        ·
         replace c28 := Bool.eq_false_iff.mpr c28
         subst c28
         have H1 := H; rw [if_neg (show ¬ (false = true) by decide)] at H1
         clear H
         have H := H1
         clear H1
         have HC29 := A_ H
         clear H
         go_upto_region 7 with (fail)
         go_cut [71] (fun v71 wc => ∃ (kq : Nat) (x71_28 : Bool), v71 = .bool x71_28 ∧ Aside0 (impl_linesOk.j2 kq l0 l0 (l0.length : Int) x12_1 x71_28 ((rd_T45 l0 x12_1).f0) ((rd_T45 l0 x12_1).f1) ((rd_T45 l0 x12_1).f2) ((rd_T45 l0 x12_1).f3) ((rd_T45 l0 x12_1).f4) ((rd_T45 l0 x12_1).f5) = some r) ∧ Aside0 (kq ≤ kj5) ∧ Aside0 (wc.heap[gb328]? = some (.cells #[.string ((rd_T45 l0 x12_1).f0), .int .i8 ((rd_T45 l0 x12_1).f1), .string ((rd_T45 l0 x12_1).f2), .string ((rd_T45 l0 x12_1).f3), .int .i64 ((rd_T45 l0 x12_1).f4), .int .i64 ((rd_T45 l0 x12_1).f5)] 45 (0, 0))) ∧ Aside0 (Below w.heap.size w wc))
         case first =>
          have H := HC29.out
          clear HC29
          by_cases c30 : t329 = true
          ·
           subst c30
           have H1 := H; rw [if_pos rfl] at H1
           clear H
           have H := H1
           clear H1
           by_cases c31 : t330 = true
           ·
            subst c31
            have H1 := H; rw [if_pos rfl] at H1
            clear H
            have H := H1
            clear H1
            have H' := A_ H
            clear H
            go_wp2
            go_meet
            case rel => exact ⟨_, (false), z9_6_, H', ⟨z9_13_⟩, ⟨z9_5_⟩, ⟨z9_2_⟩⟩
           ·
            replace c31 := Bool.eq_false_iff.mpr c31
            subst c31
            have H1 := H; rw [if_neg (show ¬ (false = true) by decide)] at H1
            clear H
            have H := H1
            clear H1
            have H' := A_ H
            clear H
            obtain ⟨hcz32_0, hcz32_1, hcz32_2, hcz32_3, hcz32_4, hcz32_5⟩ := bc6 BK328.out
            obtain ⟨hfz32_0, hfz32_1, hfz32_2, hfz32_3, hfz32_4, hfz32_5⟩ := bf6 BK328.out
            go_wp2
            go_meet
            case rel => exact ⟨_, ((((rd_T45 l0 x12_1).f3).toList != ([] : List UInt8))), z9_6_, H', ⟨z9_13_⟩, ⟨z9_5_⟩, ⟨z9_2_⟩⟩
          ·
           replace c30 := Bool.eq_false_iff.mpr c30
           subst c30
           have H1 := H; rw [if_neg (show ¬ (false = true) by decide)] at H1
           clear H
           have H := H1
           clear H1
           by_cases c33 : ((rd_T45 l0 x12_1).f2).toList = ([] : List UInt8)
           ·
            rw [if_pos c33] at H
            have c33b0 := beq_iff_eq.mpr c33
            have c33b1 := bne_eq_false_iff_eq.mpr c33
            clear c33
            (first | rw [c33b0] | (simp only [i64_w, i32_w]; rw [c33b0]) | skip)
            by_cases c34 : t330 = true
            ·
             subst c34
             have H1 := H; rw [if_pos rfl] at H1
             clear H
             have H := H1
             clear H1
             have H' := A_ H
             clear H
             obtain ⟨hcz35_0, hcz35_1, hcz35_2, hcz35_3, hcz35_4, hcz35_5⟩ := bc6 BK328.out
             obtain ⟨hfz35_0, hfz35_1, hfz35_2, hfz35_3, hfz35_4, hfz35_5⟩ := bf6 BK328.out
             go_wp2
             go_meet
             case rel => exact ⟨_, (false), z9_6_, H', ⟨z9_13_⟩, ⟨z9_5_⟩, ⟨z9_2_⟩⟩
            ·
             replace c34 := Bool.eq_false_iff.mpr c34
             subst c34
             have H1 := H; rw [if_neg (show ¬ (false = true) by decide)] at H1
             clear H
             have H := H1
             clear H1
             have H' := A_ H
             clear H
             obtain ⟨hcz36_0, hcz36_1, hcz36_2, hcz36_3, hcz36_4, hcz36_5⟩ := bc6 BK328.out
             obtain ⟨hfz36_0, hfz36_1, hfz36_2, hfz36_3, hfz36_4, hfz36_5⟩ := bf6 BK328.out
             go_wp2
             go_meet
             case rel => exact ⟨_, ((((rd_T45 l0 x12_1).f3).toList != ([] : List UInt8))), z9_6_, H', ⟨z9_13_⟩, ⟨z9_5_⟩, ⟨z9_2_⟩⟩
           ·
            rw [if_neg c33] at H
            have c33b0 : (((rd_T45 l0 x12_1).f2).toList == ([] : List UInt8)) = false := beq_eq_false_iff_ne.mpr c33
            have c33b1 : (((rd_T45 l0 x12_1).f2).toList != ([] : List UInt8)) = true := bne_iff_ne.mpr c33
            (first | rw [c33b0] | (simp only [i64_w, i32_w]; rw [c33b0]) | skip)
            have H' := A_ H
            clear H
            obtain ⟨hcz37_0, hcz37_1, hcz37_2, hcz37_3, hcz37_4, hcz37_5⟩ := bc6 BK328.out
            obtain ⟨hfz37_0, hfz37_1, hfz37_2, hfz37_3, hfz37_4, hfz37_5⟩ := bf6 BK328.out
            go_wp2
            go_meet
            case rel => exact ⟨_, (true), z9_6_, H', ⟨z9_13_⟩, ⟨z9_5_⟩, ⟨z9_2_⟩⟩
         case rest =>
          clear HC29
          try clear c1
          try clear c2
          try clear c2b0
          try clear p2
          try clear c3
          try clear c3b0
          try clear p3
          try clear q3
          try clear hx3
          try clear c4
          try clear c4b0
          try clear c6
          try clear c7
          try clear c9
          try clear c10
          try clear c12
          try clear c12b0
          try clear c12b1
          try clear c13
          try clear c13b0
          try clear c17
          try clear c17b0
          try clear c28
          try clear c30
          try clear c31
          try clear p32
          try clear q32
          try clear hx32
          try clear c33
          try clear c33b0
          try clear c33b1
          try clear c34
          try clear hcz14_0
          try clear hcz14_1
          try clear hcz14_2
          try clear hcz14_3
          try clear hcz14_4
          try clear hcz14_5
          try clear hcz16_0
          try clear hcz16_1
          try clear hcz16_2
          try clear hcz16_3
          try clear hcz16_4
          try clear hcz16_5
          try clear hcz18_0
          try clear hcz18_1
          try clear hcz18_2
          try clear hcz18_3
          try clear hcz18_4
          try clear hcz18_5
          try clear hcz20_0
          try clear hcz20_1
          try clear hcz20_2
          try clear hcz20_3
          try clear hcz20_4
          try clear hcz20_5
          try clear hcz22_0
          try clear hcz22_1
          try clear hcz22_2
          try clear hcz22_3
          try clear hcz22_4
          try clear hcz22_5
          try clear hcz24_0
          try clear hcz24_1
          try clear hcz24_2
          try clear hcz24_3
          try clear hcz24_4
          try clear hcz24_5
          try clear hcz25_0
          try clear hcz25_1
          try clear hcz25_2
          try clear hcz25_3
          try clear hcz25_4
          try clear hcz25_5
          try clear hcz27_0
          try clear hcz27_1
          try clear hcz27_2
          try clear hcz27_3
          try clear hcz27_4
          try clear hcz27_5
          try clear hcz32_0
          try clear hcz32_1
          try clear hcz32_2
          try clear hcz32_3
          try clear hcz32_4
          try clear hcz32_5
          try clear hcz35_0
          try clear hcz35_1
          try clear hcz35_2
          try clear hcz35_3
          try clear hcz35_4
          try clear hcz35_5
          try clear hcz36_0
          try clear hcz36_1
          try clear hcz36_2
          try clear hcz36_3
          try clear hcz36_4
          try clear hcz36_5
          try clear hcz37_0
          try clear hcz37_1
          try clear hcz37_2
          try clear hcz37_3
          try clear hcz37_4
          try clear hcz37_5
          try clear hcz8_0
          try clear hcz8_1
          try clear hcz8_2
          try clear hcz8_3
          try clear hcz8_4
          try clear hcz8_5
          try clear hfz14_0
          try clear hfz14_1
          try clear hfz14_2
          try clear hfz14_3
          try clear hfz14_4
          try clear hfz14_5
          try clear hfz16_0
          try clear hfz16_1
          try clear hfz16_2
          try clear hfz16_3
          try clear hfz16_4
          try clear hfz16_5
          try clear hfz18_0
          try clear hfz18_1
          try clear hfz18_2
          try clear hfz18_3
          try clear hfz18_4
          try clear hfz18_5
          try clear hfz20_0
          try clear hfz20_1
          try clear hfz20_2
          try clear hfz20_3
          try clear hfz20_4
          try clear hfz20_5
          try clear hfz22_0
          try clear hfz22_1
          try clear hfz22_2
          try clear hfz22_3
          try clear hfz22_4
          try clear hfz22_5
          try clear hfz24_0
          try clear hfz24_1
          try clear hfz24_2
          try clear hfz24_3
          try clear hfz24_4
          try clear hfz24_5
          try clear hfz25_0
          try clear hfz25_1
          try clear hfz25_2
          try clear hfz25_3
          try clear hfz25_4
          try clear hfz25_5
          try clear hfz27_0
          try clear hfz27_1
          try clear hfz27_2
          try clear hfz27_3
          try clear hfz27_4
          try clear hfz27_5
          try clear hfz32_0
          try clear hfz32_1
          try clear hfz32_2
          try clear hfz32_3
          try clear hfz32_4
          try clear hfz32_5
          try clear hfz35_0
          try clear hfz35_1
          try clear hfz35_2
          try clear hfz35_3
          try clear hfz35_4
          try clear hfz35_5
          try clear hfz36_0
          try clear hfz36_1
          try clear hfz36_2
          try clear hfz36_3
          try clear hfz36_4
          try clear hfz36_5
          try clear hfz37_0
          try clear hfz37_1
          try clear hfz37_2
          try clear hfz37_3
          try clear hfz37_4
          try clear hfz37_5
          try clear hfz8_0
          try clear hfz8_1
          try clear hfz8_2
          try clear hfz8_3
          try clear hfz8_4
          try clear hfz8_5
          try clear hx327_0
          try clear hx327_1
          try clear hx327_2
          try clear hx327_3
          try clear hx327_4
          try clear hx327_5
          try clear p2
          try clear p3
          try clear p327
          try clear q3
          try clear q327
          obtain ⟨kq, x71_28, rfl, HA, HJ28, BK328, HB⟩ := hcut
          cases kq with
          | zero => exact absurd HA.out (by simp [impl_linesOk.j2])
          | succ kj28 =>
           have H := HA.out
           clear HA
           simp only [impl_linesOk.j2] at H
           by_cases c38 : x71_28 = true
           ·
            subst c38
            have H1 := H; rw [if_pos rfl] at H1
            clear H
            have H := H1
            clear H1
            obtain rfl := Option.some.inj H
            go_wp2
            go_ret
            exact ⟨z9_8_, z9_2_⟩
           ·
            replace c38 := Bool.eq_false_iff.mpr c38
            subst c38
            have H1 := H; rw [if_neg (show ¬ (false = true) by decide)] at H1
            clear H
            have H := H1
            clear H1
            replace H := Option.bind_eq_some_iff.mp H
            obtain ⟨t336, A390, H⟩ := H
            try dsimp only at H
            have A39 := A_ A390
            clear A390
            have H' := A_ H
            clear H
            go_wp2_with (first | ((with_reducible refine gate_callee (f := 106) rfl ?_); refine goesL_ (some 72) rfl rfl Try.func106 (by kernel_rfl) rfl #[.pointer (some ⟨gb328, 0, none⟩)] rfl z9_3_ ?_; (with_reducible refine (impl_Line_used.calls kj28 _ ([(⟨((rd_T45 l0 x12_1).f0), ((rd_T45 l0 x12_1).f1), ((rd_T45 l0 x12_1).f2), ((rd_T45 l0 x12_1).f3), ((rd_T45 l0 x12_1).f4), ((rd_T45 l0 x12_1).f5)⟩ : S45)]).length [(⟨((rd_T45 l0 x12_1).f0), ((rd_T45 l0 x12_1).f1), ((rd_T45 l0 x12_1).f2), ((rd_T45 l0 x12_1).f3), ((rd_T45 l0 x12_1).f4), ((rd_T45 l0 x12_1).f5)⟩ : S45)] t336 _ ?side1 ?side2 A39.out).mono ?_); (case side1 => refine Kd.C_block k45 (g := gb328) (cs := #[.string ((rd_T45 l0 x12_1).f0), .int .i8 ((rd_T45 l0 x12_1).f1), .string ((rd_T45 l0 x12_1).f2), .string ((rd_T45 l0 x12_1).f3), .int .i64 ((rd_T45 l0 x12_1).f4), .int .i64 ((rd_T45 l0 x12_1).f5)]) (T := 45) z9_5_ (show Kd.K k45 _ (⟨((rd_T45 l0 x12_1).f0), ((rd_T45 l0 x12_1).f1), ((rd_T45 l0 x12_1).f2), ((rd_T45 l0 x12_1).f3), ((rd_T45 l0 x12_1).f4), ((rd_T45 l0 x12_1).f5)⟩ : S45) [.string ((rd_T45 l0 x12_1).f0), .int .i8 ((rd_T45 l0 x12_1).f1), .string ((rd_T45 l0 x12_1).f2), .string ((rd_T45 l0 x12_1).f3), .int .i64 ((rd_T45 l0 x12_1).f4), .int .i64 ((rd_T45 l0 x12_1).f5)] from k45_mk _ _) (by decide)); (case side2 => exact Nat.le_refl _); rintro e w40 ⟨v337, rfl, ho0, hb⟩; refine ⟨_, rfl, ?_⟩; have _ := A_ (Kd.R_lower ho0 (below_size z9_2_)); have _ := A_ (blk_below (g := gb328) (o := .cells #[.string ((rd_T45 l0 x12_1).f0), .int .i8 ((rd_T45 l0 x12_1).f1), .string ((rd_T45 l0 x12_1).f2), .string ((rd_T45 l0 x12_1).f3), .int .i64 ((rd_T45 l0 x12_1).f4), .int .i64 ((rd_T45 l0 x12_1).f5)] 45 (0, 0)) z9_5_ hb); have _ := A_ (below_step z9_2_ hb); clear BK328 HB; rename_i HO338 BK328 HB; (try clear hb); (try clear ho0); obtain ⟨Ao41, co41, eo41⟩ := Kd.R_slice HO338.out; subst eo41))
            go_loopg [74] kj28 (fun kq v74 w' => ∃ (x74_4 : Int), v74 = .int .i64 x74_4 ∧ Aside0 (impl_linesOk.l1 kq l0 l0 (l0.length : Int) x12_1 t336 (t336.length : Int) x74_4 = some r) ∧ Aside0 (kq ≤ kj28) ∧ Aside0 (Kd.R Kd.string 9 w' w.heap.size (fun _ => True) (.slice Ao41 t336.length co41) t336) ∧ Aside0 (w'.heap[gb328]? = some (.cells #[.string ((rd_T45 l0 x12_1).f0), .int .i8 ((rd_T45 l0 x12_1).f1), .string ((rd_T45 l0 x12_1).f2), .string ((rd_T45 l0 x12_1).f3), .int .i64 ((rd_T45 l0 x12_1).f4), .int .i64 ((rd_T45 l0 x12_1).f5)] 45 (0, 0))) ∧ Aside0 (Below w.heap.size w w'))
            case atStart => exact ⟨(0), z9_6_, H', ⟨Nat.le_refl _⟩, ⟨(by (with_reducible repeat (first | apply Kd.R_alloc | apply Kd.R_drewN | apply Kd.R_drew)); exact HO338.out)⟩, ⟨z9_5_⟩, ⟨z9_2_⟩⟩
            case round =>
             clear H'
             try clear c1
             try clear c2
             try clear c2b0
             try clear p2
             try clear c3
             try clear c3b0
             try clear p3
             try clear q3
             try clear hx3
             try clear c4
             try clear c4b0
             try clear c6
             try clear c7
             try clear c9
             try clear c10
             try clear c12
             try clear c12b0
             try clear c12b1
             try clear c13
             try clear c13b0
             try clear c17
             try clear c17b0
             try clear c28
             try clear c30
             try clear c31
             try clear p32
             try clear q32
             try clear hx32
             try clear c33
             try clear c33b0
             try clear c33b1
             try clear c34
             try clear c38
             try clear hcz14_0
             try clear hcz14_1
             try clear hcz14_2
             try clear hcz14_3
             try clear hcz14_4
             try clear hcz14_5
             try clear hcz16_0
             try clear hcz16_1
             try clear hcz16_2
             try clear hcz16_3
             try clear hcz16_4
             try clear hcz16_5
             try clear hcz18_0
             try clear hcz18_1
             try clear hcz18_2
             try clear hcz18_3
             try clear hcz18_4
             try clear hcz18_5
             try clear hcz20_0
             try clear hcz20_1
             try clear hcz20_2
             try clear hcz20_3
             try clear hcz20_4
             try clear hcz20_5
             try clear hcz22_0
             try clear hcz22_1
             try clear hcz22_2
             try clear hcz22_3
             try clear hcz22_4
             try clear hcz22_5
             try clear hcz24_0
             try clear hcz24_1
             try clear hcz24_2
             try clear hcz24_3
             try clear hcz24_4
             try clear hcz24_5
             try clear hcz25_0
             try clear hcz25_1
             try clear hcz25_2
             try clear hcz25_3
             try clear hcz25_4
             try clear hcz25_5
             try clear hcz27_0
             try clear hcz27_1
             try clear hcz27_2
             try clear hcz27_3
             try clear hcz27_4
             try clear hcz27_5
             try clear hcz32_0
             try clear hcz32_1
             try clear hcz32_2
             try clear hcz32_3
             try clear hcz32_4
             try clear hcz32_5
             try clear hcz35_0
             try clear hcz35_1
             try clear hcz35_2
             try clear hcz35_3
             try clear hcz35_4
             try clear hcz35_5
             try clear hcz36_0
             try clear hcz36_1
             try clear hcz36_2
             try clear hcz36_3
             try clear hcz36_4
             try clear hcz36_5
             try clear hcz37_0
             try clear hcz37_1
             try clear hcz37_2
             try clear hcz37_3
             try clear hcz37_4
             try clear hcz37_5
             try clear hcz8_0
             try clear hcz8_1
             try clear hcz8_2
             try clear hcz8_3
             try clear hcz8_4
             try clear hcz8_5
             try clear hfz14_0
             try clear hfz14_1
             try clear hfz14_2
             try clear hfz14_3
             try clear hfz14_4
             try clear hfz14_5
             try clear hfz16_0
             try clear hfz16_1
             try clear hfz16_2
             try clear hfz16_3
             try clear hfz16_4
             try clear hfz16_5
             try clear hfz18_0
             try clear hfz18_1
             try clear hfz18_2
             try clear hfz18_3
             try clear hfz18_4
             try clear hfz18_5
             try clear hfz20_0
             try clear hfz20_1
             try clear hfz20_2
             try clear hfz20_3
             try clear hfz20_4
             try clear hfz20_5
             try clear hfz22_0
             try clear hfz22_1
             try clear hfz22_2
             try clear hfz22_3
             try clear hfz22_4
             try clear hfz22_5
             try clear hfz24_0
             try clear hfz24_1
             try clear hfz24_2
             try clear hfz24_3
             try clear hfz24_4
             try clear hfz24_5
             try clear hfz25_0
             try clear hfz25_1
             try clear hfz25_2
             try clear hfz25_3
             try clear hfz25_4
             try clear hfz25_5
             try clear hfz27_0
             try clear hfz27_1
             try clear hfz27_2
             try clear hfz27_3
             try clear hfz27_4
             try clear hfz27_5
             try clear hfz32_0
             try clear hfz32_1
             try clear hfz32_2
             try clear hfz32_3
             try clear hfz32_4
             try clear hfz32_5
             try clear hfz35_0
             try clear hfz35_1
             try clear hfz35_2
             try clear hfz35_3
             try clear hfz35_4
             try clear hfz35_5
             try clear hfz36_0
             try clear hfz36_1
             try clear hfz36_2
             try clear hfz36_3
             try clear hfz36_4
             try clear hfz36_5
             try clear hfz37_0
             try clear hfz37_1
             try clear hfz37_2
             try clear hfz37_3
             try clear hfz37_4
             try clear hfz37_5
             try clear hfz8_0
             try clear hfz8_1
             try clear hfz8_2
             try clear hfz8_3
             try clear hfz8_4
             try clear hfz8_5
             try clear hx327_0
             try clear hx327_1
             try clear hx327_2
             try clear hx327_3
             try clear hx327_4
             try clear hx327_5
             try clear p2
             try clear p3
             try clear p32
             try clear p327
             try clear q3
             try clear q32
             try clear q327
             obtain ⟨x74_4, rfl, HA, HK4, HO_72, BK328, HB⟩ := hrel
             cases gk with
             | zero => exact absurd HA.out (by simp [impl_linesOk.l1])
             | succ k4 =>
              have H := HA.out
              clear HA
              simp only [impl_linesOk.l1] at H
              by_cases c42 : x74_4 < (t336.length : Int)
              ·
               rw [if_pos c42] at H
               have c42b0 := decide_eq_true c42
               clear c42
               by_cases c43 : 0 ≤ x74_4
               ·
                rw [if_pos c43] at H
                have c43b0 := decide_eq_true c43
                clear c43
                by_cases c44 : x74_4 < (t336.length : Int)
                ·
                 rw [if_pos c44] at H
                 have c44b0 := decide_eq_true c44
                 clear c44
                 replace H := Option.bind_eq_some_iff.mp H
                 obtain ⟨t340, A450, H⟩ := H
                 try dsimp only at H
                 have A45 := A_ A450
                 clear A450
                 by_cases c46 : t340 < 0
                 ·
                  rw [if_pos c46] at H
                  have c46b0 := decide_eq_true c46
                  clear c46
                  obtain rfl := Option.some.inj H
                  have p339 : 0 ≤ (x74_4 : Int) := of_decide_eq_true (by assumption)
                  have q339 : x74_4 < (t336.length : Int) := of_decide_eq_true (by assumption)
                  obtain ⟨ad339, e339, hx339_0⟩ := Kd.at_string (Kd.R_reads' HO_72.out).2.2 x74_4 p339 q339
                  cases e339
                  replace p339 := eq_true p339
                  replace q339 := eq_true q339
                  go_wp2_with (first | ((with_reducible refine gate_callee (f := 79) rfl ?_); refine goesL_ (some 80) rfl rfl Try.func79 (by kernel_rfl) rfl #[.slice (some ad327) l0.length c0, .string (rdOf ByteArray.empty t336 x74_4)] rfl z9_3_ ?_; (with_reducible refine (impl_lineOf.calls _ _ l0 (rdOf ByteArray.empty t336 x74_4) t340 _ ?side1 ?side2 A45.out).mono ?_); (case side1 => have hx_ := (Kd.C_below HR0.out HB.out); exact kc_); (case side2 => exact HC0.out); rintro e w47 ⟨rfl, hb⟩; refine ⟨_, rfl, ?_⟩; have _ := A_ (Kd.R_below z9_14_ hb); have _ := A_ (blk_below (g := gb328) (o := .cells #[.string ((rd_T45 l0 x12_1).f0), .int .i8 ((rd_T45 l0 x12_1).f1), .string ((rd_T45 l0 x12_1).f2), .string ((rd_T45 l0 x12_1).f3), .int .i64 ((rd_T45 l0 x12_1).f4), .int .i64 ((rd_T45 l0 x12_1).f5)] 45 (0, 0)) z9_5_ hb); have _ := A_ (below_step z9_2_ hb); clear HO_72 BK328 HB; rename_i HO_72 BK328 HB; (try clear hb)))
                  go_ret
                  exact ⟨z9_8_, z9_2_⟩
                 ·
                  rw [if_neg c46] at H
                  have c46b0 := decide_eq_false c46
                  clear c46
                  have H' := A_ H
                  clear H
                  have p339 : 0 ≤ (x74_4 : Int) := of_decide_eq_true (by assumption)
                  have q339 : x74_4 < (t336.length : Int) := of_decide_eq_true (by assumption)
                  obtain ⟨ad339, e339, hx339_0⟩ := Kd.at_string (Kd.R_reads' HO_72.out).2.2 x74_4 p339 q339
                  cases e339
                  replace p339 := eq_true p339
                  replace q339 := eq_true q339
                  go_wp2_with (first | ((with_reducible refine gate_callee (f := 79) rfl ?_); refine goesL_ (some 80) rfl rfl Try.func79 (by kernel_rfl) rfl #[.slice (some ad327) l0.length c0, .string (rdOf ByteArray.empty t336 x74_4)] rfl z9_3_ ?_; (with_reducible refine (impl_lineOf.calls _ _ l0 (rdOf ByteArray.empty t336 x74_4) t340 _ ?side1 ?side2 A45.out).mono ?_); (case side1 => have hx_ := (Kd.C_below HR0.out HB.out); exact kc_); (case side2 => exact HC0.out); rintro e w48 ⟨rfl, hb⟩; refine ⟨_, rfl, ?_⟩; have _ := A_ (Kd.R_below z9_14_ hb); have _ := A_ (blk_below (g := gb328) (o := .cells #[.string ((rd_T45 l0 x12_1).f0), .int .i8 ((rd_T45 l0 x12_1).f1), .string ((rd_T45 l0 x12_1).f2), .string ((rd_T45 l0 x12_1).f3), .int .i64 ((rd_T45 l0 x12_1).f4), .int .i64 ((rd_T45 l0 x12_1).f5)] 45 (0, 0)) z9_5_ hb); have _ := A_ (below_step z9_2_ hb); clear HO_72 BK328 HB; rename_i HO_72 BK328 HB; (try clear hb)))
                  go_roundg k4
                  case measure => have := HK1.out; have := HJ5.out; have := HJ28.out; have := HK4.out; omega
                  case rel => exact ⟨(wrap64 (x74_4 + 1)), z9_6_, H', ⟨(by have := HK1.out; have := HJ5.out; have := HJ28.out; have := HK4.out; omega)⟩, ⟨z9_14_⟩, ⟨z9_5_⟩, ⟨z9_2_⟩⟩
                ·
                 rw [if_neg c44] at H
                 exact absurd H (by simp)
               ·
                rw [if_neg c43] at H
                exact absurd H (by simp)
              ·
               rw [if_neg c42] at H
               have c42b0 := decide_eq_false c42
               clear c42
               have H' := A_ H
               clear H
               go_wp2
               go_roundg k4
               case measure => have := HK1.out; have := HJ5.out; have := HJ28.out; have := HK4.out; omega
               case rel => exact ⟨(wrap64 (x12_1 + 1)), z9_6_, H', ⟨(by have := HK1.out; have := HJ5.out; have := HJ28.out; have := HK4.out; omega)⟩, ⟨z9_2_⟩⟩
     ·
      rw [if_neg c4] at H
      exact absurd H (by simp)
    ·
     rw [if_neg c3] at H
     exact absurd H (by simp)
   ·
    rw [if_neg c2] at H
    have c2b0 := decide_eq_false c2
    clear c2
    obtain rfl := Option.some.inj H
    go_wp2
    go_ret
    exact ⟨z9_8_, z9_7_⟩
end Go.Proofs.Ytenhgmddpkiliaa.PB

import Derived.Test.YtififhihgkbafaaPMx0
import Derived.Test.YtififhihgkbafaaPMx2
import Derived.Test.YtififhihgkbafaaPMx3
namespace Go.Proofs.Ytififhihgkbafaa.PM
open Go.RowKit Go.Proofs.YtififhihgkbafaaW.PrintWords Go.Proofs.YtififhihgkbafaaW.PrintLast Go.Proofs.YtififhihgkbafaaW.PrintMore Go.Proofs.YtififhihgkbafaaRP
attribute [local go_sem] max2_int min2_int max_two min_two max_three min_three max_four min_four Go.Proofs.YtififhihgkbafaaRP.max_eight Go.Proofs.YtififhihgkbafaaRP.tmod_len   -- for this text's walks alone
set_option linter.unusedVariables false
set_option linter.unusedSimpArgs false
theorem z4_1_ {P : Prop} (h : P := by repeat (first | (with_reducible first | exact HB.out | apply below_alloc | apply pw_below_drewN | apply below_drew1) | exact HB.out)) : P := h
theorem z4_2_ {P : Prop} (h : P := by repeat (first | (with_reducible first | exact HB.out | apply below_alloc | apply pw_below_drewN | apply below_drew1 | refine below_set ?_ GE180.out | refine below_set ?_ GE184.out) | exact HB.out)) : P := h
theorem z4_3_ {P : Prop} (h : P := by (with_reducible repeat (first | refine blk_drewN ?_ _ | refine blk_drew ?_ | refine blk_alloc ?_ _)); exact BK180.out) : P := h
theorem z4_4_ {P : Prop} (h : P := by (try simp only [List.map_toArray, List.map_cons, List.map_nil]); first | done | rfl | (simp only [List.length_drop, List.length_take]; rfl)) : P := h
theorem z4_5_ {P : Prop} (h : P := by (with_reducible repeat (first | refine blk_drewN ?_ _ | refine blk_drew ?_ | refine blk_alloc ?_ _)); exact BK201.out) : P := h
theorem z4_6_ {P : Prop} (h : P := by rw [hw]; exact (by (with_reducible repeat (first | refine blk_drewN ?_ _ | refine blk_drew ?_ | refine blk_alloc ?_ _)); refine blk_far ?_ NB184_180.out _; (with_reducible repeat (first | refine blk_drewN ?_ _ | refine blk_drew ?_ | refine blk_alloc ?_ _)); refine blk_far ?_ NB184_180.out _; (with_reducible repeat (first | refine blk_drewN ?_ _ | refine blk_drew ?_ | refine blk_alloc ?_ _)); refine blk_far ?_ NB184_180.out _; (with_reducible repeat (first | refine blk_drewN ?_ _ | refine blk_drew ?_ | refine blk_alloc ?_ _)); refine blk_far ?_ NB184_180.out _; (with_reducible repeat (first | refine blk_drewN ?_ _ | refine blk_drew ?_ | refine blk_alloc ?_ _)); exact BK184.out)) : P := h
theorem z4_7_ {P : Prop} (h : P := by repeat (first | (with_reducible first | exact HB.out | apply below_alloc | apply pw_below_drewN | apply below_drew1 | refine below_set ?_ GE201.out | refine below_set ?_ GE202.out) | exact HB.out)) : P := h
theorem z4_8_ {P : Prop} (h : P := by (with_reducible repeat (first | apply Kd.R_alloc | apply Kd.R_drewN | apply Kd.R_drew)); exact HO_8.out) : P := h
theorem z4_9_ {P : Prop} (h : P := by first | rfl | (simp; done) | (simp [*]; done) | (simp [isE_]; done)) : P := h
theorem z4_10_ {P : Prop} (h : P := by (with_reducible repeat (first | refine blk_drewN ?_ _ | refine blk_drew ?_ | refine blk_alloc ?_ _)); exact BK184.out) : P := h
theorem z4_11_ {P : Prop} (h : P := by rw [hw]; exact (by (with_reducible repeat (first | refine blk_drewN ?_ _ | refine blk_drew ?_ | refine blk_alloc ?_ _)); refine blk_put (cs := #[.int .i64 t189, .int .i64 t190, .int .i64 t191, .int .i64 x181003_13]) ?_ 3 _ rfl; (with_reducible repeat (first | refine blk_drewN ?_ _ | refine blk_drew ?_ | refine blk_alloc ?_ _)); refine blk_put (cs := #[.int .i64 t189, .int .i64 t190, .int .i64 x181002_13, .int .i64 x181003_13]) ?_ 2 _ rfl; (with_reducible repeat (first | refine blk_drewN ?_ _ | refine blk_drew ?_ | refine blk_alloc ?_ _)); refine blk_put (cs := #[.int .i64 t189, .int .i64 x181001_13, .int .i64 x181002_13, .int .i64 x181003_13]) ?_ 1 _ rfl; (with_reducible repeat (first | refine blk_drewN ?_ _ | refine blk_drew ?_ | refine blk_alloc ?_ _)); refine blk_put (cs := #[.int .i64 x181000_13, .int .i64 x181001_13, .int .i64 x181002_13, .int .i64 x181003_13]) ?_ 0 _ rfl; (with_reducible repeat (first | refine blk_drewN ?_ _ | refine blk_drew ?_ | refine blk_alloc ?_ _)); exact BK180.out)) : P := h
theorem z4_12_ {P : Prop} (h : P := by repeat (first | (with_reducible first | exact HB.out | apply below_alloc | apply pw_below_drewN | apply below_drew1 | refine below_set ?_ GE180.out) | exact HB.out)) : P := h
theorem z4_13_ {P : Prop} (h : P := by repeat (first | (with_reducible first | exact HB.out | apply below_alloc | apply pw_below_drewN | apply below_drew1 | refine below_set ?_ GE215.out) | exact HB.out)) : P := h
theorem z4_14_ {P : Prop} (h : P := by repeat (first | (with_reducible first | exact HB.out | apply below_alloc | apply pw_below_drewN | apply below_drew1 | refine below_set ?_ GE201.out) | exact HB.out)) : P := h
theorem z4_15_ {P : Prop} (h : P := by (with_reducible repeat (first | refine blk_drewN ?_ _ | refine blk_drew ?_ | refine blk_alloc ?_ _)); exact BK202.out) : P := h
theorem z4_16_ {P : Prop} (h : P := by first | rfl | (simp [errW_none, errW_some] <;> rfl) | (simp [*, errW_none, errW_some] <;> rfl)) : P := h
theorem z4_17_ {P : Prop} (h : P := by rw [hw]; exact (by (with_reducible repeat (first | apply Kd.R_alloc | apply Kd.R_drewN | apply Kd.R_drew)); exact Kd.R_mono (Kd.R_far (p := ⟨gb180, 3, none⟩) (Kd.R_far (p := ⟨gb180, 2, none⟩) (Kd.R_far (p := ⟨gb180, 1, none⟩) (Kd.R_far (p := ⟨gb180, 0, none⟩) (Kd.R_types HO_8.out BK180.out (by decide)) (fun _ hk => hk.2) (.int .i64 t189)) (fun _ hk => hk.2) (.int .i64 t190)) (fun _ hk => hk.2) (.int .i64 t191)) (fun _ hk => hk.2) (.int .i64 t192)) (fun _ hk => hk.1))) : P := h
theorem z4_18_ {P : Prop} (h : P := by repeat (first | exact (Kd.C_below HR1_1.out HB.out) | (with_reducible refine Kd.C_alloc ?_ _) | (with_reducible refine Kd.C_drewN ?_ _) | (with_reducible refine Kd.C_drew ?_))) : P := h
theorem z4_19_ {P : Prop} (h : P := by repeat (first | exact (Kd.C_below HR1_0.out HB.out) | (with_reducible refine Kd.C_alloc ?_ _) | (with_reducible refine Kd.C_drewN ?_ _) | (with_reducible refine Kd.C_drew ?_))) : P := h
theorem z4_20_ {P : Prop} (h : P := by (with_reducible repeat (first | refine blk_drewN ?_ _ | refine blk_drew ?_ | refine blk_alloc ?_ _)); exact BK215.out) : P := h
theorem z4_21_ {P : Prop} (h : P := by (with_reducible repeat (first | apply Kd.R_alloc | apply Kd.R_drewN | apply Kd.R_drew)); exact HO174.out) : P := h
theorem z4_22_ {P : Prop} (h : P := by repeat (first | (with_reducible first | exact HB.out | apply below_alloc | apply pw_below_drewN | apply below_drew1 | refine below_set ?_ GE224.out) | exact HB.out)) : P := h
theorem z4_23_ {P : Prop} (h : P := by rw [hw]; exact z4_2_) : P := h
/-! ### spec_l03Run: function 41 -/
mutual
def spec_l03Run.l0 : Nat → List (S33) → Int → List (S51) → Int → Int → Int → Int → Int → Int → Option ((List (S51)) × Int)
 | 0, _, _, _, _, _, _, _, _, _ => none
 | k + 1, x1, x2, x8, x10, x11, x181000, x181001, x181002, x181003 => if x10 < x2 then ((spec_l03Told.f [(⟨x181000, x181001, x181002, x181003⟩ : S31)]).bind fun bt182 => (if bt182.2 = true then (spec_l03Run.j1 k x1 x2 x8 (wrap64 (x10 + 1)) x11 (wrap64 ((wrap64 (2 * x181000)) - (wrap64 (bt182.1 * x181002)))) (wrap64 ((wrap64 (2 * x181001)) - (wrap64 (bt182.1 * x181003)))) x181002 x181003 bt182.2 (IntKind.i8.wrap (bt182.1)) 0 0 0 0) else (if x11 = 400 then (some ((([] : List (S51))), 7)) else ((spec_l03At.f x1 x11).bind fun t188 => (spec_l03Run.j1 k x1 x2 x8 x10 (wrap64 (x11 + 1)) x181000 (wrap64 ((wrap64 (x181000 * (wrap64 (t188)))) + (wrap64 (2 * x181001)))) x181002 (wrap64 ((wrap64 (x181002 * (wrap64 (t188)))) + (wrap64 (2 * x181003)))) bt182.2 t188 0 0 0 0))))) else (some (x8, 0))
def spec_l03Run.j1 : Nat → List (S33) → Int → List (S51) → Int → Int → Int → Int → Int → Int → Bool → Int → Int → Int → Int → Int → Option ((List (S51)) × Int)
 | 0, _, _, _, _, _, _, _, _, _, _, _, _, _, _, _ => none
 | k + 1, x1, x2, x8, x10, x11, x181000, x181001, x181002, x181003, x185000, x185001, x185002, x185003, x185004, x185005 => (spec_l03Less.f k x181000 x181001 x181002 x181003).bind fun bt189 => ((spec_l03Fits.f [(⟨bt189.1, bt189.2.1, bt189.2.2.1, bt189.2.2.2⟩ : S31)] 288230376151711744).bind fun t194 => (if t194 = true then (if x8.length < 3518437208883 then (spec_l03Run.l0 k x1 x2 (x8 ++ [(⟨x185000, x185001, (⟨bt189.1, bt189.2.1, bt189.2.2.1, bt189.2.2.2⟩ : S31)⟩ : S51)]) x10 x11 bt189.1 bt189.2.1 bt189.2.2.1 bt189.2.2.2) else (none)) else (some ((([] : List (S51))), 3))))
end
def spec_l03Run.f (k : Nat) (l0 : List (S31)) (l1 : List (S33)) (a2 : Int) : Option ((List (S51)) × Int) := if 0 < (l0.length : Int) then ((spec_l03Less.f k ((rd_T31 l0 0).f0) ((rd_T31 l0 0).f1) ((rd_T31 l0 0).f2) ((rd_T31 l0 0).f3)).bind fun bt176 => (spec_l03Run.l0 k l1 a2 (([] : List (S51))) 0 0 bt176.1 bt176.2.1 bt176.2.2.1 bt176.2.2.2)) else (none)
theorem spec_l03Run.mono_l : ∀ k, (∀ y0 y1 y2 y3 y4 y5 y6 y7 y8, LeO (spec_l03Run.l0 k y0 y1 y2 y3 y4 y5 y6 y7 y8) (spec_l03Run.l0 (k + 1) y0 y1 y2 y3 y4 y5 y6 y7 y8)) ∧ (∀ y0 y1 y2 y3 y4 y5 y6 y7 y8 y9 y10 y11 y12 y13 y14, LeO (spec_l03Run.j1 k y0 y1 y2 y3 y4 y5 y6 y7 y8 y9 y10 y11 y12 y13 y14) (spec_l03Run.j1 (k + 1) y0 y1 y2 y3 y4 y5 y6 y7 y8 y9 y10 y11 y12 y13 y14))
 | 0 => ⟨fun _ _ _ _ _ _ _ _ _ r h => by simp [spec_l03Run.l0] at h, fun _ _ _ _ _ _ _ _ _ _ _ _ _ _ _ r h => by simp [spec_l03Run.j1] at h⟩
 | k + 1 => by
  obtain ⟨ih0, ih1⟩ := spec_l03Run.mono_l k
  refine ⟨?_, ?_⟩
  ·
   intro y0 y1 y2 y3 y4 y5 y6 y7 y8
   unfold spec_l03Run.l0
   repeat' first
   | (with_reducible exact ih0 _ _ _ _ _ _ _ _ _)
   | (with_reducible exact ih1 _ _ _ _ _ _ _ _ _ _ _ _ _ _ _)
   | (with_reducible exact spec_l03Less.mono _ _ _ _ _)
   | (with_reducible exact LeO.refl _)
   | (with_reducible exact LeO.none _)
   | (with_reducible refine LeO.ite ?_ ?_)
   | (with_reducible refine LeO.bind ?_ (fun _ => ?_))
   | exact ih0 _ _ _ _ _ _ _ _ _
   | exact ih1 _ _ _ _ _ _ _ _ _ _ _ _ _ _ _
   | exact LeO.none _
   | refine LeO.ite ?_ ?_
   | refine LeO.bind ?_ (fun _ => ?_)
  ·
   intro y0 y1 y2 y3 y4 y5 y6 y7 y8 y9 y10 y11 y12 y13 y14
   unfold spec_l03Run.j1
   repeat' first
   | (with_reducible exact ih0 _ _ _ _ _ _ _ _ _)
   | (with_reducible exact ih1 _ _ _ _ _ _ _ _ _ _ _ _ _ _ _)
   | (with_reducible exact spec_l03Less.mono _ _ _ _ _)
   | (with_reducible exact LeO.refl _)
   | (with_reducible exact LeO.none _)
   | (with_reducible refine LeO.ite ?_ ?_)
   | (with_reducible refine LeO.bind ?_ (fun _ => ?_))
   | exact ih0 _ _ _ _ _ _ _ _ _
   | exact ih1 _ _ _ _ _ _ _ _ _ _ _ _ _ _ _
   | exact LeO.none _
   | refine LeO.ite ?_ ?_
   | refine LeO.bind ?_ (fun _ => ?_)
theorem spec_l03Run.mono : ∀ a0 a1 a2 k, LeO (spec_l03Run.f k a0 a1 a2) (spec_l03Run.f (k + 1) a0 a1 a2) := by
 intro a0 a1 a2 k
 obtain ⟨ih0, ih1⟩ := spec_l03Run.mono_l k
 unfold spec_l03Run.f
 repeat' first
   | (with_reducible exact ih0 _ _ _ _ _ _ _ _ _)
   | (with_reducible exact ih1 _ _ _ _ _ _ _ _ _ _ _ _ _ _ _)
   | (with_reducible exact spec_l03Less.mono _ _ _ _ _)
   | (with_reducible exact LeO.refl _)
   | (with_reducible exact LeO.none _)
   | (with_reducible refine LeO.ite ?_ ?_)
   | (with_reducible refine LeO.bind ?_ (fun _ => ?_))
   | exact ih0 _ _ _ _ _ _ _ _ _
   | exact ih1 _ _ _ _ _ _ _ _ _ _ _ _ _ _ _
   | exact LeO.none _
   | refine LeO.ite ?_ ?_
   | refine LeO.bind ?_ (fun _ => ?_)
set_option maxHeartbeats 8000000 in
set_option maxRecDepth 100000 in
theorem spec_l03Run.calls (k : Nat) (A0 : Option Addr) (c0 : Nat) (l0 : List (S31)) (A1 : Option Addr) (c1 : Nat) (l1 : List (S33)) (a2 : Int) (r1 : List (S51)) (r2 : Int) (w : World) (hr0 : Kd.C k31 w A0 l0.length l0) (hc0 : l0.length ≤ c0) (hr1 : Kd.C k33 w A1 l1.length l1) (hc1 : l1.length ≤ c1) (h : spec_l03Run.f k l0 l1 a2 = some (r1, r2)) :
  Calls Try.prog 41 #[.pointer A0, .pointer A1, .int .i64 a2] w fun e w' => ∃ v0_ : Value, e = .returned (.tuple #[v0_, .int .i64 r2]) ∧ Kd.R k51 51 w' w.heap.size (fun _ => True) v0_ r1 ∧ Below w.heap.size w w' := by
 have hu31 := Try.underlying31
 have hu51 := Try.underlying51
 have HR0 := A_ hr0
 have HC0 := A_ hc0
 clear hr0 hc0
 have HR1 := A_ hr1
 have HC1 := A_ hc1
 clear hr1 hc1
 have HB := A_ (Below.refl w.heap.size w)
 have H : (if 0 < (l0.length : Int) then ((spec_l03Less.f k ((rd_T31 l0 0).f0) ((rd_T31 l0 0).f1) ((rd_T31 l0 0).f2) ((rd_T31 l0 0).f3)).bind fun bt176 => (spec_l03Run.l0 k l1 a2 (([] : List (S51))) 0 0 bt176.1 bt176.2.1 bt176.2.2.1 bt176.2.2.2)) else (none)) = some (r1, r2) := h
 clear h
 obtain ⟨y172, hy172⟩ : ∃ y_ : List (S51), y_ = (([] : List (S51))) := ⟨_, rfl⟩
 replace H : (if 0 < (l0.length : Int) then ((spec_l03Less.f k ((rd_T31 l0 0).f0) ((rd_T31 l0 0).f1) ((rd_T31 l0 0).f2) ((rd_T31 l0 0).f3)).bind fun bt176 => (spec_l03Run.l0 k l1 a2 y172 0 0 bt176.1 bt176.2.1 bt176.2.2.1 bt176.2.2.2)) else (none)) = some (r1, r2) := by first | (rw [hy172]; with_reducible exact H) | (have H2_ := (Option.bind_some _ _).symm.trans H; rw [hy172]; with_reducible exact H2_) | (have H2_ := (Option.bind_some _ _).symm.trans H; with_reducible exact H2_) | with_reducible exact H | (rw [hy172]; exact H) | exact H
 have Ny172 := A_ hy172
 clear hy172
 by_cases c4 : 0 < (l0.length : Int)
 ·
  rw [if_pos c4] at H
  have c4b0 := decide_eq_true c4
  have c4b1 : decide (0 < l0.length) = true := decide_eq_true (by omega)
  clear c4
  replace H := Option.bind_eq_some_iff.mp H
  obtain ⟨⟨t176, t177, t178, t179⟩, A50, H⟩ := H
  try dsimp only at H
  have A5 := A_ A50
  clear A50
  have H' := A_ H
  clear H
  go_enter Try.func41, Try.ntmps41
  go_wp2_with (first | ((with_reducible refine gate_dst (N := 16) rfl ?_); refine Kd.R_lit k51 _ 51 ?hg (N := 16) ?hd (xs := ([] : List (S51))) (inner := []) (ok := fun _ => True) (okp := fun _ => True) ?hr ?hp (fun _ hk => hk) trivial (Below.refl _ _) (Nat.le_refl _) (by simp) ?_; (case hd => rfl); (case hg => rfl); (case hr => first | (go_simp; done) | (go_simp; rfl)); (case hp => exact (Reps.none _ _)); intro v173 w6 ho7 hb hg_ hnew_; clear hg_ hnew_; (first | rw [← Ny172.out] at ho7 | (simp only [Int.reduceToNat] at ho7; rw [← Ny172.out] at ho7)); have _ := A_ (Kd.R_lower ho7 (below_size z4_1_)); have _ := A_ (below_step z4_1_ hb); clear HB; rename_i HO174 HB; clear hb ho7; have q175 : 0 < (l0.length : Int) := of_decide_eq_true (by assumption); obtain ⟨ad175, e175, hx175_0, hx175_1, hx175_2, hx175_3⟩ := rp_T31 HR0.out q175; cases e175; replace hx175_0 := cel HB.out hx175_0; replace hx175_1 := cel HB.out hx175_1; replace hx175_2 := cel HB.out hx175_2; replace hx175_3 := cel HB.out hx175_3) | ((with_reducible refine gate_callee (f := 68) rfl ?_); refine goesL_ (some 20) rfl rfl Try.func68 (by kernel_rfl) rfl #[.agg #[.int .i64 ((rd_T31 l0 0).f0), .int .i64 ((rd_T31 l0 0).f1), .int .i64 ((rd_T31 l0 0).f2), .int .i64 ((rd_T31 l0 0).f3)]] rfl z4_4_ ?_; (with_reducible refine (spec_l03Less.calls k ((rd_T31 l0 0).f0) ((rd_T31 l0 0).f1) ((rd_T31 l0 0).f2) ((rd_T31 l0 0).f3) t176 t177 t178 t179 _ A5.out).mono ?_); rintro e w8 ⟨rfl, hb⟩; refine ⟨_, rfl, ?_⟩; have _ := A_ (Kd.R_below z4_21_ hb); have _ := A_ (below_step z4_1_ hb); clear HO174 HB; rename_i HO174 HB; (try clear hb)) | ((with_reducible refine gate_dst (N := 9) rfl ?_); refine box_event ?hg (N := 9) ?hd (cs := #[.int .i64 0, .int .i64 0, .int .i64 0, .int .i64 0]) (t := 31) ?hr ?_; (case hd => rfl); (case hg => rfl); (case hr => first | (go_simp; done) | (go_simp; rfl)); intro gb180 hg w9 hbox hb; have _ := A_ (Kd.R_below z4_21_ hb); have _ := A_ (below_step z4_1_ hb); have _ := A_ (hbox); have _ := A_ ((by rw [hg]; exact (below_size z4_1_) : w.heap.size ≤ gb180)); have _ := A_ ((by rw [hg]; exact (below_size z4_1_) : w.heap.size ≤ gb180)); clear HO174 HB; rename_i HO174 HB BK180 GW180 GE180; clear hb hbox hg; obtain ⟨hcz10_0, hcz10_1, hcz10_2, hcz10_3⟩ := bc4 BK180.out; obtain ⟨hfz10_0, hfz10_1, hfz10_2, hfz10_3⟩ := bf4 BK180.out) | ((with_reducible refine gate_store (t := 31) (p := 9) rfl ?_); refine store_event (t := 31) (p := 9) (v := ?vo_w11) (w1 := ((((w9.setCell ⟨gb180, 0, none⟩ (.int .i64 t176)).setCell ⟨gb180, 1, none⟩ (.int .i64 t177)).setCell ⟨gb180, 2, none⟩ (.int .i64 t178)).setCell ⟨gb180, 3, none⟩ (.int .i64 t179))) ?hg ?ho ?hn ?hr ?_; (case ho => rfl); (case hg => rfl); (case hn => rfl); (case hr => first | (go_simp; done) | (go_simp; rfl)); intro w11 hw; have n0_ : Aside0 (Kd.R k51 51 w11 w.heap.size (fun _ => True) v173 y172) := ⟨(by rw [hw]; exact (by (with_reducible repeat (first | apply Kd.R_alloc | apply Kd.R_drewN | apply Kd.R_drew)); exact Kd.R_mono (Kd.R_far (p := ⟨gb180, 3, none⟩) (Kd.R_far (p := ⟨gb180, 2, none⟩) (Kd.R_far (p := ⟨gb180, 1, none⟩) (Kd.R_far (p := ⟨gb180, 0, none⟩) (Kd.R_types HO174.out BK180.out (by decide)) (fun _ hk => hk.2) (.int .i64 t176)) (fun _ hk => hk.2) (.int .i64 t177)) (fun _ hk => hk.2) (.int .i64 t178)) (fun _ hk => hk.2) (.int .i64 t179)) (fun _ hk => trivial)))⟩; have n1_ : Aside0 (w11.heap[gb180]? = some (.cells #[.int .i64 t176, .int .i64 t177, .int .i64 t178, .int .i64 t179] 31 (0, 0))) := ⟨(by rw [hw]; exact (by (with_reducible repeat (first | refine blk_drewN ?_ _ | refine blk_drew ?_ | refine blk_alloc ?_ _)); refine blk_put (cs := #[.int .i64 t176, .int .i64 t177, .int .i64 t178, .int .i64 0]) ?_ 3 _ rfl; (with_reducible repeat (first | refine blk_drewN ?_ _ | refine blk_drew ?_ | refine blk_alloc ?_ _)); refine blk_put (cs := #[.int .i64 t176, .int .i64 t177, .int .i64 0, .int .i64 0]) ?_ 2 _ rfl; (with_reducible repeat (first | refine blk_drewN ?_ _ | refine blk_drew ?_ | refine blk_alloc ?_ _)); refine blk_put (cs := #[.int .i64 t176, .int .i64 0, .int .i64 0, .int .i64 0]) ?_ 1 _ rfl; (with_reducible repeat (first | refine blk_drewN ?_ _ | refine blk_drew ?_ | refine blk_alloc ?_ _)); refine blk_put (cs := #[.int .i64 0, .int .i64 0, .int .i64 0, .int .i64 0]) ?_ 0 _ rfl; (with_reducible repeat (first | refine blk_drewN ?_ _ | refine blk_drew ?_ | refine blk_alloc ?_ _)); exact BK180.out))⟩; have n2_ : Aside0 (Below w.heap.size w w11) := ⟨(by rw [hw]; exact z4_12_)⟩; clear hw; clear HO174; clear BK180; clear HB; have HO174 := n0_; have BK180 := n1_; have HB := n2_; clear n0_ n1_ n2_))
  go_loopg [8, 10, 11] k (fun kq v8 v10 v11 w' => ∃ (x8_1 : List (S51)) (x10_1 : Int) (x11_1 : Int) (x181000_1 : Int) (x181001_1 : Int) (x181002_1 : Int) (x181003_1 : Int), v10 = .int .i64 x10_1 ∧ v11 = .int .i64 x11_1 ∧ Aside0 (spec_l03Run.l0 kq l1 a2 x8_1 x10_1 x11_1 x181000_1 x181001_1 x181002_1 x181003_1 = some (r1, r2)) ∧ Aside0 (kq ≤ k) ∧ Aside0 (Kd.R k51 51 w' w.heap.size (fun _ => True) v8 x8_1) ∧ Aside0 (w'.heap[gb180]? = some (.cells #[.int .i64 x181000_1, .int .i64 x181001_1, .int .i64 x181002_1, .int .i64 x181003_1] 31 (0, 0))) ∧ Aside0 (Below w.heap.size w w'))
  case atStart => exact ⟨(y172), (0), (0), (t176), (t177), (t178), (t179), z4_9_, z4_9_, H', ⟨Nat.le_refl _⟩, ⟨z4_21_⟩, ⟨z4_3_⟩, ⟨z4_12_⟩⟩
  case round =>
   clear H'
   try clear c1
   try clear q1
   try clear hx1
   try clear p2
   try clear c4
   try clear c4b0
   try clear c4b1
   try clear c6
   try clear hcz10_0
   try clear hcz10_1
   try clear hcz10_2
   try clear hcz10_3
   try clear hfz10_0
   try clear hfz10_1
   try clear hfz10_2
   try clear hfz10_3
   try clear hx175_0
   try clear hx175_1
   try clear hx175_2
   try clear hx175_3
   try clear q175
   obtain ⟨x8_1, x10_1, x11_1, x181000_1, x181001_1, x181002_1, x181003_1, rfl, rfl, HA, HK1, HO_8, BK180, HB⟩ := hrel
   cases gk with
   | zero => exact absurd HA.out (by simp [spec_l03Run.l0])
   | succ k1 =>
    have H := HA.out
    clear HA
    simp only [spec_l03Run.l0] at H
    by_cases c12 : x10_1 < a2
    ·
     rw [if_pos c12] at H
     have c12b0 := decide_eq_true c12
     clear c12
     replace H := Option.bind_eq_some_iff.mp H
     obtain ⟨⟨t182, t183⟩, A130, H⟩ := H
     try dsimp only at H
     have A13 := A_ A130
     clear A130
     have HC14 := A_ H
     clear H
     go_upto_if 30 with (first | ((with_reducible refine gate_callee (f := 72) rfl ?_); refine goesL_ (some 25) rfl rfl Try.func72 (by kernel_rfl) rfl #[.pointer (some ⟨gb180, 0, none⟩)] rfl z4_4_ ?_; (with_reducible refine (spec_l03Told.calls _ ([(⟨x181000_1, x181001_1, x181002_1, x181003_1⟩ : S31)]).length [(⟨x181000_1, x181001_1, x181002_1, x181003_1⟩ : S31)] t182 t183 _ ?side1 ?side2 A13.out).mono ?_); (case side1 => refine Kd.C_block k31 (g := gb180) (cs := #[.int .i64 x181000_1, .int .i64 x181001_1, .int .i64 x181002_1, .int .i64 x181003_1]) (T := 31) z4_3_ (show Kd.K k31 _ (⟨x181000_1, x181001_1, x181002_1, x181003_1⟩ : S31) [.int .i64 x181000_1, .int .i64 x181001_1, .int .i64 x181002_1, .int .i64 x181003_1] from k31_mk _ _) (by decide)); (case side2 => exact Nat.le_refl _); rintro e w15 ⟨rfl, hb⟩; refine ⟨_, rfl, ?_⟩; have _ := A_ (Kd.R_below z4_8_ hb); have _ := A_ (blk_below (g := gb180) (o := .cells #[.int .i64 x181000_1, .int .i64 x181001_1, .int .i64 x181002_1, .int .i64 x181003_1] 31 (0, 0)) z4_3_ hb); have _ := A_ (below_step z4_12_ hb); clear HO_8 BK180 HB; rename_i HO_8 BK180 HB; (try clear hb)) | ((with_reducible refine gate_dst (N := 14) rfl ?_); refine box_event ?hg (N := 14) ?hd (cs := #[.bool false, .int .i8 0, .int .i64 0, .int .i64 0, .int .i64 0, .int .i64 0]) (t := 51) ?hr ?_; (case hd => rfl); (case hg => rfl); (case hr => first | (go_simp; done) | (go_simp; rfl)); intro gb184 hg w16 hbox hb; have _ := A_ (Kd.R_below (Kd.R_elderB z4_8_ gb184 (Nat.le_of_eq hg.symm)) hb); have _ := A_ (blk_below (g := gb180) (o := .cells #[.int .i64 x181000_1, .int .i64 x181001_1, .int .i64 x181002_1, .int .i64 x181003_1] 31 (0, 0)) z4_3_ hb); have _ := A_ (below_step z4_12_ hb); have _ := A_ (hbox); have _ := A_ ((by rw [hg]; exact (below_size z4_12_) : w.heap.size ≤ gb184)); have _ := A_ ((by rw [hg]; exact (below_size z4_12_) : w.heap.size ≤ gb184)); have _ := A_ ((by rw [hg]; exact Nat.ne_of_lt (blk_lt (g := gb180) (o := .cells #[.int .i64 x181000_1, .int .i64 x181001_1, .int .i64 x181002_1, .int .i64 x181003_1] 31 (0, 0)) z4_3_) : gb180 ≠ gb184)); have _ := A_ ((by rw [hg]; exact Nat.ne_of_gt (blk_lt (g := gb180) (o := .cells #[.int .i64 x181000_1, .int .i64 x181001_1, .int .i64 x181002_1, .int .i64 x181003_1] 31 (0, 0)) z4_3_) : gb184 ≠ gb180)); clear HO_8 BK180 HB; rename_i HO_8 BK180 HB BK184 GW184 GE184 NB180_184 NB184_180; clear hb hbox hg; have hnb17 := NB184_180.out; have hnc17 := NB180_184.out; obtain ⟨hcz18_0, hcz18_1, hcz18_2, hcz18_3, hcz18_4, hcz18_5⟩ := bc6 BK184.out; obtain ⟨hfz18_0, hfz18_1, hfz18_2, hfz18_3, hfz18_4, hfz18_5⟩ := bf6 BK184.out) | ((with_reducible refine gate_store (t := 51) (p := 14) rfl ?_); refine store_event (t := 51) (p := 14) (v := ?vo_w19) (w1 := ((((((w16.setCell ⟨gb184, 0, none⟩ (.bool t183)).setCell ⟨gb184, 1, none⟩ (.int .i8 0)).setCell ⟨gb184, 2, none⟩ (.int .i64 0)).setCell ⟨gb184, 3, none⟩ (.int .i64 0)).setCell ⟨gb184, 4, none⟩ (.int .i64 0)).setCell ⟨gb184, 5, none⟩ (.int .i64 0))) ?hg ?ho ?hn ?hr ?_; (case ho => rfl); (case hg => rfl); (case hn => rfl); (case hr => first | (go_simp; done) | (go_simp; rfl)); intro w19 hw; have n0_ : Aside0 (Kd.R k51 51 w19 w.heap.size (fun k_ => k_ ≠ gb184) u8 x8_1) := ⟨(by rw [hw]; exact (by (with_reducible repeat (first | apply Kd.R_alloc | apply Kd.R_drewN | apply Kd.R_drew)); exact Kd.R_mono (Kd.R_far (p := ⟨gb184, 5, none⟩) (Kd.R_far (p := ⟨gb184, 4, none⟩) (Kd.R_far (p := ⟨gb184, 3, none⟩) (Kd.R_far (p := ⟨gb184, 2, none⟩) (Kd.R_far (p := ⟨gb184, 1, none⟩) (Kd.R_far (p := ⟨gb184, 0, none⟩) (Kd.R_mono HO_8.out (fun k_ hk => (⟨hk, hk.2⟩ : _ ∧ k_ ≠ gb184))) (fun _ hk => hk.2) (.bool t183)) (fun _ hk => hk.2) (.int .i8 0)) (fun _ hk => hk.2) (.int .i64 0)) (fun _ hk => hk.2) (.int .i64 0)) (fun _ hk => hk.2) (.int .i64 0)) (fun _ hk => hk.2) (.int .i64 0)) (fun _ hk => hk.1.2)))⟩; have n1_ : Aside0 (w19.heap[gb180]? = some (.cells #[.int .i64 x181000_1, .int .i64 x181001_1, .int .i64 x181002_1, .int .i64 x181003_1] 31 (0, 0))) := ⟨(by rw [hw]; exact (by (with_reducible repeat (first | refine blk_drewN ?_ _ | refine blk_drew ?_ | refine blk_alloc ?_ _)); refine blk_far ?_ NB180_184.out _; (with_reducible repeat (first | refine blk_drewN ?_ _ | refine blk_drew ?_ | refine blk_alloc ?_ _)); refine blk_far ?_ NB180_184.out _; (with_reducible repeat (first | refine blk_drewN ?_ _ | refine blk_drew ?_ | refine blk_alloc ?_ _)); refine blk_far ?_ NB180_184.out _; (with_reducible repeat (first | refine blk_drewN ?_ _ | refine blk_drew ?_ | refine blk_alloc ?_ _)); refine blk_far ?_ NB180_184.out _; (with_reducible repeat (first | refine blk_drewN ?_ _ | refine blk_drew ?_ | refine blk_alloc ?_ _)); refine blk_far ?_ NB180_184.out _; (with_reducible repeat (first | refine blk_drewN ?_ _ | refine blk_drew ?_ | refine blk_alloc ?_ _)); refine blk_far ?_ NB180_184.out _; (with_reducible repeat (first | refine blk_drewN ?_ _ | refine blk_drew ?_ | refine blk_alloc ?_ _)); exact BK180.out))⟩; have n2_ : Aside0 (w19.heap[gb184]? = some (.cells #[.bool t183, .int .i8 0, .int .i64 0, .int .i64 0, .int .i64 0, .int .i64 0] 51 (0, 0))) := ⟨(by rw [hw]; exact (by (with_reducible repeat (first | refine blk_drewN ?_ _ | refine blk_drew ?_ | refine blk_alloc ?_ _)); refine blk_put (cs := #[.bool t183, .int .i8 0, .int .i64 0, .int .i64 0, .int .i64 0, .int .i64 0]) ?_ 5 _ rfl; (with_reducible repeat (first | refine blk_drewN ?_ _ | refine blk_drew ?_ | refine blk_alloc ?_ _)); refine blk_put (cs := #[.bool t183, .int .i8 0, .int .i64 0, .int .i64 0, .int .i64 0, .int .i64 0]) ?_ 4 _ rfl; (with_reducible repeat (first | refine blk_drewN ?_ _ | refine blk_drew ?_ | refine blk_alloc ?_ _)); refine blk_put (cs := #[.bool t183, .int .i8 0, .int .i64 0, .int .i64 0, .int .i64 0, .int .i64 0]) ?_ 3 _ rfl; (with_reducible repeat (first | refine blk_drewN ?_ _ | refine blk_drew ?_ | refine blk_alloc ?_ _)); refine blk_put (cs := #[.bool t183, .int .i8 0, .int .i64 0, .int .i64 0, .int .i64 0, .int .i64 0]) ?_ 2 _ rfl; (with_reducible repeat (first | refine blk_drewN ?_ _ | refine blk_drew ?_ | refine blk_alloc ?_ _)); refine blk_put (cs := #[.bool t183, .int .i8 0, .int .i64 0, .int .i64 0, .int .i64 0, .int .i64 0]) ?_ 1 _ rfl; (with_reducible repeat (first | refine blk_drewN ?_ _ | refine blk_drew ?_ | refine blk_alloc ?_ _)); refine blk_put (cs := #[.bool false, .int .i8 0, .int .i64 0, .int .i64 0, .int .i64 0, .int .i64 0]) ?_ 0 _ rfl; (with_reducible repeat (first | refine blk_drewN ?_ _ | refine blk_drew ?_ | refine blk_alloc ?_ _)); exact BK184.out))⟩; have n3_ : Aside0 (Below w.heap.size w w19) := ⟨z4_23_⟩; clear hw; clear HO_8; clear BK180; clear BK184; clear HB; have HO_8 := n0_; have BK180 := n1_; have BK184 := n2_; have HB := n3_; clear n0_ n1_ n2_ n3_))
     (try simp only [Act.put, sA_, sB_, sC_])
     go_cut [10, 11] (fun v10 v11 wc => ∃ (kq : Nat) (x10_13 : Int) (x11_13 : Int) (x181000_13 : Int) (x181001_13 : Int) (x181002_13 : Int) (x181003_13 : Int) (x185001_13 : Int), v10 = .int .i64 x10_13 ∧ v11 = .int .i64 x11_13 ∧ Aside0 (spec_l03Run.j1 kq l1 a2 x8_1 x10_13 x11_13 x181000_13 x181001_13 x181002_13 x181003_13 t183 x185001_13 0 0 0 0 = some (r1, r2)) ∧ Aside0 (kq ≤ k1) ∧ Aside0 (Kd.R k51 51 wc w.heap.size (fun k_ => k_ ≠ gb184) u8 x8_1) ∧ Aside0 (wc.heap[gb180]? = some (.cells #[.int .i64 x181000_13, .int .i64 x181001_13, .int .i64 x181002_13, .int .i64 x181003_13] 31 (0, 0))) ∧ Aside0 (wc.heap[gb184]? = some (.cells #[.bool t183, .int .i8 x185001_13, .int .i64 0, .int .i64 0, .int .i64 0, .int .i64 0] 51 (0, 0))) ∧ Aside0 (Below w.heap.size w wc))
     case first =>
      have H := HC14.out
      clear HC14
      by_cases c20 : t183 = true
      ·
       subst c20
       have H1 := H; rw [if_pos rfl] at H1
       clear H
       have H := H1
       clear H1
       have H' := A_ H
       clear H
       have hnb21 := NB180_184.out
       have hnc21 := NB184_180.out
       obtain ⟨hcz22_0, hcz22_1, hcz22_2, hcz22_3⟩ := bc4 BK180.out
       obtain ⟨hfz22_0, hfz22_1, hfz22_2, hfz22_3⟩ := bf4 BK180.out
       go_wp2_with (first | ((with_reducible refine gate_store (t := 31) (p := 9) rfl ?_); refine store_event (t := 31) (p := 9) (v := ?vo_w23) (w1 := ((((w19.setCell ⟨gb180, 0, none⟩ (.int .i64 (wrap64 ((wrap64 (2 * x181000_1)) - (wrap64 (t182 * x181002_1)))))).setCell ⟨gb180, 1, none⟩ (.int .i64 (wrap64 ((wrap64 (2 * x181001_1)) - (wrap64 (t182 * x181003_1)))))).setCell ⟨gb180, 2, none⟩ (.int .i64 x181002_1)).setCell ⟨gb180, 3, none⟩ (.int .i64 x181003_1))) ?hg ?ho ?hn ?hr ?_; (case ho => rfl); (case hg => rfl); (case hn => rfl); (case hr => first | (go_simp; done) | (go_simp; rfl)); intro w23 hw; have n0_ : Aside0 (Kd.R k51 51 w23 w.heap.size (fun k_ => k_ ≠ gb184) u8 x8_1) := ⟨(by rw [hw]; exact (by (with_reducible repeat (first | apply Kd.R_alloc | apply Kd.R_drewN | apply Kd.R_drew)); exact Kd.R_mono (Kd.R_far (p := ⟨gb180, 3, none⟩) (Kd.R_far (p := ⟨gb180, 2, none⟩) (Kd.R_far (p := ⟨gb180, 1, none⟩) (Kd.R_far (p := ⟨gb180, 0, none⟩) (Kd.R_types HO_8.out BK180.out (by decide)) (fun _ hk => hk.2) (.int .i64 (wrap64 ((wrap64 (2 * x181000_1)) - (wrap64 (t182 * x181002_1)))))) (fun _ hk => hk.2) (.int .i64 (wrap64 ((wrap64 (2 * x181001_1)) - (wrap64 (t182 * x181003_1)))))) (fun _ hk => hk.2) (.int .i64 x181002_1)) (fun _ hk => hk.2) (.int .i64 x181003_1)) (fun _ hk => hk.1)))⟩; have n1_ : Aside0 (w23.heap[gb180]? = some (.cells #[.int .i64 (wrap64 ((wrap64 (2 * x181000_1)) - (wrap64 (t182 * x181002_1)))), .int .i64 (wrap64 ((wrap64 (2 * x181001_1)) - (wrap64 (t182 * x181003_1)))), .int .i64 x181002_1, .int .i64 x181003_1] 31 (0, 0))) := ⟨(by rw [hw]; exact (by (with_reducible repeat (first | refine blk_drewN ?_ _ | refine blk_drew ?_ | refine blk_alloc ?_ _)); refine blk_put (cs := #[.int .i64 (wrap64 ((wrap64 (2 * x181000_1)) - (wrap64 (t182 * x181002_1)))), .int .i64 (wrap64 ((wrap64 (2 * x181001_1)) - (wrap64 (t182 * x181003_1)))), .int .i64 x181002_1, .int .i64 x181003_1]) ?_ 3 _ rfl; (with_reducible repeat (first | refine blk_drewN ?_ _ | refine blk_drew ?_ | refine blk_alloc ?_ _)); refine blk_put (cs := #[.int .i64 (wrap64 ((wrap64 (2 * x181000_1)) - (wrap64 (t182 * x181002_1)))), .int .i64 (wrap64 ((wrap64 (2 * x181001_1)) - (wrap64 (t182 * x181003_1)))), .int .i64 x181002_1, .int .i64 x181003_1]) ?_ 2 _ rfl; (with_reducible repeat (first | refine blk_drewN ?_ _ | refine blk_drew ?_ | refine blk_alloc ?_ _)); refine blk_put (cs := #[.int .i64 (wrap64 ((wrap64 (2 * x181000_1)) - (wrap64 (t182 * x181002_1)))), .int .i64 x181001_1, .int .i64 x181002_1, .int .i64 x181003_1]) ?_ 1 _ rfl; (with_reducible repeat (first | refine blk_drewN ?_ _ | refine blk_drew ?_ | refine blk_alloc ?_ _)); refine blk_put (cs := #[.int .i64 x181000_1, .int .i64 x181001_1, .int .i64 x181002_1, .int .i64 x181003_1]) ?_ 0 _ rfl; (with_reducible repeat (first | refine blk_drewN ?_ _ | refine blk_drew ?_ | refine blk_alloc ?_ _)); exact BK180.out))⟩; have n2_ : Aside0 (w23.heap[gb184]? = some (.cells #[.bool true, .int .i8 0, .int .i64 0, .int .i64 0, .int .i64 0, .int .i64 0] 51 (0, 0))) := ⟨z4_6_⟩; have n3_ : Aside0 (Below w.heap.size w w23) := ⟨z4_23_⟩; clear hw; clear HO_8; clear BK180; clear BK184; clear HB; have HO_8 := n0_; have BK180 := n1_; have BK184 := n2_; have HB := n3_; clear n0_ n1_ n2_ n3_; obtain ⟨hcz24_0, hcz24_1, hcz24_2, hcz24_3, hcz24_4, hcz24_5⟩ := bc6 BK184.out; obtain ⟨hfz24_0, hfz24_1, hfz24_2, hfz24_3, hfz24_4, hfz24_5⟩ := bf6 BK184.out))
       go_meet
       case rel => exact ⟨_, (wrap64 (x10_1 + 1)), (x11_1), (wrap64 ((wrap64 (2 * x181000_1)) - (wrap64 (t182 * x181002_1)))), (wrap64 ((wrap64 (2 * x181001_1)) - (wrap64 (t182 * x181003_1)))), (x181002_1), (x181003_1), (IntKind.i8.wrap (t182)), z4_9_, z4_9_, H', ⟨(by have := HK1.out; first | omega | exact Nat.le_refl _)⟩, ⟨(by (with_reducible repeat (first | apply Kd.R_alloc | apply Kd.R_drewN | apply Kd.R_drew)); exact Kd.R_mono (Kd.R_far (p := ⟨gb184, 1, none⟩) (Kd.R_mono HO_8.out (fun k_ hk => (⟨hk, hk⟩ : _ ∧ k_ ≠ gb184))) (fun _ hk => hk.2) (.int .i8 (IntKind.i8.wrap (t182)))) (fun _ hk => hk.1))⟩, ⟨(by (with_reducible repeat (first | refine blk_drewN ?_ _ | refine blk_drew ?_ | refine blk_alloc ?_ _)); refine blk_far ?_ NB180_184.out _; (with_reducible repeat (first | refine blk_drewN ?_ _ | refine blk_drew ?_ | refine blk_alloc ?_ _)); exact BK180.out)⟩, ⟨(by (with_reducible repeat (first | refine blk_drewN ?_ _ | refine blk_drew ?_ | refine blk_alloc ?_ _)); refine blk_put (cs := #[.bool true, .int .i8 0, .int .i64 0, .int .i64 0, .int .i64 0, .int .i64 0]) ?_ 1 _ rfl; (with_reducible repeat (first | refine blk_drewN ?_ _ | refine blk_drew ?_ | refine blk_alloc ?_ _)); exact BK184.out)⟩, ⟨z4_2_⟩⟩
      ·
       replace c20 := Bool.eq_false_iff.mpr c20
       subst c20
       have H1 := H; rw [if_neg (show ¬ (false = true) by decide)] at H1
       clear H
       have H := H1
       clear H1
       by_cases c25 : x11_1 = 400
       ·
        rw [if_pos c25] at H
        have c25b0 := beq_iff_eq.mpr c25
        have c25b1 := bne_eq_false_iff_eq.mpr c25
        clear c25
        (first | rw [c25b0] | (simp only [i64_w, i32_w]; rw [c25b0]) | skip)
        obtain ⟨y185, hy185⟩ : ∃ y_ : List (S51), y_ = (([] : List (S51))) := ⟨_, rfl⟩
        replace H : (some (y185, 7)) = some (r1, r2) := by first | (rw [hy185]; with_reducible exact H) | (have H2_ := (Option.bind_some _ _).symm.trans H; rw [hy185]; with_reducible exact H2_) | (have H2_ := (Option.bind_some _ _).symm.trans H; with_reducible exact H2_) | with_reducible exact H | (rw [hy185]; exact H) | exact H
        have Ny185 := A_ hy185
        clear hy185
        simp only [Option.some.injEq, Prod.mk.injEq] at H
        obtain ⟨rfl, rfl⟩ := H
        go_wp2_with (first | ((with_reducible refine gate_dst (N := 59) rfl ?_); refine Kd.R_lit k51 _ 51 ?hg (N := 59) ?hd (xs := ([] : List (S51))) (inner := []) (ok := fun _ => True) (okp := fun _ => True) ?hr ?hp (fun _ hk => hk) trivial (Below.refl _ _) (Nat.le_refl _) (by simp) ?_; (case hd => rfl); (case hg => rfl); (case hr => first | (go_simp; done) | (go_simp; rfl)); (case hp => exact (Reps.none _ _)); intro v186 w26 ho27 hb hg_ hnew_; clear hg_ hnew_; (first | rw [← Ny185.out] at ho27 | (simp only [Int.reduceToNat] at ho27; rw [← Ny185.out] at ho27)); have _ := A_ (Kd.R_elder' z4_8_ (Kd.R_base ho27) hb); have _ := A_ (Kd.R_lower (Kd.R_newB (Kd.R_new' ho27 (Kd.R_lt z4_8_)) (g := gb184) (o := .cells #[.bool false, .int .i8 0, .int .i64 0, .int .i64 0, .int .i64 0, .int .i64 0] 51 (0, 0)) z4_10_) (below_size z4_2_)); have _ := A_ (blk_below (g := gb180) (o := .cells #[.int .i64 x181000_1, .int .i64 x181001_1, .int .i64 x181002_1, .int .i64 x181003_1] 31 (0, 0)) z4_3_ hb); have _ := A_ (blk_below (g := gb184) (o := .cells #[.bool false, .int .i8 0, .int .i64 0, .int .i64 0, .int .i64 0, .int .i64 0] 51 (0, 0)) z4_10_ hb); have _ := A_ (below_step z4_2_ hb); clear HO_8 BK180 BK184 HB; rename_i HO_8 HO187 BK180 BK184 HB; clear hb ho27))
        go_ret2
        exact ⟨_, z4_16_, (by (with_reducible repeat (first | apply Kd.R_alloc | apply Kd.R_drewN | apply Kd.R_drew)); exact Kd.R_mono HO187.out (fun _ hk => trivial)), z4_2_⟩
       ·
        rw [if_neg c25] at H
        have c25b0 : (x11_1 == 400) = false := beq_eq_false_iff_ne.mpr c25
        have c25b1 : (x11_1 != 400) = true := bne_iff_ne.mpr c25
        (first | rw [c25b0] | (simp only [i64_w, i32_w]; rw [c25b0]) | skip)
        replace H := Option.bind_eq_some_iff.mp H
        obtain ⟨t188, A280, H⟩ := H
        try dsimp only at H
        have A28 := A_ A280
        clear A280
        have H' := A_ H
        clear H
        go_wp2_with (first | ((with_reducible refine gate_callee (f := 73) rfl ?_); refine goesL_ (some 62) rfl rfl Try.func73 (by kernel_rfl) rfl #[.pointer A1, .int .i64 x11_1] rfl z4_4_ ?_; (with_reducible refine (spec_l03At.calls _ (l1).length l1 x11_1 t188 _ ?side1 ?side2 A28.out).mono ?_); (case side1 => have hx_ := (Kd.C_below HR1.out HB.out); exact kc_); (case side2 => exact Nat.le_refl _); rintro e w' ⟨rfl, ⟨nd, rfl⟩⟩; refine ⟨_, rfl, ?_⟩; (try (rw [drewN_self w19]; generalize hq_ : World.drewN w19 _ = w19; have n0_ : Aside0 (Kd.R k51 51 w19 w.heap.size (fun k_ => k_ ≠ gb184) u8 x8_1) := ⟨(by rw [← hq_]; exact z4_8_)⟩; have n1_ : Aside0 (w19.heap[gb180]? = some (.cells #[.int .i64 x181000_1, .int .i64 x181001_1, .int .i64 x181002_1, .int .i64 x181003_1] 31 (0, 0))) := ⟨(by rw [← hq_]; exact z4_3_)⟩; have n2_ : Aside0 (w19.heap[gb184]? = some (.cells #[.bool false, .int .i8 0, .int .i64 0, .int .i64 0, .int .i64 0, .int .i64 0] 51 (0, 0))) := ⟨(by rw [← hq_]; exact z4_10_)⟩; have n3_ : Aside0 (Below w.heap.size w w19) := ⟨(by rw [← hq_]; exact z4_2_)⟩; clear HO_8 BK180 BK184 HB hq_; have HO_8 := n0_; have BK180 := n1_; have BK184 := n2_; have HB := n3_; clear n0_ n1_ n2_ n3_)); have hnb29 := NB184_180.out; have hnc29 := NB180_184.out; obtain ⟨hcz30_0, hcz30_1, hcz30_2, hcz30_3, hcz30_4, hcz30_5⟩ := bc6 BK184.out; obtain ⟨hfz30_0, hfz30_1, hfz30_2, hfz30_3, hfz30_4, hfz30_5⟩ := bf6 BK184.out; obtain ⟨hcz31_0, hcz31_1, hcz31_2, hcz31_3⟩ := bc4 BK180.out; obtain ⟨hfz31_0, hfz31_1, hfz31_2, hfz31_3⟩ := bf4 BK180.out) | ((with_reducible refine gate_store (t := 31) (p := 9) rfl ?_); refine store_event (t := 31) (p := 9) (v := ?vo_w32) (w1 := (((((w19.setCell ⟨gb184, 1, none⟩ (.int .i8 t188)).setCell ⟨gb180, 0, none⟩ (.int .i64 x181000_1)).setCell ⟨gb180, 1, none⟩ (.int .i64 (wrap64 ((wrap64 (x181000_1 * (wrap64 (t188)))) + (wrap64 (2 * x181001_1)))))).setCell ⟨gb180, 2, none⟩ (.int .i64 x181002_1)).setCell ⟨gb180, 3, none⟩ (.int .i64 (wrap64 ((wrap64 (x181002_1 * (wrap64 (t188)))) + (wrap64 (2 * x181003_1))))))) ?hg ?ho ?hn ?hr ?_; (case ho => rfl); (case hg => rfl); (case hn => rfl); (case hr => first | (go_simp; done) | (go_simp; rfl)); intro w32 hw; have n0_ : Aside0 (Kd.R k51 51 w32 w.heap.size (fun k_ => k_ ≠ gb184) u8 x8_1) := ⟨(by rw [hw]; exact (by (with_reducible repeat (first | apply Kd.R_alloc | apply Kd.R_drewN | apply Kd.R_drew)); exact Kd.R_mono (Kd.R_far (p := ⟨gb180, 3, none⟩) (Kd.R_far (p := ⟨gb180, 2, none⟩) (Kd.R_far (p := ⟨gb180, 1, none⟩) (Kd.R_far (p := ⟨gb180, 0, none⟩) (Kd.R_far (p := ⟨gb184, 1, none⟩) (Kd.R_types (Kd.R_mono HO_8.out (fun k_ hk => (⟨hk, hk⟩ : _ ∧ k_ ≠ gb184))) BK180.out (by decide)) (fun _ hk => hk.1.2) (.int .i8 t188)) (fun _ hk => hk.2) (.int .i64 x181000_1)) (fun _ hk => hk.2) (.int .i64 (wrap64 ((wrap64 (x181000_1 * (wrap64 (t188)))) + (wrap64 (2 * x181001_1)))))) (fun _ hk => hk.2) (.int .i64 x181002_1)) (fun _ hk => hk.2) (.int .i64 (wrap64 ((wrap64 (x181002_1 * (wrap64 (t188)))) + (wrap64 (2 * x181003_1)))))) (fun _ hk => hk.1.1)))⟩; have n1_ : Aside0 (w32.heap[gb180]? = some (.cells #[.int .i64 x181000_1, .int .i64 (wrap64 ((wrap64 (x181000_1 * (wrap64 (t188)))) + (wrap64 (2 * x181001_1)))), .int .i64 x181002_1, .int .i64 (wrap64 ((wrap64 (x181002_1 * (wrap64 (t188)))) + (wrap64 (2 * x181003_1))))] 31 (0, 0))) := ⟨(by rw [hw]; exact (by (with_reducible repeat (first | refine blk_drewN ?_ _ | refine blk_drew ?_ | refine blk_alloc ?_ _)); refine blk_put (cs := #[.int .i64 x181000_1, .int .i64 (wrap64 ((wrap64 (x181000_1 * (wrap64 (t188)))) + (wrap64 (2 * x181001_1)))), .int .i64 x181002_1, .int .i64 x181003_1]) ?_ 3 _ rfl; (with_reducible repeat (first | refine blk_drewN ?_ _ | refine blk_drew ?_ | refine blk_alloc ?_ _)); refine blk_put (cs := #[.int .i64 x181000_1, .int .i64 (wrap64 ((wrap64 (x181000_1 * (wrap64 (t188)))) + (wrap64 (2 * x181001_1)))), .int .i64 x181002_1, .int .i64 x181003_1]) ?_ 2 _ rfl; (with_reducible repeat (first | refine blk_drewN ?_ _ | refine blk_drew ?_ | refine blk_alloc ?_ _)); refine blk_put (cs := #[.int .i64 x181000_1, .int .i64 x181001_1, .int .i64 x181002_1, .int .i64 x181003_1]) ?_ 1 _ rfl; (with_reducible repeat (first | refine blk_drewN ?_ _ | refine blk_drew ?_ | refine blk_alloc ?_ _)); refine blk_put (cs := #[.int .i64 x181000_1, .int .i64 x181001_1, .int .i64 x181002_1, .int .i64 x181003_1]) ?_ 0 _ rfl; (with_reducible repeat (first | refine blk_drewN ?_ _ | refine blk_drew ?_ | refine blk_alloc ?_ _)); refine blk_far ?_ NB180_184.out _; (with_reducible repeat (first | refine blk_drewN ?_ _ | refine blk_drew ?_ | refine blk_alloc ?_ _)); exact BK180.out))⟩; have n2_ : Aside0 (w32.heap[gb184]? = some (.cells #[.bool false, .int .i8 t188, .int .i64 0, .int .i64 0, .int .i64 0, .int .i64 0] 51 (0, 0))) := ⟨(by rw [hw]; exact (by (with_reducible repeat (first | refine blk_drewN ?_ _ | refine blk_drew ?_ | refine blk_alloc ?_ _)); refine blk_far ?_ NB184_180.out _; (with_reducible repeat (first | refine blk_drewN ?_ _ | refine blk_drew ?_ | refine blk_alloc ?_ _)); refine blk_far ?_ NB184_180.out _; (with_reducible repeat (first | refine blk_drewN ?_ _ | refine blk_drew ?_ | refine blk_alloc ?_ _)); refine blk_far ?_ NB184_180.out _; (with_reducible repeat (first | refine blk_drewN ?_ _ | refine blk_drew ?_ | refine blk_alloc ?_ _)); refine blk_far ?_ NB184_180.out _; (with_reducible repeat (first | refine blk_drewN ?_ _ | refine blk_drew ?_ | refine blk_alloc ?_ _)); refine blk_put (cs := #[.bool false, .int .i8 0, .int .i64 0, .int .i64 0, .int .i64 0, .int .i64 0]) ?_ 1 _ rfl; (with_reducible repeat (first | refine blk_drewN ?_ _ | refine blk_drew ?_ | refine blk_alloc ?_ _)); exact BK184.out))⟩; have n3_ : Aside0 (Below w.heap.size w w32) := ⟨z4_23_⟩; clear hw; clear HO_8; clear BK180; clear BK184; clear HB; have HO_8 := n0_; have BK180 := n1_; have BK184 := n2_; have HB := n3_; clear n0_ n1_ n2_ n3_))
        go_meet
        case rel => exact ⟨_, (x10_1), (wrap64 (x11_1 + 1)), (x181000_1), (wrap64 ((wrap64 (x181000_1 * (wrap64 (t188)))) + (wrap64 (2 * x181001_1)))), (x181002_1), (wrap64 ((wrap64 (x181002_1 * (wrap64 (t188)))) + (wrap64 (2 * x181003_1)))), (t188), z4_9_, z4_9_, H', ⟨(by have := HK1.out; first | omega | exact Nat.le_refl _)⟩, ⟨z4_8_⟩, ⟨z4_3_⟩, ⟨z4_10_⟩, ⟨z4_2_⟩⟩
     case rest =>
      clear HC14
      try clear c1
      try clear q1
      try clear hx1
      try clear c2
      try clear p2
      try clear c4
      try clear c4b0
      try clear c4b1
      try clear c6
      try clear p6
      try clear c7
      try clear c12
      try clear c12b0
      try clear c17
      try clear q17
      try clear hx17
      try clear c20
      try clear c21
      try clear c25
      try clear c25b0
      try clear c25b1
      try clear c29
      try clear hcz10_0
      try clear hcz10_1
      try clear hcz10_2
      try clear hcz10_3
      try clear hcz18_0
      try clear hcz18_1
      try clear hcz18_2
      try clear hcz18_3
      try clear hcz18_4
      try clear hcz18_5
      try clear hcz22_0
      try clear hcz22_1
      try clear hcz22_2
      try clear hcz22_3
      try clear hcz24_0
      try clear hcz24_1
      try clear hcz24_2
      try clear hcz24_3
      try clear hcz24_4
      try clear hcz24_5
      try clear hcz30_0
      try clear hcz30_1
      try clear hcz30_2
      try clear hcz30_3
      try clear hcz30_4
      try clear hcz30_5
      try clear hcz31_0
      try clear hcz31_1
      try clear hcz31_2
      try clear hcz31_3
      try clear hfz10_0
      try clear hfz10_1
      try clear hfz10_2
      try clear hfz10_3
      try clear hfz18_0
      try clear hfz18_1
      try clear hfz18_2
      try clear hfz18_3
      try clear hfz18_4
      try clear hfz18_5
      try clear hfz22_0
      try clear hfz22_1
      try clear hfz22_2
      try clear hfz22_3
      try clear hfz24_0
      try clear hfz24_1
      try clear hfz24_2
      try clear hfz24_3
      try clear hfz24_4
      try clear hfz24_5
      try clear hfz30_0
      try clear hfz30_1
      try clear hfz30_2
      try clear hfz30_3
      try clear hfz30_4
      try clear hfz30_5
      try clear hfz31_0
      try clear hfz31_1
      try clear hfz31_2
      try clear hfz31_3
      try clear hx175_0
      try clear hx175_1
      try clear hx175_2
      try clear hx175_3
      try clear p2
      try clear q1
      try clear q175
      obtain ⟨kq, x10_13, x11_13, x181000_13, x181001_13, x181002_13, x181003_13, x185001_13, rfl, rfl, HA, HJ13, HO_8, BK180, BK184, HB⟩ := hcut
      cases kq with
      | zero => exact absurd HA.out (by simp [spec_l03Run.j1])
      | succ kj13 =>
       have H := HA.out
       clear HA
       simp only [spec_l03Run.j1] at H
       replace H := Option.bind_eq_some_iff.mp H
       obtain ⟨⟨t189, t190, t191, t192⟩, A330, H⟩ := H
       try dsimp only at H
       have A33 := A_ A330
       clear A330
       replace H := Option.bind_eq_some_iff.mp H
       obtain ⟨t194, A340, H⟩ := H
       try dsimp only at H
       have A34 := A_ A340
       clear A340
       by_cases c35 : t194 = true
       ·
        subst c35
        have H1 := H; rw [if_pos rfl] at H1
        clear H
        have H := H1
        clear H1
        by_cases c36 : x8_1.length < 3518437208883
        ·
         rw [if_pos c36] at H
         have LMc36 := A_ c36
         clear c36
         obtain ⟨y195, hy195⟩ : ∃ y_ : List (S51), y_ = (x8_1 ++ [(⟨t183, x185001_13, (⟨t189, t190, t191, t192⟩ : S31)⟩ : S51)]) := ⟨_, rfl⟩
         replace H : (spec_l03Run.l0 kj13 l1 a2 y195 x10_13 x11_13 t189 t190 t191 t192) = some (r1, r2) := by first | (rw [hy195]; with_reducible exact H) | (have H2_ := (Option.bind_some _ _).symm.trans H; rw [hy195]; with_reducible exact H2_) | (have H2_ := (Option.bind_some _ _).symm.trans H; with_reducible exact H2_) | with_reducible exact H | (rw [hy195]; exact H) | exact H
         have Ny195 := A_ hy195
         clear hy195
         have H' := A_ H
         clear H
         have hnb37 := NB180_184.out
         have hnc37 := NB184_180.out
         obtain ⟨hcz38_0, hcz38_1, hcz38_2, hcz38_3⟩ := bc4 BK180.out
         obtain ⟨hfz38_0, hfz38_1, hfz38_2, hfz38_3⟩ := bf4 BK180.out
         go_wp2_with (first | ((with_reducible refine gate_callee (f := 68) rfl ?_); refine goesL_ (some 91) rfl rfl Try.func68 (by kernel_rfl) rfl #[.agg #[.int .i64 x181000_13, .int .i64 x181001_13, .int .i64 x181002_13, .int .i64 x181003_13]] rfl z4_4_ ?_; (with_reducible refine (spec_l03Less.calls kj13 x181000_13 x181001_13 x181002_13 x181003_13 t189 t190 t191 t192 _ A33.out).mono ?_); rintro e w39 ⟨rfl, hb⟩; refine ⟨_, rfl, ?_⟩; have _ := A_ (Kd.R_below z4_8_ hb); have _ := A_ (blk_below (g := gb180) (o := .cells #[.int .i64 x181000_13, .int .i64 x181001_13, .int .i64 x181002_13, .int .i64 x181003_13] 31 (0, 0)) z4_3_ hb); have _ := A_ (blk_below (g := gb184) (o := .cells #[.bool t183, .int .i8 x185001_13, .int .i64 0, .int .i64 0, .int .i64 0, .int .i64 0] 51 (0, 0)) z4_10_ hb); have _ := A_ (below_step z4_2_ hb); clear HO_8 BK180 BK184 HB; rename_i HO_8 BK180 BK184 HB; (try clear hb); obtain ⟨hcz40_0, hcz40_1, hcz40_2, hcz40_3⟩ := bc4 BK180.out; obtain ⟨hfz40_0, hfz40_1, hfz40_2, hfz40_3⟩ := bf4 BK180.out) | ((with_reducible refine gate_store (t := 31) (p := 9) rfl ?_); refine store_event (t := 31) (p := 9) (v := ?vo_w41) (w1 := ((((w39.setCell ⟨gb180, 0, none⟩ (.int .i64 t189)).setCell ⟨gb180, 1, none⟩ (.int .i64 t190)).setCell ⟨gb180, 2, none⟩ (.int .i64 t191)).setCell ⟨gb180, 3, none⟩ (.int .i64 t192))) ?hg ?ho ?hn ?hr ?_; (case ho => rfl); (case hg => rfl); (case hn => rfl); (case hr => first | (go_simp; done) | (go_simp; rfl)); intro w41 hw; have n0_ : Aside0 (Kd.R k51 51 w41 w.heap.size (fun k_ => k_ ≠ gb184) u8 x8_1) := ⟨z4_17_⟩; have n1_ : Aside0 (w41.heap[gb180]? = some (.cells #[.int .i64 t189, .int .i64 t190, .int .i64 t191, .int .i64 t192] 31 (0, 0))) := ⟨z4_11_⟩; have n2_ : Aside0 (w41.heap[gb184]? = some (.cells #[.bool t183, .int .i8 x185001_13, .int .i64 0, .int .i64 0, .int .i64 0, .int .i64 0] 51 (0, 0))) := ⟨z4_6_⟩; have n3_ : Aside0 (Below w.heap.size w w41) := ⟨z4_23_⟩; clear hw; clear HO_8; clear BK180; clear BK184; clear HB; have HO_8 := n0_; have BK180 := n1_; have BK184 := n2_; have HB := n3_; clear n0_ n1_ n2_ n3_) | ((with_reducible refine gate_callee (f := 69) rfl ?_); refine goesL_ (some 92) rfl rfl Try.func69 (by kernel_rfl) rfl #[.pointer (some ⟨gb180, 0, none⟩), .int .i64 288230376151711744] rfl z4_4_ ?_; (with_reducible refine (spec_l03Fits.calls _ ([(⟨t189, t190, t191, t192⟩ : S31)]).length [(⟨t189, t190, t191, t192⟩ : S31)] 288230376151711744 true _ ?side1 ?side2 A34.out).mono ?_); (case side1 => refine Kd.C_block k31 (g := gb180) (cs := #[.int .i64 t189, .int .i64 t190, .int .i64 t191, .int .i64 t192]) (T := 31) z4_3_ (show Kd.K k31 _ (⟨t189, t190, t191, t192⟩ : S31) [.int .i64 t189, .int .i64 t190, .int .i64 t191, .int .i64 t192] from k31_mk _ _) (by decide)); (case side2 => exact Nat.le_refl _); rintro e w' ⟨rfl, ⟨nd, rfl⟩⟩; refine ⟨_, rfl, ?_⟩; (try (rw [drewN_self w41]; generalize hq_ : World.drewN w41 _ = w41; have n0_ : Aside0 (Kd.R k51 51 w41 w.heap.size (fun k_ => k_ ≠ gb184) u8 x8_1) := ⟨(by rw [← hq_]; exact z4_8_)⟩; have n1_ : Aside0 (w41.heap[gb180]? = some (.cells #[.int .i64 t189, .int .i64 t190, .int .i64 t191, .int .i64 t192] 31 (0, 0))) := ⟨(by rw [← hq_]; exact z4_3_)⟩; have n2_ : Aside0 (w41.heap[gb184]? = some (.cells #[.bool t183, .int .i8 x185001_13, .int .i64 0, .int .i64 0, .int .i64 0, .int .i64 0] 51 (0, 0))) := ⟨(by rw [← hq_]; exact z4_10_)⟩; have n3_ : Aside0 (Below w.heap.size w w41) := ⟨(by rw [← hq_]; exact z4_2_)⟩; clear HO_8 BK180 BK184 HB hq_; have HO_8 := n0_; have BK180 := n1_; have BK184 := n2_; have HB := n3_; clear n0_ n1_ n2_ n3_)); obtain ⟨hcz42_0, hcz42_1, hcz42_2, hcz42_3⟩ := bc4 BK180.out; obtain ⟨hfz42_0, hfz42_1, hfz42_2, hfz42_3⟩ := bf4 BK180.out; obtain ⟨hcz43_0, hcz43_1, hcz43_2, hcz43_3, hcz43_4, hcz43_5⟩ := bc6 BK184.out; obtain ⟨hfz43_0, hfz43_1, hfz43_2, hfz43_3, hfz43_4, hfz43_5⟩ := bf6 BK184.out) | ((with_reducible refine gate_store (t := 31) (p := 96) rfl ?_); refine store_event (t := 31) (p := 96) (v := ?vo_w44) (w1 := ((((w41.setCell ⟨gb184, 2, none⟩ (.int .i64 t189)).setCell ⟨gb184, 3, none⟩ (.int .i64 t190)).setCell ⟨gb184, 4, none⟩ (.int .i64 t191)).setCell ⟨gb184, 5, none⟩ (.int .i64 t192))) ?hg ?ho ?hn ?hr ?_; (case ho => rfl); (case hg => rfl); (case hn => rfl); (case hr => first | (go_simp; done) | (go_simp; rfl)); intro w44 hw; have n0_ : Aside0 (Kd.R k51 51 w44 w.heap.size (fun k_ => k_ ≠ gb184) u8 x8_1) := ⟨(by rw [hw]; exact (by (with_reducible repeat (first | apply Kd.R_alloc | apply Kd.R_drewN | apply Kd.R_drew)); exact Kd.R_mono (Kd.R_far (p := ⟨gb184, 5, none⟩) (Kd.R_far (p := ⟨gb184, 4, none⟩) (Kd.R_far (p := ⟨gb184, 3, none⟩) (Kd.R_far (p := ⟨gb184, 2, none⟩) (Kd.R_mono HO_8.out (fun k_ hk => (⟨hk, hk⟩ : _ ∧ k_ ≠ gb184))) (fun _ hk => hk.2) (.int .i64 t189)) (fun _ hk => hk.2) (.int .i64 t190)) (fun _ hk => hk.2) (.int .i64 t191)) (fun _ hk => hk.2) (.int .i64 t192)) (fun _ hk => hk.1)))⟩; have n1_ : Aside0 (w44.heap[gb180]? = some (.cells #[.int .i64 t189, .int .i64 t190, .int .i64 t191, .int .i64 t192] 31 (0, 0))) := ⟨(by rw [hw]; exact (by (with_reducible repeat (first | refine blk_drewN ?_ _ | refine blk_drew ?_ | refine blk_alloc ?_ _)); refine blk_far ?_ NB180_184.out _; (with_reducible repeat (first | refine blk_drewN ?_ _ | refine blk_drew ?_ | refine blk_alloc ?_ _)); refine blk_far ?_ NB180_184.out _; (with_reducible repeat (first | refine blk_drewN ?_ _ | refine blk_drew ?_ | refine blk_alloc ?_ _)); refine blk_far ?_ NB180_184.out _; (with_reducible repeat (first | refine blk_drewN ?_ _ | refine blk_drew ?_ | refine blk_alloc ?_ _)); refine blk_far ?_ NB180_184.out _; (with_reducible repeat (first | refine blk_drewN ?_ _ | refine blk_drew ?_ | refine blk_alloc ?_ _)); exact BK180.out))⟩; have n2_ : Aside0 (w44.heap[gb184]? = some (.cells #[.bool t183, .int .i8 x185001_13, .int .i64 t189, .int .i64 t190, .int .i64 t191, .int .i64 t192] 51 (0, 0))) := ⟨(by rw [hw]; exact (by (with_reducible repeat (first | refine blk_drewN ?_ _ | refine blk_drew ?_ | refine blk_alloc ?_ _)); refine blk_put (cs := #[.bool t183, .int .i8 x185001_13, .int .i64 t189, .int .i64 t190, .int .i64 t191, .int .i64 0]) ?_ 5 _ rfl; (with_reducible repeat (first | refine blk_drewN ?_ _ | refine blk_drew ?_ | refine blk_alloc ?_ _)); refine blk_put (cs := #[.bool t183, .int .i8 x185001_13, .int .i64 t189, .int .i64 t190, .int .i64 0, .int .i64 0]) ?_ 4 _ rfl; (with_reducible repeat (first | refine blk_drewN ?_ _ | refine blk_drew ?_ | refine blk_alloc ?_ _)); refine blk_put (cs := #[.bool t183, .int .i8 x185001_13, .int .i64 t189, .int .i64 0, .int .i64 0, .int .i64 0]) ?_ 3 _ rfl; (with_reducible repeat (first | refine blk_drewN ?_ _ | refine blk_drew ?_ | refine blk_alloc ?_ _)); refine blk_put (cs := #[.bool t183, .int .i8 x185001_13, .int .i64 0, .int .i64 0, .int .i64 0, .int .i64 0]) ?_ 2 _ rfl; (with_reducible repeat (first | refine blk_drewN ?_ _ | refine blk_drew ?_ | refine blk_alloc ?_ _)); exact BK184.out))⟩; have n3_ : Aside0 (Below w.heap.size w w44) := ⟨z4_23_⟩; clear hw; clear HO_8; clear BK180; clear BK184; clear HB; have HO_8 := n0_; have BK180 := n1_; have BK184 := n2_; have HB := n3_; clear n0_ n1_ n2_ n3_; obtain ⟨hcz45_0, hcz45_1, hcz45_2, hcz45_3, hcz45_4, hcz45_5⟩ := bc6 BK184.out; obtain ⟨hfz45_0, hfz45_1, hfz45_2, hfz45_3, hfz45_4, hfz45_5⟩ := bf6 BK184.out) | ((with_reducible refine gate_builtin (b := .append) (xs := #[.tmp 97, .tmp 99]) rfl ?_); at_builtin; refine Kd.R_append k51 (w0 := w) w.heap.size rfl (.tmp 97) (.tmp 99) 28 51 (.agg #[(.bool false), (.int .i8 0), (.int .i64 0), (.int .i64 0), (.int .i64 0), (.int .i64 0)]) 40 rfl Try.underlying28 info51 rfl (by decide) (by omega) u8 x8_1 (⟨t183, x185001_13, (⟨t189, t190, t191, t192⟩ : S31)⟩ : S51) [.bool t183, .int .i8 x185001_13, .int .i64 t189, .int .i64 t190, .int .i64 t191, .int .i64 t192] (fun k_ => k_ ≠ gb184) (fun _ => False) rfl rfl ?aP (fun _ hk => hk.elim) ?aF ?aO ?aB ?aS ?aL ?_; (case aP => exact k51_mkM _ _ _ (⟨t183, x185001_13, (⟨t189, t190, t191, t192⟩ : S31)⟩ : S51)); (case aB => exact z4_2_); (case aF => exact (fun k_ hk => Kd.freshB (g := gb184) (o := .cells #[.bool t183, .int .i8 x185001_13, .int .i64 t189, .int .i64 t190, .int .i64 t191, .int .i64 t192] 51 (0, 0)) z4_10_ k_ hk)); (case aO => exact z4_8_); (case aS => exact (below_size z4_2_)); (case aL => have := LMc36.out; omega); intro v196 w46 ho hb hg hat; rw [← Ny195.out] at ho; have _ := A_ (blk_grown (g := gb180) (o := .cells #[.int .i64 t189, .int .i64 t190, .int .i64 t191, .int .i64 t192] 31 (0, 0)) z4_3_ hg (Kd.R_ne HO_8.out BK180.out (by decide))); have _ := A_ (blk_grown (g := gb184) (o := .cells #[.bool t183, .int .i8 x185001_13, .int .i64 t189, .int .i64 t190, .int .i64 t191, .int .i64 t192] 51 (0, 0)) z4_10_ hg (Kd.R_away HO_8.out (fun _ hk => hk))); have _ := A_ (hb); have _ := A_ (ho); clear BK180 BK184 HB HO_8; rename_i BK180 BK184 HB HO197; clear ho hb hg hat))
         go_roundg kj13
         case measure => have := HK1.out; have := HJ13.out; omega
         case rel => exact ⟨(y195), (x10_13), (x11_13), (t189), (t190), (t191), (t192), z4_9_, z4_9_, H', ⟨(by have := HK1.out; have := HJ13.out; omega)⟩, ⟨(by (with_reducible repeat (first | apply Kd.R_alloc | apply Kd.R_drewN | apply Kd.R_drew)); exact Kd.R_mono HO197.out (fun _ hk => trivial))⟩, ⟨z4_3_⟩, ⟨z4_2_⟩⟩
        ·
         rw [if_neg c36] at H
         exact absurd H (by simp)
       ·
        replace c35 := Bool.eq_false_iff.mpr c35
        subst c35
        have H1 := H; rw [if_neg (show ¬ (false = true) by decide)] at H1
        clear H
        have H := H1
        clear H1
        obtain ⟨y198, hy198⟩ : ∃ y_ : List (S51), y_ = (([] : List (S51))) := ⟨_, rfl⟩
        replace H : (some (y198, 3)) = some (r1, r2) := by first | (rw [hy198]; with_reducible exact H) | (have H2_ := (Option.bind_some _ _).symm.trans H; rw [hy198]; with_reducible exact H2_) | (have H2_ := (Option.bind_some _ _).symm.trans H; with_reducible exact H2_) | with_reducible exact H | (rw [hy198]; exact H) | exact H
        have Ny198 := A_ hy198
        clear hy198
        simp only [Option.some.injEq, Prod.mk.injEq] at H
        obtain ⟨rfl, rfl⟩ := H
        have hnb47 := NB180_184.out
        have hnc47 := NB184_180.out
        obtain ⟨hcz48_0, hcz48_1, hcz48_2, hcz48_3⟩ := bc4 BK180.out
        obtain ⟨hfz48_0, hfz48_1, hfz48_2, hfz48_3⟩ := bf4 BK180.out
        go_wp2_with (first | ((with_reducible refine gate_callee (f := 68) rfl ?_); refine goesL_ (some 91) rfl rfl Try.func68 (by kernel_rfl) rfl #[.agg #[.int .i64 x181000_13, .int .i64 x181001_13, .int .i64 x181002_13, .int .i64 x181003_13]] rfl z4_4_ ?_; (with_reducible refine (spec_l03Less.calls kj13 x181000_13 x181001_13 x181002_13 x181003_13 t189 t190 t191 t192 _ A33.out).mono ?_); rintro e w49 ⟨rfl, hb⟩; refine ⟨_, rfl, ?_⟩; have _ := A_ (Kd.R_below z4_8_ hb); have _ := A_ (blk_below (g := gb180) (o := .cells #[.int .i64 x181000_13, .int .i64 x181001_13, .int .i64 x181002_13, .int .i64 x181003_13] 31 (0, 0)) z4_3_ hb); have _ := A_ (blk_below (g := gb184) (o := .cells #[.bool t183, .int .i8 x185001_13, .int .i64 0, .int .i64 0, .int .i64 0, .int .i64 0] 51 (0, 0)) z4_10_ hb); have _ := A_ (below_step z4_2_ hb); clear HO_8 BK180 BK184 HB; rename_i HO_8 BK180 BK184 HB; (try clear hb); obtain ⟨hcz50_0, hcz50_1, hcz50_2, hcz50_3⟩ := bc4 BK180.out; obtain ⟨hfz50_0, hfz50_1, hfz50_2, hfz50_3⟩ := bf4 BK180.out) | ((with_reducible refine gate_store (t := 31) (p := 9) rfl ?_); refine store_event (t := 31) (p := 9) (v := ?vo_w51) (w1 := ((((w49.setCell ⟨gb180, 0, none⟩ (.int .i64 t189)).setCell ⟨gb180, 1, none⟩ (.int .i64 t190)).setCell ⟨gb180, 2, none⟩ (.int .i64 t191)).setCell ⟨gb180, 3, none⟩ (.int .i64 t192))) ?hg ?ho ?hn ?hr ?_; (case ho => rfl); (case hg => rfl); (case hn => rfl); (case hr => first | (go_simp; done) | (go_simp; rfl)); intro w51 hw; have n0_ : Aside0 (Kd.R k51 51 w51 w.heap.size (fun k_ => k_ ≠ gb184) u8 x8_1) := ⟨z4_17_⟩; have n1_ : Aside0 (w51.heap[gb180]? = some (.cells #[.int .i64 t189, .int .i64 t190, .int .i64 t191, .int .i64 t192] 31 (0, 0))) := ⟨z4_11_⟩; have n2_ : Aside0 (w51.heap[gb184]? = some (.cells #[.bool t183, .int .i8 x185001_13, .int .i64 0, .int .i64 0, .int .i64 0, .int .i64 0] 51 (0, 0))) := ⟨z4_6_⟩; have n3_ : Aside0 (Below w.heap.size w w51) := ⟨z4_23_⟩; clear hw; clear HO_8; clear BK180; clear BK184; clear HB; have HO_8 := n0_; have BK180 := n1_; have BK184 := n2_; have HB := n3_; clear n0_ n1_ n2_ n3_) | ((with_reducible refine gate_callee (f := 69) rfl ?_); refine goesL_ (some 92) rfl rfl Try.func69 (by kernel_rfl) rfl #[.pointer (some ⟨gb180, 0, none⟩), .int .i64 288230376151711744] rfl z4_4_ ?_; (with_reducible refine (spec_l03Fits.calls _ ([(⟨t189, t190, t191, t192⟩ : S31)]).length [(⟨t189, t190, t191, t192⟩ : S31)] 288230376151711744 false _ ?side1 ?side2 A34.out).mono ?_); (case side1 => refine Kd.C_block k31 (g := gb180) (cs := #[.int .i64 t189, .int .i64 t190, .int .i64 t191, .int .i64 t192]) (T := 31) z4_3_ (show Kd.K k31 _ (⟨t189, t190, t191, t192⟩ : S31) [.int .i64 t189, .int .i64 t190, .int .i64 t191, .int .i64 t192] from k31_mk _ _) (by decide)); (case side2 => exact Nat.le_refl _); rintro e w' ⟨rfl, ⟨nd, rfl⟩⟩; refine ⟨_, rfl, ?_⟩) | ((with_reducible refine gate_dst (N := 94) rfl ?_); refine Kd.R_lit k51 _ 51 ?hg (N := 94) ?hd (xs := ([] : List (S51))) (inner := []) (ok := fun _ => True) (okp := fun _ => True) ?hr ?hp (fun _ hk => hk) trivial (Below.refl _ _) (Nat.le_refl _) (by simp) ?_; (case hd => rfl); (case hg => rfl); (case hr => first | (go_simp; done) | (go_simp; rfl)); (case hp => exact (Reps.none _ _)); intro v199 w52 ho53 hb hg_ hnew_; clear hg_ hnew_; (first | rw [← Ny198.out] at ho53 | (simp only [Int.reduceToNat] at ho53; rw [← Ny198.out] at ho53)); have _ := A_ (Kd.R_elder' z4_8_ (Kd.R_base ho53) hb); have _ := A_ (Kd.R_lower (Kd.R_newB (Kd.R_new' ho53 (Kd.R_lt z4_8_)) (g := gb184) (o := .cells #[.bool t183, .int .i8 x185001_13, .int .i64 0, .int .i64 0, .int .i64 0, .int .i64 0] 51 (0, 0)) z4_10_) (below_size z4_2_)); have _ := A_ (blk_below (g := gb180) (o := .cells #[.int .i64 t189, .int .i64 t190, .int .i64 t191, .int .i64 t192] 31 (0, 0)) z4_3_ hb); have _ := A_ (blk_below (g := gb184) (o := .cells #[.bool t183, .int .i8 x185001_13, .int .i64 0, .int .i64 0, .int .i64 0, .int .i64 0] 51 (0, 0)) z4_10_ hb); have _ := A_ (below_step z4_2_ hb); clear HO_8 BK180 BK184 HB; rename_i HO_8 HO200 BK180 BK184 HB; clear hb ho53))
        go_ret2
        exact ⟨_, z4_16_, (by (with_reducible repeat (first | apply Kd.R_alloc | apply Kd.R_drewN | apply Kd.R_drew)); exact Kd.R_mono HO200.out (fun _ hk => trivial)), z4_2_⟩
    ·
     rw [if_neg c12] at H
     have c12b0 := decide_eq_false c12
     clear c12
     simp only [Option.some.injEq, Prod.mk.injEq] at H
     obtain ⟨rfl, rfl⟩ := H
     go_wp2
     go_ret2
     exact ⟨_, z4_16_, z4_8_, z4_12_⟩
 ·
  rw [if_neg c4] at H
  exact absurd H (by simp)
/-! ### spec_MoebiusTurns: function 8 -/
def spec_MoebiusTurns.f (k : Nat) (a0_0 : Int) (a0_1 : Int) (a0_2 : Int) (a0_3 : Int) (l1_0 : List Int) (l1_1 : List Int) (a2 : Int) : Option ((List (S51)) × Int) := (spec_l03Asked.f k [(⟨a0_0, a0_1, a0_2, a0_3⟩ : S31)] [(⟨l1_0, l1_1⟩ : S33)] a2).bind fun t205 => (if t205 = 0 then ((spec_l03Run.f k [(⟨a0_0, a0_1, a0_2, a0_3⟩ : S31)] [(⟨l1_0, l1_1⟩ : S33)] a2).bind fun bt208 => (some (bt208.1, bt208.2))) else (some ((([] : List (S51))), t205)))
theorem spec_MoebiusTurns.mono : ∀ a0 a1 a2 a3 a4 a5 a6 k, LeO (spec_MoebiusTurns.f k a0 a1 a2 a3 a4 a5 a6) (spec_MoebiusTurns.f (k + 1) a0 a1 a2 a3 a4 a5 a6) := by
 intro a0 a1 a2 a3 a4 a5 a6 k
 unfold spec_MoebiusTurns.f
 repeat' first
   | (with_reducible exact spec_l03Asked.mono _ _ _ _)
   | (with_reducible exact spec_l03Run.mono _ _ _ _)
   | (with_reducible exact LeO.refl _)
   | (with_reducible exact LeO.none _)
   | (with_reducible refine LeO.ite ?_ ?_)
   | (with_reducible refine LeO.bind ?_ (fun _ => ?_))
   | exact LeO.none _
   | refine LeO.ite ?_ ?_
   | refine LeO.bind ?_ (fun _ => ?_)
set_option maxHeartbeats 8000000 in
set_option maxRecDepth 100000 in
theorem spec_MoebiusTurns.calls (k : Nat) (a0_0 : Int) (a0_1 : Int) (a0_2 : Int) (a0_3 : Int) (A1_0 : Option Addr) (c1_0 : Nat) (l1_0 : List Int) (A1_1 : Option Addr) (c1_1 : Nat) (l1_1 : List Int) (a2 : Int) (r1 : List (S51)) (r2 : Int) (w : World) (hr1_0 : Kd.C (Kd.int .i8) w A1_0 l1_0.length l1_0) (hc1_0 : l1_0.length ≤ c1_0) (hr1_1 : Kd.C (Kd.int .i8) w A1_1 l1_1.length l1_1) (hc1_1 : l1_1.length ≤ c1_1) (h : spec_MoebiusTurns.f k a0_0 a0_1 a0_2 a0_3 l1_0 l1_1 a2 = some (r1, r2)) :
  Calls Try.prog 8 #[.agg #[.int .i64 a0_0, .int .i64 a0_1, .int .i64 a0_2, .int .i64 a0_3], .agg #[.slice A1_0 l1_0.length c1_0, .slice A1_1 l1_1.length c1_1], .int .i64 a2] w fun e w' => ∃ v0_ : Value, e = .returned (.tuple #[v0_, .int .i64 r2]) ∧ Kd.R k51 51 w' w.heap.size (fun _ => True) v0_ r1 ∧ Below w.heap.size w w' := by
 have hu31 := Try.underlying31
 have hu33 := Try.underlying33
 have HR1_0 := A_ hr1_0
 have HC1_0 := A_ hc1_0
 clear hr1_0 hc1_0
 have HR1_1 := A_ hr1_1
 have HC1_1 := A_ hc1_1
 clear hr1_1 hc1_1
 have HB := A_ (Below.refl w.heap.size w)
 have H : ((spec_l03Asked.f k [(⟨a0_0, a0_1, a0_2, a0_3⟩ : S31)] [(⟨l1_0, l1_1⟩ : S33)] a2).bind fun t205 => (if t205 = 0 then ((spec_l03Run.f k [(⟨a0_0, a0_1, a0_2, a0_3⟩ : S31)] [(⟨l1_0, l1_1⟩ : S33)] a2).bind fun bt208 => (some (bt208.1, bt208.2))) else (some ((([] : List (S51))), t205)))) = some (r1, r2) := h
 clear h
 replace H := Option.bind_eq_some_iff.mp H
 obtain ⟨t205, A40, H⟩ := H
 try dsimp only at H
 have A4 := A_ A40
 clear A40
 by_cases c5 : t205 = 0
 ·
  rw [if_pos c5] at H
  have c5b0 := beq_iff_eq.mpr c5
  have c5b1 := bne_eq_false_iff_eq.mpr c5
  clear c5
  replace H := Option.bind_eq_some_iff.mp H
  obtain ⟨⟨t208, t209⟩, A60, H⟩ := H
  try dsimp only at H
  have A6 := A_ A60
  clear A60
  simp only [Option.some.injEq, Prod.mk.injEq] at H
  obtain ⟨rfl, rfl⟩ := H
  go_enter Try.func8, Try.ntmps8
  go_wp2_with (first | ((with_reducible refine gate_dst (N := 3) rfl ?_); refine box_event ?hg (N := 3) ?hd (cs := #[.int .i64 a0_0, .int .i64 a0_1, .int .i64 a0_2, .int .i64 a0_3]) (t := 31) ?hr ?_; (case hd => rfl); (case hg => rfl); (case hr => first | (go_simp; done) | (go_simp; rfl)); intro gb201 hg w7 hbox hb; have _ := A_ (below_step z4_1_ hb); have _ := A_ (hbox); have _ := A_ ((by rw [hg]; exact (below_size z4_1_) : w.heap.size ≤ gb201)); have _ := A_ ((by rw [hg]; exact (below_size z4_1_) : w.heap.size ≤ gb201)); clear HB; rename_i HB BK201 GW201 GE201; clear hb hbox hg) | ((with_reducible refine gate_dst (N := 4) rfl ?_); refine box_event ?hg (N := 4) ?hd (cs := #[.slice A1_0 l1_0.length c1_0, .slice A1_1 l1_1.length c1_1]) (t := 33) ?hr ?_; (case hd => rfl); (case hg => rfl); (case hr => first | (go_simp; done) | (go_simp; rfl)); intro gb202 hg w8 hbox hb; have _ := A_ (blk_below (g := gb201) (o := .cells #[.int .i64 a0_0, .int .i64 a0_1, .int .i64 a0_2, .int .i64 a0_3] 31 (0, 0)) z4_5_ hb); have _ := A_ (below_step z4_14_ hb); have _ := A_ (hbox); have _ := A_ ((by rw [hg]; exact (below_size z4_14_) : w.heap.size ≤ gb202)); have _ := A_ ((by rw [hg]; exact (below_size z4_14_) : w.heap.size ≤ gb202)); have _ := A_ ((by rw [hg]; exact Nat.ne_of_lt (blk_lt (g := gb201) (o := .cells #[.int .i64 a0_0, .int .i64 a0_1, .int .i64 a0_2, .int .i64 a0_3] 31 (0, 0)) z4_5_) : gb201 ≠ gb202)); have _ := A_ ((by rw [hg]; exact Nat.ne_of_gt (blk_lt (g := gb201) (o := .cells #[.int .i64 a0_0, .int .i64 a0_1, .int .i64 a0_2, .int .i64 a0_3] 31 (0, 0)) z4_5_) : gb202 ≠ gb201)); clear BK201 HB; rename_i BK201 HB BK202 GW202 GE202 NB201_202 NB202_201; clear hb hbox hg) | ((with_reducible refine gate_callee (f := 40) rfl ?_); refine goesL_ (some 10) rfl rfl Try.func40 (by kernel_rfl) rfl #[.pointer (some ⟨gb201, 0, none⟩), .pointer (some ⟨gb202, 0, none⟩), .int .i64 a2] rfl z4_4_ ?_; (with_reducible refine (spec_l03Asked.calls k _ ([(⟨a0_0, a0_1, a0_2, a0_3⟩ : S31)]).length [(⟨a0_0, a0_1, a0_2, a0_3⟩ : S31)] _ ([(⟨l1_0, l1_1⟩ : S33)]).length [(⟨l1_0, l1_1⟩ : S33)] a2 t205 _ ?side1 ?side2 ?side3 ?side4 A4.out).mono ?_); (case side1 => refine Kd.C_block k31 (g := gb201) (cs := #[.int .i64 a0_0, .int .i64 a0_1, .int .i64 a0_2, .int .i64 a0_3]) (T := 31) z4_5_ (show Kd.K k31 _ (⟨a0_0, a0_1, a0_2, a0_3⟩ : S31) [.int .i64 a0_0, .int .i64 a0_1, .int .i64 a0_2, .int .i64 a0_3] from k31_mk _ _) (by decide)); (case side2 => exact Nat.le_refl _); (case side3 => refine Kd.C_block k33 (g := gb202) (cs := #[.slice A1_0 l1_0.length c1_0, .slice A1_1 l1_1.length c1_1]) (T := 33) z4_15_ (show Kd.K k33 _ (⟨l1_0, l1_1⟩ : S33) [.slice A1_0 l1_0.length c1_0, .slice A1_1 l1_1.length c1_1] from k33_mk _ _ (by exact HC1_0.out) z4_19_ (by exact HC1_1.out) z4_18_) (by decide)); (case side4 => exact Nat.le_refl _); rintro e w9 ⟨rfl, hb⟩; refine ⟨_, rfl, ?_⟩; have _ := A_ (blk_below (g := gb201) (o := .cells #[.int .i64 a0_0, .int .i64 a0_1, .int .i64 a0_2, .int .i64 a0_3] 31 (0, 0)) z4_5_ hb); have _ := A_ (blk_below (g := gb202) (o := .cells #[.slice A1_0 l1_0.length c1_0, .slice A1_1 l1_1.length c1_1] 33 (0, 0)) z4_15_ hb); have _ := A_ (below_step z4_7_ hb); clear BK201 BK202 HB; rename_i BK201 BK202 HB; (try clear hb)) | ((with_reducible refine gate_callee (f := 41) rfl ?_); refine goesL_ (some 16) rfl rfl Try.func41 (by kernel_rfl) rfl #[.pointer (some ⟨gb201, 0, none⟩), .pointer (some ⟨gb202, 0, none⟩), .int .i64 a2] rfl z4_4_ ?_; (with_reducible refine (spec_l03Run.calls k _ ([(⟨a0_0, a0_1, a0_2, a0_3⟩ : S31)]).length [(⟨a0_0, a0_1, a0_2, a0_3⟩ : S31)] _ ([(⟨l1_0, l1_1⟩ : S33)]).length [(⟨l1_0, l1_1⟩ : S33)] a2 t208 t209 _ ?side1 ?side2 ?side3 ?side4 A6.out).mono ?_); (case side1 => refine Kd.C_block k31 (g := gb201) (cs := #[.int .i64 a0_0, .int .i64 a0_1, .int .i64 a0_2, .int .i64 a0_3]) (T := 31) z4_5_ (show Kd.K k31 _ (⟨a0_0, a0_1, a0_2, a0_3⟩ : S31) [.int .i64 a0_0, .int .i64 a0_1, .int .i64 a0_2, .int .i64 a0_3] from k31_mk _ _) (by decide)); (case side2 => exact Nat.le_refl _); (case side3 => refine Kd.C_block k33 (g := gb202) (cs := #[.slice A1_0 l1_0.length c1_0, .slice A1_1 l1_1.length c1_1]) (T := 33) z4_15_ (show Kd.K k33 _ (⟨l1_0, l1_1⟩ : S33) [.slice A1_0 l1_0.length c1_0, .slice A1_1 l1_1.length c1_1] from k33_mk _ _ (by exact HC1_0.out) z4_19_ (by exact HC1_1.out) z4_18_) (by decide)); (case side4 => exact Nat.le_refl _); rintro e w10 ⟨v210, rfl, ho0, hb⟩; refine ⟨_, rfl, ?_⟩; have _ := A_ (Kd.R_lower ho0 (below_size z4_7_)); have _ := A_ (blk_below (g := gb201) (o := .cells #[.int .i64 a0_0, .int .i64 a0_1, .int .i64 a0_2, .int .i64 a0_3] 31 (0, 0)) z4_5_ hb); have _ := A_ (blk_below (g := gb202) (o := .cells #[.slice A1_0 l1_0.length c1_0, .slice A1_1 l1_1.length c1_1] 33 (0, 0)) z4_15_ hb); have _ := A_ (below_step z4_7_ hb); clear BK201 BK202 HB; rename_i HO211 BK201 BK202 HB; (try clear hb); (try clear ho0)))
  go_ret2
  exact ⟨_, z4_16_, (by (with_reducible repeat (first | apply Kd.R_alloc | apply Kd.R_drewN | apply Kd.R_drew)); exact HO211.out), z4_7_⟩
 ·
  rw [if_neg c5] at H
  have c5b0 : (t205 == 0) = false := beq_eq_false_iff_ne.mpr c5
  have c5b1 : (t205 != 0) = true := bne_iff_ne.mpr c5
  obtain ⟨y212, hy212⟩ : ∃ y_ : List (S51), y_ = (([] : List (S51))) := ⟨_, rfl⟩
  replace H : (some (y212, t205)) = some (r1, r2) := by first | (rw [hy212]; with_reducible exact H) | (have H2_ := (Option.bind_some _ _).symm.trans H; rw [hy212]; with_reducible exact H2_) | (have H2_ := (Option.bind_some _ _).symm.trans H; with_reducible exact H2_) | with_reducible exact H | (rw [hy212]; exact H) | exact H
  have Ny212 := A_ hy212
  clear hy212
  simp only [Option.some.injEq, Prod.mk.injEq] at H
  obtain ⟨rfl, rfl⟩ := H
  go_enter Try.func8, Try.ntmps8
  go_wp2_with (first | ((with_reducible refine gate_dst (N := 3) rfl ?_); refine box_event ?hg (N := 3) ?hd (cs := #[.int .i64 a0_0, .int .i64 a0_1, .int .i64 a0_2, .int .i64 a0_3]) (t := 31) ?hr ?_; (case hd => rfl); (case hg => rfl); (case hr => first | (go_simp; done) | (go_simp; rfl)); intro gb201 hg w11 hbox hb; have _ := A_ (below_step z4_1_ hb); have _ := A_ (hbox); have _ := A_ ((by rw [hg]; exact (below_size z4_1_) : w.heap.size ≤ gb201)); have _ := A_ ((by rw [hg]; exact (below_size z4_1_) : w.heap.size ≤ gb201)); clear HB; rename_i HB BK201 GW201 GE201; clear hb hbox hg) | ((with_reducible refine gate_dst (N := 4) rfl ?_); refine box_event ?hg (N := 4) ?hd (cs := #[.slice A1_0 l1_0.length c1_0, .slice A1_1 l1_1.length c1_1]) (t := 33) ?hr ?_; (case hd => rfl); (case hg => rfl); (case hr => first | (go_simp; done) | (go_simp; rfl)); intro gb202 hg w12 hbox hb; have _ := A_ (blk_below (g := gb201) (o := .cells #[.int .i64 a0_0, .int .i64 a0_1, .int .i64 a0_2, .int .i64 a0_3] 31 (0, 0)) z4_5_ hb); have _ := A_ (below_step z4_14_ hb); have _ := A_ (hbox); have _ := A_ ((by rw [hg]; exact (below_size z4_14_) : w.heap.size ≤ gb202)); have _ := A_ ((by rw [hg]; exact (below_size z4_14_) : w.heap.size ≤ gb202)); have _ := A_ ((by rw [hg]; exact Nat.ne_of_lt (blk_lt (g := gb201) (o := .cells #[.int .i64 a0_0, .int .i64 a0_1, .int .i64 a0_2, .int .i64 a0_3] 31 (0, 0)) z4_5_) : gb201 ≠ gb202)); have _ := A_ ((by rw [hg]; exact Nat.ne_of_gt (blk_lt (g := gb201) (o := .cells #[.int .i64 a0_0, .int .i64 a0_1, .int .i64 a0_2, .int .i64 a0_3] 31 (0, 0)) z4_5_) : gb202 ≠ gb201)); clear BK201 HB; rename_i BK201 HB BK202 GW202 GE202 NB201_202 NB202_201; clear hb hbox hg) | ((with_reducible refine gate_callee (f := 40) rfl ?_); refine goesL_ (some 10) rfl rfl Try.func40 (by kernel_rfl) rfl #[.pointer (some ⟨gb201, 0, none⟩), .pointer (some ⟨gb202, 0, none⟩), .int .i64 a2] rfl z4_4_ ?_; (with_reducible refine (spec_l03Asked.calls k _ ([(⟨a0_0, a0_1, a0_2, a0_3⟩ : S31)]).length [(⟨a0_0, a0_1, a0_2, a0_3⟩ : S31)] _ ([(⟨l1_0, l1_1⟩ : S33)]).length [(⟨l1_0, l1_1⟩ : S33)] a2 t205 _ ?side1 ?side2 ?side3 ?side4 A4.out).mono ?_); (case side1 => refine Kd.C_block k31 (g := gb201) (cs := #[.int .i64 a0_0, .int .i64 a0_1, .int .i64 a0_2, .int .i64 a0_3]) (T := 31) z4_5_ (show Kd.K k31 _ (⟨a0_0, a0_1, a0_2, a0_3⟩ : S31) [.int .i64 a0_0, .int .i64 a0_1, .int .i64 a0_2, .int .i64 a0_3] from k31_mk _ _) (by decide)); (case side2 => exact Nat.le_refl _); (case side3 => refine Kd.C_block k33 (g := gb202) (cs := #[.slice A1_0 l1_0.length c1_0, .slice A1_1 l1_1.length c1_1]) (T := 33) z4_15_ (show Kd.K k33 _ (⟨l1_0, l1_1⟩ : S33) [.slice A1_0 l1_0.length c1_0, .slice A1_1 l1_1.length c1_1] from k33_mk _ _ (by exact HC1_0.out) z4_19_ (by exact HC1_1.out) z4_18_) (by decide)); (case side4 => exact Nat.le_refl _); rintro e w13 ⟨rfl, hb⟩; refine ⟨_, rfl, ?_⟩; have _ := A_ (blk_below (g := gb201) (o := .cells #[.int .i64 a0_0, .int .i64 a0_1, .int .i64 a0_2, .int .i64 a0_3] 31 (0, 0)) z4_5_ hb); have _ := A_ (blk_below (g := gb202) (o := .cells #[.slice A1_0 l1_0.length c1_0, .slice A1_1 l1_1.length c1_1] 33 (0, 0)) z4_15_ hb); have _ := A_ (below_step z4_7_ hb); clear BK201 BK202 HB; rename_i BK201 BK202 HB; (try clear hb)) | ((with_reducible refine gate_dst (N := 13) rfl ?_); refine Kd.R_lit k51 _ 51 ?hg (N := 13) ?hd (xs := ([] : List (S51))) (inner := []) (ok := fun _ => True) (okp := fun _ => True) ?hr ?hp (fun _ hk => hk) trivial (Below.refl _ _) (Nat.le_refl _) (by simp) ?_; (case hd => rfl); (case hg => rfl); (case hr => first | (go_simp; done) | (go_simp; rfl)); (case hp => exact (Reps.none _ _)); intro v213 w14 ho15 hb hg_ hnew_; clear hg_ hnew_; (first | rw [← Ny212.out] at ho15 | (simp only [Int.reduceToNat] at ho15; rw [← Ny212.out] at ho15)); have _ := A_ (Kd.R_lower ho15 (below_size z4_7_)); have _ := A_ (blk_below (g := gb201) (o := .cells #[.int .i64 a0_0, .int .i64 a0_1, .int .i64 a0_2, .int .i64 a0_3] 31 (0, 0)) z4_5_ hb); have _ := A_ (blk_below (g := gb202) (o := .cells #[.slice A1_0 l1_0.length c1_0, .slice A1_1 l1_1.length c1_1] 33 (0, 0)) z4_15_ hb); have _ := A_ (below_step z4_7_ hb); clear BK201 BK202 HB; rename_i HO214 BK201 BK202 HB; clear hb ho15))
  go_ret2
  exact ⟨_, z4_16_, (by (with_reducible repeat (first | apply Kd.R_alloc | apply Kd.R_drewN | apply Kd.R_drew)); exact HO214.out), z4_7_⟩
/-! ### impl_within: function 51 -/
def impl_within.f (a0 : Int) (a1 : Int) (a2 : Int) : Option (Bool) := if a0 ≥ a1 then (some (decide (a0 ≤ a2))) else (some false)
set_option maxHeartbeats 8000000 in
set_option maxRecDepth 100000 in
theorem impl_within.calls (a0 : Int) (a1 : Int) (a2 : Int) (r : Bool) (w : World) (h : impl_within.f a0 a1 a2 = some r) :
  Calls Try.prog 51 #[.int .i64 a0, .int .i64 a1, .int .i64 a2] w fun e w' => e = .returned (.bool r) ∧ Drawn0 w w' := by
 have H : (if a0 ≥ a1 then (some (decide (a0 ≤ a2))) else (some false)) = some r := h
 clear h
 by_cases c4 : a0 ≥ a1
 ·
  rw [if_pos c4] at H
  have c4b0 := decide_eq_true c4
  clear c4
  obtain rfl := Option.some.inj H
  go_enter Try.func51, Try.ntmps51
  go_wp2
  go_ret
  exact ⟨z4_9_, (by repeat (first | exact Drawn0.refl _ | apply Drawn0.step))⟩
 ·
  rw [if_neg c4] at H
  have c4b0 := decide_eq_false c4
  clear c4
  obtain rfl := Option.some.inj H
  go_enter Try.func51, Try.ntmps51
  go_wp2
  go_ret
  exact ⟨z4_9_, (by repeat (first | exact Drawn0.refl _ | apply Drawn0.step))⟩
/-! ### impl_ValidMoebius: function 33 -/
def impl_ValidMoebius.l0 : Nat → List Int → Int → Int → Int → Int → Int → Int → Option (Bool)
 | 0, _, _, _, _, _, _, _ => none
 | k + 1, x13, x14, x15, x216000, x216001, x216002, x216003 => if x15 < x14 then (if 0 ≤ x15 then (if x15 < (x13.length : Int) then ((impl_within.f (rd x13 x15) (-1000000) 1000000).bind fun t220 => (if t220 = true then (impl_ValidMoebius.l0 k x13 x14 (wrap64 (x15 + 1)) x216000 x216001 x216002 x216003) else (some false))) else (none)) else (none)) else (some (decide (x216003 > (mx x216002 (wrap64 (-x216002))))))
def impl_ValidMoebius.f (k : Nat) (a0_0 : Int) (a0_1 : Int) (a0_2 : Int) (a0_3 : Int) : Option (Bool) := (some (([a0_0, a0_1, a0_2, a0_3] : List Int) : List Int)).bind fun y216 => (impl_ValidMoebius.l0 k y216 (y216.length : Int) 0 a0_0 a0_1 a0_2 a0_3)
theorem impl_ValidMoebius.mono_l : ∀ k, (∀ y0 y1 y2 y3 y4 y5 y6, LeO (impl_ValidMoebius.l0 k y0 y1 y2 y3 y4 y5 y6) (impl_ValidMoebius.l0 (k + 1) y0 y1 y2 y3 y4 y5 y6))
 | 0 => fun _ _ _ _ _ _ _ r h => by simp [impl_ValidMoebius.l0] at h
 | k + 1 => by
  have ih0 := impl_ValidMoebius.mono_l k
  ·
   intro y0 y1 y2 y3 y4 y5 y6
   unfold impl_ValidMoebius.l0
   repeat' first
   | (with_reducible exact ih0 _ _ _ _ _ _ _)
   | (with_reducible exact LeO.refl _)
   | (with_reducible exact LeO.none _)
   | (with_reducible refine LeO.ite ?_ ?_)
   | (with_reducible refine LeO.bind ?_ (fun _ => ?_))
   | exact ih0 _ _ _ _ _ _ _
   | exact LeO.none _
   | refine LeO.ite ?_ ?_
   | refine LeO.bind ?_ (fun _ => ?_)
theorem impl_ValidMoebius.mono : ∀ a0 a1 a2 a3 k, LeO (impl_ValidMoebius.f k a0 a1 a2 a3) (impl_ValidMoebius.f (k + 1) a0 a1 a2 a3) := by
 intro a0 a1 a2 a3 k
 have ih0 := impl_ValidMoebius.mono_l k
 unfold impl_ValidMoebius.f
 repeat' first
   | (with_reducible exact ih0 _ _ _ _ _ _ _)
   | (with_reducible exact LeO.refl _)
   | (with_reducible exact LeO.none _)
   | (with_reducible refine LeO.ite ?_ ?_)
   | (with_reducible refine LeO.bind ?_ (fun _ => ?_))
   | exact ih0 _ _ _ _ _ _ _
   | exact LeO.none _
   | refine LeO.ite ?_ ?_
   | refine LeO.bind ?_ (fun _ => ?_)
set_option maxHeartbeats 8000000 in
set_option maxRecDepth 100000 in
theorem impl_ValidMoebius.calls (k : Nat) (a0_0 : Int) (a0_1 : Int) (a0_2 : Int) (a0_3 : Int) (r : Bool) (w : World) (h : impl_ValidMoebius.f k a0_0 a0_1 a0_2 a0_3 = some r) :
  Calls Try.prog 33 #[.agg #[.int .i64 a0_0, .int .i64 a0_1, .int .i64 a0_2, .int .i64 a0_3]] w fun e w' => e = .returned (.bool r) ∧ Below w.heap.size w w' := by
 have hu31 := Try.underlying31
 have HB := A_ (Below.refl w.heap.size w)
 have H : ((some (([a0_0, a0_1, a0_2, a0_3] : List Int) : List Int)).bind fun y216 => (impl_ValidMoebius.l0 k y216 (y216.length : Int) 0 a0_0 a0_1 a0_2 a0_3)) = some r := h
 clear h
 obtain ⟨y216, hy216⟩ : ∃ y_ : List Int, y_ = (([a0_0, a0_1, a0_2, a0_3] : List Int)) := ⟨_, rfl⟩
 replace H : (impl_ValidMoebius.l0 k y216 (y216.length : Int) 0 a0_0 a0_1 a0_2 a0_3) = some r := by first | (rw [hy216]; with_reducible exact H) | (have H2_ := (Option.bind_some _ _).symm.trans H; rw [hy216]; with_reducible exact H2_) | (have H2_ := (Option.bind_some _ _).symm.trans H; with_reducible exact H2_) | with_reducible exact H | (rw [hy216]; exact H) | exact H
 have Ny216 := A_ hy216
 clear hy216
 have H' := A_ H
 clear H
 go_enter Try.func33, Try.ntmps33
 go_wp2_with (first | ((with_reducible refine gate_dst (N := 1) rfl ?_); refine box_event ?hg (N := 1) ?hd (cs := #[.int .i64 a0_0, .int .i64 a0_1, .int .i64 a0_2, .int .i64 a0_3]) (t := 31) ?hr ?_; (case hd => rfl); (case hg => rfl); (case hr => first | (go_simp; done) | (go_simp; rfl)); intro gb215 hg w2 hbox hb; have _ := A_ (below_step z4_1_ hb); have _ := A_ (hbox); have _ := A_ ((by rw [hg]; exact (below_size z4_1_) : w.heap.size ≤ gb215)); have _ := A_ ((by rw [hg]; exact (below_size z4_1_) : w.heap.size ≤ gb215)); clear HB; rename_i HB BK215 GW215 GE215; clear hb hbox hg; obtain ⟨hcz3_0, hcz3_1, hcz3_2, hcz3_3⟩ := bc4 BK215.out; obtain ⟨hfz3_0, hfz3_1, hfz3_2, hfz3_3⟩ := bf4 BK215.out) | ((with_reducible refine gate_dst (N := 13) rfl ?_); refine Kd.R_lit (Kd.int .i64) _ 2 ?hg (N := 13) ?hd (xs := ([a0_0, a0_1, a0_2, a0_3] : List Int)) (inner := [.int .i64 a0_0, .int .i64 a0_1, .int .i64 a0_2, .int .i64 a0_3]) (ok := fun _ => True) (okp := fun _ => True) ?hr ?hp (fun _ hk => hk) trivial (Below.refl _ _) (Nat.le_refl _) (by simp) ?_; (case hd => rfl); (case hg => rfl); (case hr => first | (go_simp; done) | (go_simp; rfl)); (case hp => exact (Reps.one (show Kd.M (Kd.int .i64) _ _ _ a0_0 [.int .i64 a0_0] from rfl) (Reps.one (show Kd.M (Kd.int .i64) _ _ _ a0_1 [.int .i64 a0_1] from rfl) (Reps.one (show Kd.M (Kd.int .i64) _ _ _ a0_2 [.int .i64 a0_2] from rfl) (Reps.one (show Kd.M (Kd.int .i64) _ _ _ a0_3 [.int .i64 a0_3] from rfl) (Reps.none _ _)))))); intro v217 w4 ho5 hb hg_ hnew_; clear hg_ hnew_; (first | rw [← Ny216.out] at ho5 | (simp only [Int.reduceToNat] at ho5; rw [← Ny216.out] at ho5)); have _ := A_ (Kd.R_lower ho5 (below_size z4_13_)); have _ := A_ (blk_below (g := gb215) (o := .cells #[.int .i64 a0_0, .int .i64 a0_1, .int .i64 a0_2, .int .i64 a0_3] 31 (0, 0)) z4_20_ hb); have _ := A_ (below_step z4_13_ hb); clear BK215 HB; rename_i HO218 BK215 HB; clear hb ho5; obtain ⟨Ao6, co6, eo6⟩ := Kd.R_slice HO218.out; subst eo6))
 go_loopg [15] k (fun kq v15 w' => ∃ (x15_1 : Int), v15 = .int .i64 x15_1 ∧ Aside0 (impl_ValidMoebius.l0 kq y216 (y216.length : Int) x15_1 a0_0 a0_1 a0_2 a0_3 = some r) ∧ Aside0 (kq ≤ k) ∧ Aside0 (Kd.R (Kd.int .i64) 2 w' w.heap.size (fun _ => True) (.slice Ao6 y216.length co6) y216) ∧ Aside0 (w'.heap[gb215]? = some (.cells #[.int .i64 a0_0, .int .i64 a0_1, .int .i64 a0_2, .int .i64 a0_3] 31 (0, 0))) ∧ Aside0 (Below w.heap.size w w'))
 case atStart => exact ⟨(0), z4_9_, H', ⟨Nat.le_refl _⟩, ⟨(by (with_reducible repeat (first | apply Kd.R_alloc | apply Kd.R_drewN | apply Kd.R_drew)); exact HO218.out)⟩, ⟨z4_20_⟩, ⟨z4_13_⟩⟩
 case round =>
  clear H'
  try clear p2
  try clear c3
  try clear hcz3_0
  try clear hcz3_1
  try clear hcz3_2
  try clear hcz3_3
  try clear hfz3_0
  try clear hfz3_1
  try clear hfz3_2
  try clear hfz3_3
  obtain ⟨x15_1, rfl, HA, HK1, HO_13, BK215, HB⟩ := hrel
  cases gk with
  | zero => exact absurd HA.out (by simp [impl_ValidMoebius.l0])
  | succ k1 =>
   have H := HA.out
   clear HA
   simp only [impl_ValidMoebius.l0] at H
   by_cases c7 : x15_1 < (y216.length : Int)
   ·
    rw [if_pos c7] at H
    have c7b0 := decide_eq_true c7
    clear c7
    by_cases c8 : 0 ≤ x15_1
    ·
     rw [if_pos c8] at H
     have c8b0 := decide_eq_true c8
     clear c8
     by_cases c9 : x15_1 < (y216.length : Int)
     ·
      rw [if_pos c9] at H
      have c9b0 := decide_eq_true c9
      clear c9
      replace H := Option.bind_eq_some_iff.mp H
      obtain ⟨t220, A100, H⟩ := H
      try dsimp only at H
      have A10 := A_ A100
      clear A100
      by_cases c11 : t220 = true
      ·
       subst c11
       have H1 := H; rw [if_pos rfl] at H1
       clear H
       have H := H1
       clear H1
       have H' := A_ H
       clear H
       have p219 : 0 ≤ (x15_1 : Int) := of_decide_eq_true (by assumption)
       have q219 : x15_1 < (y216.length : Int) := of_decide_eq_true (by assumption)
       obtain ⟨ad219, e219, hx219_0⟩ := Kd.at_int (Kd.R_reads' HO_13.out).2.2 x15_1 p219 q219
       cases e219
       replace p219 := eq_true p219
       replace q219 := eq_true q219
       go_wp2_with (first | ((with_reducible refine gate_callee (f := 51) rfl ?_); refine goesL_ (some 20) rfl rfl Try.func51 (by kernel_rfl) rfl #[.int .i64 (rd y216 x15_1), .int .i64 (-1000000), .int .i64 1000000] rfl z4_4_ ?_; (with_reducible refine (impl_within.calls (rd y216 x15_1) (-1000000) 1000000 true _ A10.out).mono ?_); rintro e w' ⟨rfl, ⟨nd, rfl⟩⟩; refine ⟨_, rfl, ?_⟩))
       go_roundg k1
       case measure => have := HK1.out; omega
       case rel => exact ⟨(wrap64 (x15_1 + 1)), z4_9_, H', ⟨(by have := HK1.out; omega)⟩, ⟨(by (with_reducible repeat (first | apply Kd.R_alloc | apply Kd.R_drewN | apply Kd.R_drew)); exact HO_13.out)⟩, ⟨z4_20_⟩, ⟨z4_13_⟩⟩
      ·
       replace c11 := Bool.eq_false_iff.mpr c11
       subst c11
       have H1 := H; rw [if_neg (show ¬ (false = true) by decide)] at H1
       clear H
       have H := H1
       clear H1
       obtain rfl := Option.some.inj H
       have p219 : 0 ≤ (x15_1 : Int) := of_decide_eq_true (by assumption)
       have q219 : x15_1 < (y216.length : Int) := of_decide_eq_true (by assumption)
       obtain ⟨ad219, e219, hx219_0⟩ := Kd.at_int (Kd.R_reads' HO_13.out).2.2 x15_1 p219 q219
       cases e219
       replace p219 := eq_true p219
       replace q219 := eq_true q219
       go_wp2_with (first | ((with_reducible refine gate_callee (f := 51) rfl ?_); refine goesL_ (some 20) rfl rfl Try.func51 (by kernel_rfl) rfl #[.int .i64 (rd y216 x15_1), .int .i64 (-1000000), .int .i64 1000000] rfl z4_4_ ?_; (with_reducible refine (impl_within.calls (rd y216 x15_1) (-1000000) 1000000 false _ A10.out).mono ?_); rintro e w' ⟨rfl, ⟨nd, rfl⟩⟩; refine ⟨_, rfl, ?_⟩))
       go_ret
       exact ⟨z4_16_, z4_13_⟩
     ·
      rw [if_neg c9] at H
      exact absurd H (by simp)
    ·
     rw [if_neg c8] at H
     exact absurd H (by simp)
   ·
    rw [if_neg c7] at H
    have c7b0 := decide_eq_false c7
    clear c7
    obtain ⟨ji12, hji12⟩ : ∃ j_ : Int, (mx a0_2 (wrap64 (-a0_2))) = j_ := ⟨_, rfl⟩
    replace H : (some (decide (a0_3 > (ji12)))) = some r := by first | (rw [hji12] at H; exact H) | (simp only [hji12] at H ⊢; exact H)
    have hji12_ : (if a0_2 < (wrap64 (-a0_2)) then (wrap64 (-a0_2)) else a0_2) = ji12 := hji12
    obtain rfl := Option.some.inj H
    obtain ⟨hcz13_0, hcz13_1, hcz13_2, hcz13_3⟩ := bc4 BK215.out
    obtain ⟨hfz13_0, hfz13_1, hfz13_2, hfz13_3⟩ := bf4 BK215.out
    go_wp2
    go_ret
    exact ⟨(by first | rfl | (simp [errW_none, errW_some] <;> rfl) | (simp only [← hji12]; first | rfl | (simp [errW_none, errW_some] <;> rfl)) | (simp [*, errW_none, errW_some] <;> rfl)), z4_13_⟩
/-! ### impl_Stream_at: function 52 -/
def impl_Stream_at.f (l0_0 : List Int) (l0_1 : List Int) (a1 : Int) : Option (Int) := if a1 < (l0_0.length : Int) then (if 0 ≤ a1 then (some (rd l0_0 a1)) else (none)) else (if (l0_1.length : Int) = 0 then (none) else (if 0 ≤ (Int.tmod (wrap64 (a1 - (l0_0.length : Int))) (l0_1.length : Int)) then (if (Int.tmod (wrap64 (a1 - (l0_0.length : Int))) (l0_1.length : Int)) < (l0_1.length : Int) then (some (rd l0_1 (Int.tmod (wrap64 (a1 - (l0_0.length : Int))) (l0_1.length : Int)))) else (none)) else (none)))
set_option maxHeartbeats 8000000 in
set_option maxRecDepth 100000 in
theorem impl_Stream_at.calls (A0_0 : Option Addr) (c0_0 : Nat) (l0_0 : List Int) (A0_1 : Option Addr) (c0_1 : Nat) (l0_1 : List Int) (a1 : Int) (r : Int) (w : World) (hr0_0 : Kd.C (Kd.int .i8) w A0_0 l0_0.length l0_0) (hc0_0 : l0_0.length ≤ c0_0) (hr0_1 : Kd.C (Kd.int .i8) w A0_1 l0_1.length l0_1) (hc0_1 : l0_1.length ≤ c0_1) (h : impl_Stream_at.f l0_0 l0_1 a1 = some r) :
  Calls Try.prog 52 #[.agg #[.slice A0_0 l0_0.length c0_0, .slice A0_1 l0_1.length c0_1], .int .i64 a1] w fun e w' => e = .returned (.int .i8 r) ∧ Below w.heap.size w w' := by
 have hu33 := Try.underlying33
 have HR0_0 := A_ hr0_0
 have HC0_0 := A_ hc0_0
 clear hr0_0 hc0_0
 have HR0_1 := A_ hr0_1
 have HC0_1 := A_ hc0_1
 clear hr0_1 hc0_1
 have HB := A_ (Below.refl w.heap.size w)
 have H : (if a1 < (l0_0.length : Int) then (if 0 ≤ a1 then (some (rd l0_0 a1)) else (none)) else (if (l0_1.length : Int) = 0 then (none) else (if 0 ≤ (Int.tmod (wrap64 (a1 - (l0_0.length : Int))) (l0_1.length : Int)) then (if (Int.tmod (wrap64 (a1 - (l0_0.length : Int))) (l0_1.length : Int)) < (l0_1.length : Int) then (some (rd l0_1 (Int.tmod (wrap64 (a1 - (l0_0.length : Int))) (l0_1.length : Int)))) else (none)) else (none)))) = some r := h
 clear h
 by_cases c3 : a1 < (l0_0.length : Int)
 ·
  rw [if_pos c3] at H
  have c3b0 := decide_eq_true c3
  clear c3
  by_cases c4 : 0 ≤ a1
  ·
   rw [if_pos c4] at H
   have c4b0 := decide_eq_true c4
   clear c4
   obtain rfl := Option.some.inj H
   go_enter Try.func52, Try.ntmps52
   go_wp2_with (first | ((with_reducible refine gate_dst (N := 2) rfl ?_); refine box_event ?hg (N := 2) ?hd (cs := #[.slice A0_0 l0_0.length c0_0, .slice A0_1 l0_1.length c0_1]) (t := 33) ?hr ?_; (case hd => rfl); (case hg => rfl); (case hr => first | (go_simp; done) | (go_simp; rfl)); intro gb224 hg w5 hbox hb; have _ := A_ (below_step z4_1_ hb); have _ := A_ (hbox); have _ := A_ ((by rw [hg]; exact (below_size z4_1_) : w.heap.size ≤ gb224)); have _ := A_ ((by rw [hg]; exact (below_size z4_1_) : w.heap.size ≤ gb224)); clear HB; rename_i HB BK224 GW224 GE224; clear hb hbox hg; obtain ⟨hcz6_0, hcz6_1⟩ := bc2 BK224.out; obtain ⟨hfz6_0, hfz6_1⟩ := bf2 BK224.out; have p225 : 0 ≤ (a1 : Int) := of_decide_eq_true (by assumption); have q225 : a1 < (l0_0.length : Int) := of_decide_eq_true (by assumption); obtain ⟨ad225, e225, hx225_0⟩ := Kd.at_int HR0_0.out a1 p225 q225; cases e225; replace hx225_0 := cel HB.out hx225_0; replace p225 := eq_true p225; replace q225 := eq_true q225))
   repeat (go_quiet (first | ((with_reducible refine gate_dst (N := 2) rfl ?_); refine box_event ?hg (N := 2) ?hd (cs := #[.slice A0_0 l0_0.length c0_0, .slice A0_1 l0_1.length c0_1]) (t := 33) ?hr ?_; (case hd => rfl); (case hg => rfl); (case hr => first | (go_simp; done) | (go_simp; rfl)); intro gb224 hg w5 hbox hb; have _ := A_ (below_step z4_1_ hb); have _ := A_ (hbox); have _ := A_ ((by rw [hg]; exact (below_size z4_1_) : w.heap.size ≤ gb224)); have _ := A_ ((by rw [hg]; exact (below_size z4_1_) : w.heap.size ≤ gb224)); clear HB; rename_i HB BK224 GW224 GE224; clear hb hbox hg; obtain ⟨hcz6_0, hcz6_1⟩ := bc2 BK224.out; obtain ⟨hfz6_0, hfz6_1⟩ := bf2 BK224.out; have p225 : 0 ≤ (a1 : Int) := of_decide_eq_true (by assumption); have q225 : a1 < (l0_0.length : Int) := of_decide_eq_true (by assumption); obtain ⟨ad225, e225, hx225_0⟩ := Kd.at_int HR0_0.out a1 p225 q225; cases e225; replace hx225_0 := cel HB.out hx225_0; replace p225 := eq_true p225; replace q225 := eq_true q225)); try go_wp2_with (first | ((with_reducible refine gate_dst (N := 2) rfl ?_); refine box_event ?hg (N := 2) ?hd (cs := #[.slice A0_0 l0_0.length c0_0, .slice A0_1 l0_1.length c0_1]) (t := 33) ?hr ?_; (case hd => rfl); (case hg => rfl); (case hr => first | (go_simp; done) | (go_simp; rfl)); intro gb224 hg w5 hbox hb; have _ := A_ (below_step z4_1_ hb); have _ := A_ (hbox); have _ := A_ ((by rw [hg]; exact (below_size z4_1_) : w.heap.size ≤ gb224)); have _ := A_ ((by rw [hg]; exact (below_size z4_1_) : w.heap.size ≤ gb224)); clear HB; rename_i HB BK224 GW224 GE224; clear hb hbox hg; obtain ⟨hcz6_0, hcz6_1⟩ := bc2 BK224.out; obtain ⟨hfz6_0, hfz6_1⟩ := bf2 BK224.out; have p225 : 0 ≤ (a1 : Int) := of_decide_eq_true (by assumption); have q225 : a1 < (l0_0.length : Int) := of_decide_eq_true (by assumption); obtain ⟨ad225, e225, hx225_0⟩ := Kd.at_int HR0_0.out a1 p225 q225; cases e225; replace hx225_0 := cel HB.out hx225_0; replace p225 := eq_true p225; replace q225 := eq_true q225)))
   go_ret
   exact ⟨z4_16_, z4_22_⟩
  ·
   rw [if_neg c4] at H
   exact absurd H (by simp)
 ·
  rw [if_neg c3] at H
  have c3b0 := decide_eq_false c3
  clear c3
  by_cases c7 : (l0_1.length : Int) = 0
  ·
   rw [if_pos c7] at H
   exact absurd H (by simp)
  ·
   rw [if_neg c7] at H
   have c7b0 : ((l0_1.length : Int) == 0) = false := beq_eq_false_iff_ne.mpr c7
   have c7b1 : ((l0_1.length : Int) != 0) = true := bne_iff_ne.mpr c7
   have c7b2 : ¬ (l0_1 = []) := fun h_ => c7 (by rw [h_]; rfl)
   obtain ⟨ji8, hji8⟩ : ∃ j_ : Int, (Int.tmod (wrap64 (a1 - (l0_0.length : Int))) (l0_1.length : Int)) = j_ := ⟨_, rfl⟩
   replace H : (if 0 ≤ (ji8) then (if (ji8) < (l0_1.length : Int) then (some (rd l0_1 (ji8))) else (none)) else (none)) = some r := by first | (rw [hji8] at H; exact H) | (simp only [hji8] at H ⊢; exact H)
   by_cases c9 : 0 ≤ (ji8)
   ·
    rw [if_pos c9] at H
    have c9b0 := decide_eq_true c9
    clear c9
    by_cases c10 : (ji8) < (l0_1.length : Int)
    ·
     rw [if_pos c10] at H
     have c10b0 := decide_eq_true c10
     clear c10
     obtain rfl := Option.some.inj H
     go_enter Try.func52, Try.ntmps52
     go_wp2_with (first | ((with_reducible refine gate_dst (N := 2) rfl ?_); refine box_event ?hg (N := 2) ?hd (cs := #[.slice A0_0 l0_0.length c0_0, .slice A0_1 l0_1.length c0_1]) (t := 33) ?hr ?_; (case hd => rfl); (case hg => rfl); (case hr => first | (go_simp; done) | (go_simp; rfl)); intro gb224 hg w11 hbox hb; have _ := A_ (below_step z4_1_ hb); have _ := A_ (hbox); have _ := A_ ((by rw [hg]; exact (below_size z4_1_) : w.heap.size ≤ gb224)); have _ := A_ ((by rw [hg]; exact (below_size z4_1_) : w.heap.size ≤ gb224)); clear HB; rename_i HB BK224 GW224 GE224; clear hb hbox hg; obtain ⟨hcz12_0, hcz12_1⟩ := bc2 BK224.out; obtain ⟨hfz12_0, hfz12_1⟩ := bf2 BK224.out; have p226 : 0 ≤ ((ji8) : Int) := of_decide_eq_true (by assumption); have q226 : (ji8) < (l0_1.length : Int) := of_decide_eq_true (by assumption); obtain ⟨ad226, e226, hx226_0⟩ := Kd.at_int HR0_1.out (ji8) p226 q226; cases e226; replace hx226_0 := cel HB.out hx226_0; replace p226 := eq_true p226; replace q226 := eq_true q226))
     repeat (go_quiet (first | ((with_reducible refine gate_dst (N := 2) rfl ?_); refine box_event ?hg (N := 2) ?hd (cs := #[.slice A0_0 l0_0.length c0_0, .slice A0_1 l0_1.length c0_1]) (t := 33) ?hr ?_; (case hd => rfl); (case hg => rfl); (case hr => first | (go_simp; done) | (go_simp; rfl)); intro gb224 hg w11 hbox hb; have _ := A_ (below_step z4_1_ hb); have _ := A_ (hbox); have _ := A_ ((by rw [hg]; exact (below_size z4_1_) : w.heap.size ≤ gb224)); have _ := A_ ((by rw [hg]; exact (below_size z4_1_) : w.heap.size ≤ gb224)); clear HB; rename_i HB BK224 GW224 GE224; clear hb hbox hg; obtain ⟨hcz12_0, hcz12_1⟩ := bc2 BK224.out; obtain ⟨hfz12_0, hfz12_1⟩ := bf2 BK224.out; have p226 : 0 ≤ ((ji8) : Int) := of_decide_eq_true (by assumption); have q226 : (ji8) < (l0_1.length : Int) := of_decide_eq_true (by assumption); obtain ⟨ad226, e226, hx226_0⟩ := Kd.at_int HR0_1.out (ji8) p226 q226; cases e226; replace hx226_0 := cel HB.out hx226_0; replace p226 := eq_true p226; replace q226 := eq_true q226)); try go_wp2_with (first | ((with_reducible refine gate_dst (N := 2) rfl ?_); refine box_event ?hg (N := 2) ?hd (cs := #[.slice A0_0 l0_0.length c0_0, .slice A0_1 l0_1.length c0_1]) (t := 33) ?hr ?_; (case hd => rfl); (case hg => rfl); (case hr => first | (go_simp; done) | (go_simp; rfl)); intro gb224 hg w11 hbox hb; have _ := A_ (below_step z4_1_ hb); have _ := A_ (hbox); have _ := A_ ((by rw [hg]; exact (below_size z4_1_) : w.heap.size ≤ gb224)); have _ := A_ ((by rw [hg]; exact (below_size z4_1_) : w.heap.size ≤ gb224)); clear HB; rename_i HB BK224 GW224 GE224; clear hb hbox hg; obtain ⟨hcz12_0, hcz12_1⟩ := bc2 BK224.out; obtain ⟨hfz12_0, hfz12_1⟩ := bf2 BK224.out; have p226 : 0 ≤ ((ji8) : Int) := of_decide_eq_true (by assumption); have q226 : (ji8) < (l0_1.length : Int) := of_decide_eq_true (by assumption); obtain ⟨ad226, e226, hx226_0⟩ := Kd.at_int HR0_1.out (ji8) p226 q226; cases e226; replace hx226_0 := cel HB.out hx226_0; replace p226 := eq_true p226; replace q226 := eq_true q226)))
     go_ret
     exact ⟨(by first | rfl | (simp [errW_none, errW_some] <;> rfl) | (simp only [← hji8]; first | rfl | (simp [errW_none, errW_some] <;> rfl)) | (simp [*, errW_none, errW_some] <;> rfl)), z4_22_⟩
    ·
     rw [if_neg c10] at H
     exact absurd H (by simp)
   ·
    rw [if_neg c9] at H
    exact absurd H (by simp)
/-! ### impl_common: function 83 -/
mutual
def impl_common.l0 : Nat → Int → List Int → Int → Int → Option (Int)
 | 0, _, _, _, _ => none
 | k + 1, x3, x6, x7, x8 => if x8 < x7 then (if 0 ≤ x8 then (if x8 < (x6.length : Int) then (impl_common.l1 k x3 (mx (rd x6 x8) (wrap64 (-(rd x6 x8)))) x6 x7 x8) else (none)) else (none)) else (some x3)
def impl_common.l1 : Nat → Int → Int → List Int → Int → Int → Option (Int)
 | 0, _, _, _, _, _ => none
 | k + 1, x3, x5, x6, x7, x8 => if x5 = 0 then (impl_common.l0 k x3 x6 x7 (wrap64 (x8 + 1))) else (impl_common.l1 k x5 (Int.tmod x3 x5) x6 x7 x8)
end
def impl_common.f (k : Nat) (l0 : List Int) : Option (Int) := impl_common.l0 k 0 l0 (l0.length : Int) 0
theorem impl_common.mono_l : ∀ k, (∀ y0 y1 y2 y3, LeO (impl_common.l0 k y0 y1 y2 y3) (impl_common.l0 (k + 1) y0 y1 y2 y3)) ∧ (∀ y0 y1 y2 y3 y4, LeO (impl_common.l1 k y0 y1 y2 y3 y4) (impl_common.l1 (k + 1) y0 y1 y2 y3 y4))
 | 0 => ⟨fun _ _ _ _ r h => by simp [impl_common.l0] at h, fun _ _ _ _ _ r h => by simp [impl_common.l1] at h⟩
 | k + 1 => by
  obtain ⟨ih0, ih1⟩ := impl_common.mono_l k
  refine ⟨?_, ?_⟩
  ·
   intro y0 y1 y2 y3
   unfold impl_common.l0
   repeat' first
   | (with_reducible exact ih0 _ _ _ _)
   | (with_reducible exact ih1 _ _ _ _ _)
   | (with_reducible exact LeO.refl _)
   | (with_reducible exact LeO.none _)
   | (with_reducible refine LeO.ite ?_ ?_)
   | (with_reducible refine LeO.bind ?_ (fun _ => ?_))
   | exact ih0 _ _ _ _
   | exact ih1 _ _ _ _ _
   | exact LeO.none _
   | refine LeO.ite ?_ ?_
   | refine LeO.bind ?_ (fun _ => ?_)
  ·
   intro y0 y1 y2 y3 y4
   unfold impl_common.l1
   repeat' first
   | (with_reducible exact ih0 _ _ _ _)
   | (with_reducible exact ih1 _ _ _ _ _)
   | (with_reducible exact LeO.refl _)
   | (with_reducible exact LeO.none _)
   | (with_reducible refine LeO.ite ?_ ?_)
   | (with_reducible refine LeO.bind ?_ (fun _ => ?_))
   | exact ih0 _ _ _ _
   | exact ih1 _ _ _ _ _
   | exact LeO.none _
   | refine LeO.ite ?_ ?_
   | refine LeO.bind ?_ (fun _ => ?_)
theorem impl_common.mono : ∀ a0 k, LeO (impl_common.f k a0) (impl_common.f (k + 1) a0) := by
 intro a0 k
 obtain ⟨ih0, ih1⟩ := impl_common.mono_l k
 unfold impl_common.f
 repeat' first
   | (with_reducible exact ih0 _ _ _ _)
   | (with_reducible exact ih1 _ _ _ _ _)
   | (with_reducible exact LeO.refl _)
   | (with_reducible exact LeO.none _)
   | (with_reducible refine LeO.ite ?_ ?_)
   | (with_reducible refine LeO.bind ?_ (fun _ => ?_))
   | exact ih0 _ _ _ _
   | exact ih1 _ _ _ _ _
   | exact LeO.none _
   | refine LeO.ite ?_ ?_
   | refine LeO.bind ?_ (fun _ => ?_)
set_option maxHeartbeats 8000000 in
set_option maxRecDepth 100000 in
theorem impl_common.calls (k : Nat) (A0 : Option Addr) (c0 : Nat) (l0 : List Int) (r : Int) (w : World) (hr0 : Kd.C (Kd.int .i64) w A0 l0.length l0) (hc0 : l0.length ≤ c0) (h : impl_common.f k l0 = some r) :
  Calls Try.prog 83 #[.slice A0 l0.length c0] w fun e w' => e = .returned (.int .i64 r) ∧ Below w.heap.size w w' := by
 have HR0 := A_ hr0
 have HC0 := A_ hc0
 clear hr0 hc0
 have HB := A_ (Below.refl w.heap.size w)
 have H : (impl_common.l0 k 0 l0 (l0.length : Int) 0) = some r := h
 clear h
 have H' := A_ H
 clear H
 go_enter Try.func83, Try.ntmps83
 go_wp2
 repeat (go_quiet (fail); try go_wp2)
 go_loopg [3, 8] k (fun kq v3 v8 w' => ∃ (x3_1 : Int) (x8_1 : Int), v3 = .int .i64 x3_1 ∧ v8 = .int .i64 x8_1 ∧ Aside0 (impl_common.l0 kq x3_1 l0 (l0.length : Int) x8_1 = some r) ∧ Aside0 (kq ≤ k) ∧ Aside0 (Below w.heap.size w w'))
 case atStart => exact ⟨(0), (0), z4_9_, z4_9_, H', ⟨Nat.le_refl _⟩, ⟨z4_1_⟩⟩
 case round =>
  clear H'
  obtain ⟨x3_1, x8_1, rfl, rfl, HA, HK1, HB⟩ := hrel
  cases gk with
  | zero => exact absurd HA.out (by simp [impl_common.l0])
  | succ k1 =>
   have H := HA.out
   clear HA
   simp only [impl_common.l0] at H
   by_cases c2 : x8_1 < (l0.length : Int)
   ·
    rw [if_pos c2] at H
    have c2b0 := decide_eq_true c2
    clear c2
    by_cases c3 : 0 ≤ x8_1
    ·
     rw [if_pos c3] at H
     have c3b0 := decide_eq_true c3
     clear c3
     by_cases c4 : x8_1 < (l0.length : Int)
     ·
      rw [if_pos c4] at H
      have c4b0 := decide_eq_true c4
      clear c4
      obtain ⟨ji5, hji5⟩ : ∃ j_ : Int, (mx (rd l0 x8_1) (wrap64 (-(rd l0 x8_1)))) = j_ := ⟨_, rfl⟩
      replace H : (impl_common.l1 k1 x3_1 ji5 l0 (l0.length : Int) x8_1) = some r := by first | (rw [hji5] at H; exact H) | (simp only [hji5] at H ⊢; exact H)
      have hji5_ : (if (rd l0 x8_1) < (wrap64 (-(rd l0 x8_1))) then (wrap64 (-(rd l0 x8_1))) else (rd l0 x8_1)) = ji5 := hji5
      have H' := A_ H
      clear H
      have p227 : 0 ≤ (x8_1 : Int) := of_decide_eq_true (by assumption)
      have q227 : x8_1 < (l0.length : Int) := of_decide_eq_true (by assumption)
      obtain ⟨ad227, e227, hx227_0⟩ := Kd.at_int HR0.out x8_1 p227 q227
      cases e227
      replace hx227_0 := cel HB.out hx227_0
      replace p227 := eq_true p227
      replace q227 := eq_true q227
      go_wp2
      repeat (go_quiet (fail); try go_wp2)
      go_loopg [3, 5] k1 (fun kq v3 v5 w' => ∃ (x3_2 : Int) (x5_2 : Int), v3 = .int .i64 x3_2 ∧ v5 = .int .i64 x5_2 ∧ Aside0 (impl_common.l1 kq x3_2 x5_2 l0 (l0.length : Int) x8_1 = some r) ∧ Aside0 (kq ≤ k1) ∧ Aside0 (Below w.heap.size w w'))
      case atStart => exact ⟨(x3_1), (ji5), z4_9_, (by first | rfl | (simp; done) | (simp only [← hji5] <;> (first | rfl | simp)) | (simp [*]; done)), H', ⟨Nat.le_refl _⟩, ⟨z4_1_⟩⟩
      case round =>
       clear H'
       try clear c2
       try clear c2b0
       try clear p2
       try clear q2
       try clear hx2
       try clear c3
       try clear c3b0
       try clear c4
       try clear c4b0
       try clear hx227_0
       try clear p227
       try clear q227
       obtain ⟨x3_2, x5_2, rfl, rfl, HA, HK2, HB⟩ := hrel
       cases gk with
       | zero => exact absurd HA.out (by simp [impl_common.l1])
       | succ k2 =>
        have H := HA.out
        clear HA
        simp only [impl_common.l1] at H
        by_cases c6 : x5_2 = 0
        ·
         rw [if_pos c6] at H
         have c6b0 := beq_iff_eq.mpr c6
         have c6b1 := bne_eq_false_iff_eq.mpr c6
         clear c6
         have H' := A_ H
         clear H
         go_wp2
         repeat (go_quiet (fail); try go_wp2)
         go_roundg k2
         case measure => have := HK1.out; have := HK2.out; omega
         case rel => exact ⟨(x3_2), (wrap64 (x8_1 + 1)), z4_9_, z4_9_, H', ⟨(by have := HK1.out; have := HK2.out; omega)⟩, ⟨z4_1_⟩⟩
        ·
         rw [if_neg c6] at H
         have c6b0 : (x5_2 == 0) = false := beq_eq_false_iff_ne.mpr c6
         have c6b1 : (x5_2 != 0) = true := bne_iff_ne.mpr c6
         have H' := A_ H
         clear H
         go_wp2
         repeat (go_quiet (fail); try go_wp2)
         go_roundg k2
         case measure => have := HK1.out; have := HK2.out; omega
         case rel => exact ⟨(x5_2), (Int.tmod x3_2 x5_2), z4_9_, z4_9_, H', ⟨(by have := HK1.out; have := HK2.out; omega)⟩, ⟨z4_1_⟩⟩
     ·
      rw [if_neg c4] at H
      exact absurd H (by simp)
    ·
     rw [if_neg c3] at H
     exact absurd H (by simp)
   ·
    rw [if_neg c2] at H
    have c2b0 := decide_eq_false c2
    clear c2
    obtain rfl := Option.some.inj H
    go_wp2
    repeat (go_quiet (fail); try go_wp2)
    go_ret
    exact ⟨z4_16_, z4_1_⟩
end Go.Proofs.Ytififhihgkbafaa.PM

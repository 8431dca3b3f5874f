import Derived.Test.YtpfnohdnaocpdaaPTx0
import Derived.Test.YtpfnohdnaocpdaaPTx1
import Derived.Test.YtpfnohdnaocpdaaPTx2
namespace Go.Proofs.Ytpfnohdnaocpdaa.PT
open Go.RowKit Go.Proofs.YtpfnohdnaocpdaaW.PrintWords Go.Proofs.YtpfnohdnaocpdaaW.PrintLast Go.Proofs.YtpfnohdnaocpdaaW.PrintMore Go.Proofs.YtpfnohdnaocpdaaRP
attribute [local go_sem] max2_int min2_int max_two min_two max_three min_three max_four min_four Go.Proofs.YtpfnohdnaocpdaaRP.max_eight Go.Proofs.YtpfnohdnaocpdaaRP.tmod_len   -- for this text's walks alone
set_option linter.unusedVariables false
set_option linter.unusedSimpArgs false
theorem z3_1_ {P : Prop} (h : P := by repeat (first | (with_reducible first | exact HB.out | apply below_alloc | apply pw_below_drewN | apply below_drew1) | exact HB.out)) : P := h
theorem z3_2_ {P : Prop} (h : P := by first | rfl | (simp; done) | (simp [*]; done) | (simp [isE_]; done)) : P := h
theorem z3_3_ {P : Prop} (h : P := by (with_reducible repeat (first | apply Kd.R_alloc | apply Kd.R_drewN | apply Kd.R_drew)); exact HO_3.out) : P := h
theorem z3_4_ {P : Prop} (h : P := by (try simp only [List.map_toArray, List.map_cons, List.map_nil]); first | done | rfl | (simp only [List.length_drop, List.length_take]; rfl)) : P := h
theorem z3_5_ {P : Prop} (h : P := by repeat (first | (with_reducible first | exact HB.out | apply below_alloc | apply pw_below_drewN | apply below_drew1 | refine below_set ?_ GE230.out) | exact HB.out)) : P := h
theorem z3_6_ {P : Prop} (h : P := by first | rfl | (simp [errW_none, errW_some] <;> rfl) | (simp [*, errW_none, errW_some] <;> rfl)) : P := h
theorem z3_7_ {P : Prop} (h : P := by repeat (first | exact Drawn0.refl _ | apply Drawn0.step)) : P := h
theorem z3_8_ {P : Prop} (h : P := by (with_reducible repeat (first | apply Kd.R_alloc | apply Kd.R_drewN | apply Kd.R_drew)); exact HO_4.out) : P := h
theorem z3_9_ {P : Prop} (h : P := by repeat (first | (with_reducible first | exact HB.out | apply below_alloc | apply pw_below_drewN | apply below_drew1 | refine below_set ?_ GE271.out) | exact HB.out)) : P := h
theorem z3_10_ {P : Prop} (h : P := by (with_reducible repeat (first | refine blk_drewN ?_ _ | refine blk_drew ?_ | refine blk_alloc ?_ _)); exact BK230.out) : P := h
theorem z3_11_ {P : Prop} (h : P := by (with_reducible repeat (first | apply Kd.R_alloc | apply Kd.R_drewN | apply Kd.R_drew)); exact HO178.out) : P := h
theorem z3_12_ {P : Prop} (h : P := by repeat (first | (with_reducible first | exact HB.out | apply below_alloc | apply pw_below_drewN | apply below_drew1 | refine below_set ?_ GE230.out | refine below_set ?_ GE235.out) | exact HB.out)) : P := h
theorem z3_13_ {P : Prop} (h : P := by repeat (first | (with_reducible first | exact HB.out | apply below_alloc | apply pw_below_drewN | apply below_drew1 | refine below_set ?_ GE230.out | refine below_set ?_ GE232.out) | exact HB.out)) : P := h
theorem z3_14_ {P : Prop} (h : P := by have := HK1.out; have := HK2.out; have := HK3.out; omega) : P := h
theorem z3_15_ {P : Prop} (h : P := by (with_reducible repeat (first | refine blk_drewN ?_ _ | refine blk_drew ?_ | refine blk_alloc ?_ _)); exact BK271.out) : P := h
theorem z3_16_ {P : Prop} (h : P := by have := HK1.out; have := HK2.out; omega) : P := h
/-! ### spec_l06Productive: function 118 -/
mutual
def spec_l06Productive.l0 : Nat → List (S34) → List Int → List Bool → Int → Option (Bool)
 | 0, _, _, _, _ => none
 | k + 1, x0, x3, x4, x5 => if x5 < (x3.length : Int) then (spec_l06Productive.l1 k x0 x3 x4 x5 0) else (spec_l06Productive.l3 k x3 x4 0)
def spec_l06Productive.l1 : Nat → List (S34) → List Int → List Bool → Int → Int → Option (Bool)
 | 0, _, _, _, _, _ => none
 | k + 1, x0, x3, x4, x5, x6 => if x6 < (x3.length : Int) then (if 0 < (x0.length : Int) then (if 0 ≤ x6 then (if 0 ≤ (rd x3 x6) then (if (rd x3 x6) < (((rd_T34 x0 0).f0).length : Int) then (spec_l06Productive.l2 k x0 x3 x4 x5 x6 [rd_T89 ((rd_T34 x0 0).f0) (rd x3 x6)] true 0) else (none)) else (none)) else (none)) else (none)) else (spec_l06Productive.l0 k x0 x3 x4 (wrap64 (x5 + 1)))
def spec_l06Productive.l2 : Nat → List (S34) → List Int → List Bool → Int → Int → List (S89) → Bool → Int → Option (Bool)
 | 0, _, _, _, _, _, _, _, _ => none
 | k + 1, x0, x3, x4, x5, x6, x7, x8, x9 => if x9 < 3 then (if 0 < (x7.length : Int) then (if ((rd_T89 x7 0).f0) = 1 then (if x8 = true then (if 0 ≤ x9 then (if 0 ≤ (rd [(rd_T89 x7 0).f2.f0, (rd_T89 x7 0).f2.f1, (rd_T89 x7 0).f2.f2] x9) then (if (rd [(rd_T89 x7 0).f2.f0, (rd_T89 x7 0).f2.f1, (rd_T89 x7 0).f2.f2] x9) < (x4.length : Int) then (spec_l06Productive.l2 k x0 x3 x4 x5 x6 x7 (rdOf false x4 (rd [(rd_T89 x7 0).f2.f0, (rd_T89 x7 0).f2.f1, (rd_T89 x7 0).f2.f2] x9)) (wrap64 (x9 + 1))) else (none)) else (none)) else (none)) else (spec_l06Productive.l2 k x0 x3 x4 x5 x6 x7 false (wrap64 (x9 + 1)))) else (if 0 ≤ x6 then (if x6 < (x3.length : Int) then (if 0 ≤ (rd x3 x6) then (if (rd x3 x6) < (x4.length : Int) then (spec_l06Productive.l1 k x0 x3 (x4.set ((rd x3 x6) : Int).toNat x8) x5 (wrap64 (x6 + 1))) else (none)) else (none)) else (none)) else (none))) else (none)) else (if 0 ≤ x6 then (if x6 < (x3.length : Int) then (if 0 ≤ (rd x3 x6) then (if (rd x3 x6) < (x4.length : Int) then (spec_l06Productive.l1 k x0 x3 (x4.set ((rd x3 x6) : Int).toNat x8) x5 (wrap64 (x6 + 1))) else (none)) else (none)) else (none)) else (none))
def spec_l06Productive.l3 : Nat → List Int → List Bool → Int → Option (Bool)
 | 0, _, _, _ => none
 | k + 1, x3, x4, x10 => if x10 < (x3.length : Int) then (if 0 ≤ x10 then (if 0 ≤ (rd x3 x10) then (if (rd x3 x10) < (x4.length : Int) then (if (rdOf false x4 (rd x3 x10) = true) then (spec_l06Productive.l3 k x3 x4 (wrap64 (x10 + 1))) else (some false)) else (none)) else (none)) else (none)) else (some true)
end
def spec_l06Productive.f (k : Nat) (l0 : List (S34)) : Option (Bool) := (spec_l06Reached.f k l0).bind fun t176 => (if 0 < (l0.length : Int) then (if 0 ≤ (((rd_T34 l0 0).f0).length : Int) then (if ((((rd_T34 l0 0).f0).length : Int) : Int).toNat ≤ 281474976710656 then (spec_l06Productive.l0 k l0 t176 (List.replicate ((((rd_T34 l0 0).f0).length : Int) : Int).toNat false) 0) else (none)) else (none)) else (none))
theorem spec_l06Productive.mono_l : ∀ k, (∀ y0 y1 y2 y3, LeO (spec_l06Productive.l0 k y0 y1 y2 y3) (spec_l06Productive.l0 (k + 1) y0 y1 y2 y3)) ∧ (∀ y0 y1 y2 y3 y4, LeO (spec_l06Productive.l1 k y0 y1 y2 y3 y4) (spec_l06Productive.l1 (k + 1) y0 y1 y2 y3 y4)) ∧ (∀ y0 y1 y2 y3 y4 y5 y6 y7, LeO (spec_l06Productive.l2 k y0 y1 y2 y3 y4 y5 y6 y7) (spec_l06Productive.l2 (k + 1) y0 y1 y2 y3 y4 y5 y6 y7)) ∧ (∀ y0 y1 y2, LeO (spec_l06Productive.l3 k y0 y1 y2) (spec_l06Productive.l3 (k + 1) y0 y1 y2))
 | 0 => ⟨fun _ _ _ _ r h => by simp [spec_l06Productive.l0] at h, fun _ _ _ _ _ r h => by simp [spec_l06Productive.l1] at h, fun _ _ _ _ _ _ _ _ r h => by simp [spec_l06Productive.l2] at h, fun _ _ _ r h => by simp [spec_l06Productive.l3] at h⟩
 | k + 1 => by
  obtain ⟨ih0, ih1, ih2, ih3⟩ := spec_l06Productive.mono_l k
  refine ⟨?_, ?_, ?_, ?_⟩
  ·
   intro y0 y1 y2 y3
   unfold spec_l06Productive.l0
   repeat' first
   | (with_reducible exact ih0 _ _ _ _)
   | (with_reducible exact ih1 _ _ _ _ _)
   | (with_reducible exact ih2 _ _ _ _ _ _ _ _)
   | (with_reducible exact ih3 _ _ _)
   | (with_reducible exact spec_l06Reached.mono _ _)
   | (with_reducible exact LeO.refl _)
   | (with_reducible exact LeO.none _)
   | (with_reducible refine LeO.ite ?_ ?_)
   | (with_reducible refine LeO.bind ?_ (fun _ => ?_))
   | exact ih0 _ _ _ _
   | exact ih1 _ _ _ _ _
   | exact ih2 _ _ _ _ _ _ _ _
   | exact ih3 _ _ _
   | exact LeO.none _
   | refine LeO.ite ?_ ?_
   | refine LeO.bind ?_ (fun _ => ?_)
  ·
   intro y0 y1 y2 y3 y4
   unfold spec_l06Productive.l1
   repeat' first
   | (with_reducible exact ih0 _ _ _ _)
   | (with_reducible exact ih1 _ _ _ _ _)
   | (with_reducible exact ih2 _ _ _ _ _ _ _ _)
   | (with_reducible exact ih3 _ _ _)
   | (with_reducible exact spec_l06Reached.mono _ _)
   | (with_reducible exact LeO.refl _)
   | (with_reducible exact LeO.none _)
   | (with_reducible refine LeO.ite ?_ ?_)
   | (with_reducible refine LeO.bind ?_ (fun _ => ?_))
   | exact ih0 _ _ _ _
   | exact ih1 _ _ _ _ _
   | exact ih2 _ _ _ _ _ _ _ _
   | exact ih3 _ _ _
   | exact LeO.none _
   | refine LeO.ite ?_ ?_
   | refine LeO.bind ?_ (fun _ => ?_)
  ·
   intro y0 y1 y2 y3 y4 y5 y6 y7
   unfold spec_l06Productive.l2
   repeat' first
   | (with_reducible exact ih0 _ _ _ _)
   | (with_reducible exact ih1 _ _ _ _ _)
   | (with_reducible exact ih2 _ _ _ _ _ _ _ _)
   | (with_reducible exact ih3 _ _ _)
   | (with_reducible exact spec_l06Reached.mono _ _)
   | (with_reducible exact LeO.refl _)
   | (with_reducible exact LeO.none _)
   | (with_reducible refine LeO.ite ?_ ?_)
   | (with_reducible refine LeO.bind ?_ (fun _ => ?_))
   | exact ih0 _ _ _ _
   | exact ih1 _ _ _ _ _
   | exact ih2 _ _ _ _ _ _ _ _
   | exact ih3 _ _ _
   | exact LeO.none _
   | refine LeO.ite ?_ ?_
   | refine LeO.bind ?_ (fun _ => ?_)
  ·
   intro y0 y1 y2
   unfold spec_l06Productive.l3
   repeat' first
   | (with_reducible exact ih0 _ _ _ _)
   | (with_reducible exact ih1 _ _ _ _ _)
   | (with_reducible exact ih2 _ _ _ _ _ _ _ _)
   | (with_reducible exact ih3 _ _ _)
   | (with_reducible exact spec_l06Reached.mono _ _)
   | (with_reducible exact LeO.refl _)
   | (with_reducible exact LeO.none _)
   | (with_reducible refine LeO.ite ?_ ?_)
   | (with_reducible refine LeO.bind ?_ (fun _ => ?_))
   | exact ih0 _ _ _ _
   | exact ih1 _ _ _ _ _
   | exact ih2 _ _ _ _ _ _ _ _
   | exact ih3 _ _ _
   | exact LeO.none _
   | refine LeO.ite ?_ ?_
   | refine LeO.bind ?_ (fun _ => ?_)
theorem spec_l06Productive.mono : ∀ a0 k, LeO (spec_l06Productive.f k a0) (spec_l06Productive.f (k + 1) a0) := by
 intro a0 k
 obtain ⟨ih0, ih1, ih2, ih3⟩ := spec_l06Productive.mono_l k
 unfold spec_l06Productive.f
 repeat' first
   | (with_reducible exact ih0 _ _ _ _)
   | (with_reducible exact ih1 _ _ _ _ _)
   | (with_reducible exact ih2 _ _ _ _ _ _ _ _)
   | (with_reducible exact ih3 _ _ _)
   | (with_reducible exact spec_l06Reached.mono _ _)
   | (with_reducible exact LeO.refl _)
   | (with_reducible exact LeO.none _)
   | (with_reducible refine LeO.ite ?_ ?_)
   | (with_reducible refine LeO.bind ?_ (fun _ => ?_))
   | exact ih0 _ _ _ _
   | exact ih1 _ _ _ _ _
   | exact ih2 _ _ _ _ _ _ _ _
   | exact ih3 _ _ _
   | exact LeO.none _
   | refine LeO.ite ?_ ?_
   | refine LeO.bind ?_ (fun _ => ?_)
set_option maxHeartbeats 8000000 in
set_option maxRecDepth 100000 in
theorem spec_l06Productive.calls (k : Nat) (A0 : Option Addr) (c0 : Nat) (l0 : List (S34)) (r : Bool) (w : World) (hr0 : Kd.C k34 w A0 l0.length l0) (hc0 : l0.length ≤ c0) (h : spec_l06Productive.f k l0 = some r) :
  Calls Try.prog 118 #[.pointer A0] w fun e w' => e = .returned (.bool r) ∧ Below w.heap.size w w' := by
 have HR0 := A_ hr0
 have HC0 := A_ hc0
 clear hr0 hc0
 have HB := A_ (Below.refl w.heap.size w)
 have H : ((spec_l06Reached.f k l0).bind fun t176 => (if 0 < (l0.length : Int) then (if 0 ≤ (((rd_T34 l0 0).f0).length : Int) then (if ((((rd_T34 l0 0).f0).length : Int) : Int).toNat ≤ 281474976710656 then (spec_l06Productive.l0 k l0 t176 (List.replicate ((((rd_T34 l0 0).f0).length : Int) : Int).toNat false) 0) else (none)) else (none)) else (none))) = some r := h
 clear h
 replace H := Option.bind_eq_some_iff.mp H
 obtain ⟨t176, A20, H⟩ := H
 try dsimp only at H
 have A2 := A_ A20
 clear A20
 by_cases c3 : 0 < (l0.length : Int)
 ·
  rw [if_pos c3] at H
  have c3b0 := decide_eq_true c3
  have c3b1 : decide (0 < l0.length) = true := decide_eq_true (by omega)
  clear c3
  by_cases c4 : 0 ≤ (((rd_T34 l0 0).f0).length : Int)
  ·
   rw [if_pos c4] at H
   have c4b0 := eq_true c4
   have c4b1 := decide_eq_true c4
   clear c4
   by_cases c5 : ((((rd_T34 l0 0).f0).length : Int) : Int).toNat ≤ 281474976710656
   ·
    rw [if_pos c5] at H
    have c5b0 := eq_true c5
    have c5b1 := decide_eq_true c5
    clear c5
    obtain ⟨y180, hy180⟩ : ∃ y_ : List Bool, y_ = (List.replicate ((((rd_T34 l0 0).f0).length : Int) : Int).toNat false) := ⟨_, rfl⟩
    replace H : (spec_l06Productive.l0 k l0 t176 y180 0) = some r := by first | (rw [hy180]; with_reducible exact H) | (have H2_ := (Option.bind_some _ _).symm.trans H; rw [hy180]; with_reducible exact H2_) | (have H2_ := (Option.bind_some _ _).symm.trans H; with_reducible exact H2_) | with_reducible exact H | (rw [hy180]; exact H) | exact H
    have Ny180 := A_ hy180
    clear hy180
    have H' := A_ H
    clear H
    go_enter Try.func118, Try.ntmps118
    go_wp2_with (first | (go_at_call 95; (with_reducible refine (spec_l06Reached.calls k _ (l0).length l0 t176 _ ?side1 ?side2 A2.out).mono ?_); (case side1 => repeat (first | exact HR0.out | (with_reducible refine Kd.C_alloc ?_ _) | (with_reducible refine Kd.C_drewN ?_ _) | (with_reducible refine Kd.C_drew ?_))); (case side2 => exact Nat.le_refl _); rintro e w6 ⟨v177, rfl, ho0, hb⟩; have _ := A_ (Kd.R_lower ho0 (below_size z3_1_)); have _ := A_ (below_step z3_1_ hb); clear HB; rename_i HO178 HB; (try clear hb); (try clear ho0); have q179 : 0 < (l0.length : Int) := of_decide_eq_true (by assumption); obtain ⟨ad179, A179_0, c179_0, e179, hx179_0, hl179_0, hi179_0⟩ := rp_T34 HR0.out q179; cases e179; replace hx179_0 := cel HB.out hx179_0; have HR179_0 := A_ hi179_0; have HC179_0 := A_ hl179_0; clear hi179_0 hl179_0) | ((with_reducible refine gate_dst (N := 18) rfl ?_); refine Kd.R_make Kd.bool _ 4 rfl (N := 18) rfl 190 _ _ rfl (((rd_T34 l0 0).f0).length : Int) rfl rfl Try.underlying190 (.bool false) 1 info4 rfl (by decide) (by omega) false (ok := fun _ => True) (okp := fun _ => True) rfl (fun _ hk => hk) trivial (of_decide_eq_true (by assumption)) (Nat.le_trans (Nat.mul_le_mul_right _ (of_decide_eq_true (by assumption) : (((rd_T34 l0 0).f0).length : Int).toNat ≤ 281474976710656)) (by omega)) (Below.refl _ _) (Nat.le_refl _) ?_; intro v181 w7 ho8 hb hg_ hnew_; clear hg_ hnew_; (first | rw [← Ny180.out] at ho8 | (simp only [Int.reduceToNat] at ho8; rw [← Ny180.out] at ho8)); have _ := A_ (Kd.R_below z3_11_ hb); have _ := A_ (Kd.R_lower ho8 (below_size z3_1_)); have _ := A_ (below_step z3_1_ hb); clear HO178 HB; rename_i HO178 HO182 HB; clear hb ho8))
    repeat (go_quiet (first | (go_at_call 95; (with_reducible refine (spec_l06Reached.calls k _ (l0).length l0 t176 _ ?side1 ?side2 A2.out).mono ?_); (case side1 => repeat (first | exact HR0.out | (with_reducible refine Kd.C_alloc ?_ _) | (with_reducible refine Kd.C_drewN ?_ _) | (with_reducible refine Kd.C_drew ?_))); (case side2 => exact Nat.le_refl _); rintro e w6 ⟨v177, rfl, ho0, hb⟩; have _ := A_ (Kd.R_lower ho0 (below_size z3_1_)); have _ := A_ (below_step z3_1_ hb); clear HB; rename_i HO178 HB; (try clear hb); (try clear ho0); have q179 : 0 < (l0.length : Int) := of_decide_eq_true (by assumption); obtain ⟨ad179, A179_0, c179_0, e179, hx179_0, hl179_0, hi179_0⟩ := rp_T34 HR0.out q179; cases e179; replace hx179_0 := cel HB.out hx179_0; have HR179_0 := A_ hi179_0; have HC179_0 := A_ hl179_0; clear hi179_0 hl179_0) | ((with_reducible refine gate_dst (N := 18) rfl ?_); refine Kd.R_make Kd.bool _ 4 rfl (N := 18) rfl 190 _ _ rfl (((rd_T34 l0 0).f0).length : Int) rfl rfl Try.underlying190 (.bool false) 1 info4 rfl (by decide) (by omega) false (ok := fun _ => True) (okp := fun _ => True) rfl (fun _ hk => hk) trivial (of_decide_eq_true (by assumption)) (Nat.le_trans (Nat.mul_le_mul_right _ (of_decide_eq_true (by assumption) : (((rd_T34 l0 0).f0).length : Int).toNat ≤ 281474976710656)) (by omega)) (Below.refl _ _) (Nat.le_refl _) ?_; intro v181 w7 ho8 hb hg_ hnew_; clear hg_ hnew_; (first | rw [← Ny180.out] at ho8 | (simp only [Int.reduceToNat] at ho8; rw [← Ny180.out] at ho8)); have _ := A_ (Kd.R_below z3_11_ hb); have _ := A_ (Kd.R_lower ho8 (below_size z3_1_)); have _ := A_ (below_step z3_1_ hb); clear HO178 HB; rename_i HO178 HO182 HB; clear hb ho8)); try go_wp2_with (first | (go_at_call 95; (with_reducible refine (spec_l06Reached.calls k _ (l0).length l0 t176 _ ?side1 ?side2 A2.out).mono ?_); (case side1 => repeat (first | exact HR0.out | (with_reducible refine Kd.C_alloc ?_ _) | (with_reducible refine Kd.C_drewN ?_ _) | (with_reducible refine Kd.C_drew ?_))); (case side2 => exact Nat.le_refl _); rintro e w6 ⟨v177, rfl, ho0, hb⟩; have _ := A_ (Kd.R_lower ho0 (below_size z3_1_)); have _ := A_ (below_step z3_1_ hb); clear HB; rename_i HO178 HB; (try clear hb); (try clear ho0); have q179 : 0 < (l0.length : Int) := of_decide_eq_true (by assumption); obtain ⟨ad179, A179_0, c179_0, e179, hx179_0, hl179_0, hi179_0⟩ := rp_T34 HR0.out q179; cases e179; replace hx179_0 := cel HB.out hx179_0; have HR179_0 := A_ hi179_0; have HC179_0 := A_ hl179_0; clear hi179_0 hl179_0) | ((with_reducible refine gate_dst (N := 18) rfl ?_); refine Kd.R_make Kd.bool _ 4 rfl (N := 18) rfl 190 _ _ rfl (((rd_T34 l0 0).f0).length : Int) rfl rfl Try.underlying190 (.bool false) 1 info4 rfl (by decide) (by omega) false (ok := fun _ => True) (okp := fun _ => True) rfl (fun _ hk => hk) trivial (of_decide_eq_true (by assumption)) (Nat.le_trans (Nat.mul_le_mul_right _ (of_decide_eq_true (by assumption) : (((rd_T34 l0 0).f0).length : Int).toNat ≤ 281474976710656)) (by omega)) (Below.refl _ _) (Nat.le_refl _) ?_; intro v181 w7 ho8 hb hg_ hnew_; clear hg_ hnew_; (first | rw [← Ny180.out] at ho8 | (simp only [Int.reduceToNat] at ho8; rw [← Ny180.out] at ho8)); have _ := A_ (Kd.R_below z3_11_ hb); have _ := A_ (Kd.R_lower ho8 (below_size z3_1_)); have _ := A_ (below_step z3_1_ hb); clear HO178 HB; rename_i HO178 HO182 HB; clear hb ho8)))
    go_loopg [5] k (fun kq v5 w' => ∃ (x4_1 : List Bool) (x5_1 : Int), v5 = .int .i64 x5_1 ∧ Aside0 (spec_l06Productive.l0 kq l0 t176 x4_1 x5_1 = some r) ∧ Aside0 (kq ≤ k) ∧ Aside0 (Kd.R (Kd.int .i16) 85 w' w.heap.size (fun _ => True) v177 t176) ∧ Aside0 (Kd.R Kd.bool 4 w' w.heap.size (fun _ => True) v181 x4_1) ∧ Aside0 (Below w.heap.size w w'))
    case atStart => exact ⟨(y180), (0), z3_2_, H', ⟨Nat.le_refl _⟩, ⟨z3_11_⟩, ⟨(by (with_reducible repeat (first | apply Kd.R_alloc | apply Kd.R_drewN | apply Kd.R_drew)); exact HO182.out)⟩, ⟨z3_1_⟩⟩
    case round =>
     clear H'
     try clear c1
     try clear q1
     try clear hx1
     try clear p2
     try clear c3
     try clear c3b0
     try clear c3b1
     try clear c4
     try clear c4b0
     try clear c4b1
     try clear c5
     try clear c5b0
     try clear c5b1
     try clear hx179_0
     try clear q179
     obtain ⟨x4_1, x5_1, rfl, HA, HK1, HO_3, HO_4, HB⟩ := hrel
     cases gk with
     | zero => exact absurd HA.out (by simp [spec_l06Productive.l0])
     | succ k1 =>
      have H := HA.out
      clear HA
      simp only [spec_l06Productive.l0] at H
      (repeat (first | rw [rd1_T89] at H))
      by_cases c9 : x5_1 < (t176.length : Int)
      ·
       rw [if_pos c9] at H
       have c9b0 := decide_eq_true c9
       clear c9
       have H' := A_ H
       clear H
       obtain ⟨Ao10, co10, eo10⟩ := Kd.R_slice HO_3.out
       subst eo10
       go_wp2
       repeat (go_quiet (fail); try go_wp2)
       go_loopg [6] k1 (fun kq v6 w' => ∃ (x4_2 : List Bool) (x6_2 : Int), v6 = .int .i64 x6_2 ∧ Aside0 (spec_l06Productive.l1 kq l0 t176 x4_2 x5_1 x6_2 = some r) ∧ Aside0 (kq ≤ k1) ∧ Aside0 (Kd.R (Kd.int .i16) 85 w' w.heap.size (fun _ => True) (.slice Ao10 t176.length co10) t176) ∧ Aside0 (Kd.R Kd.bool 4 w' w.heap.size (fun _ => True) v181 x4_2) ∧ Aside0 (Below w.heap.size w w'))
       case atStart => exact ⟨(x4_1), (0), z3_2_, H', ⟨Nat.le_refl _⟩, ⟨z3_3_⟩, ⟨z3_8_⟩, ⟨z3_1_⟩⟩
       case round =>
        clear H'
        try clear c1
        try clear q1
        try clear hx1
        try clear p2
        try clear c3
        try clear c3b0
        try clear c3b1
        try clear c4
        try clear c4b0
        try clear c4b1
        try clear c5
        try clear c5b0
        try clear c5b1
        try clear c9
        try clear c9b0
        try clear hx179_0
        try clear p2
        try clear q1
        try clear q179
        obtain ⟨x4_2, x6_2, rfl, HA, HK2, HO_3, HO_4, HB⟩ := hrel
        cases gk with
        | zero => exact absurd HA.out (by simp [spec_l06Productive.l1])
        | succ k2 =>
         have H := HA.out
         clear HA
         simp only [spec_l06Productive.l1] at H
         (repeat (first | rw [rd1_T89] at H))
         by_cases c11 : x6_2 < (t176.length : Int)
         ·
          rw [if_pos c11] at H
          have c11b0 := decide_eq_true c11
          clear c11
          by_cases c12 : 0 < (l0.length : Int)
          ·
           rw [if_pos c12] at H
           have c12b0 := decide_eq_true c12
           have c12b1 : decide (0 < l0.length) = true := decide_eq_true (by omega)
           clear c12
           by_cases c13 : 0 ≤ x6_2
           ·
            rw [if_pos c13] at H
            have c13b0 := decide_eq_true c13
            clear c13
            by_cases c14 : 0 ≤ (rd t176 x6_2)
            ·
             rw [if_pos c14] at H
             have c14b0 := decide_eq_true c14
             clear c14
             by_cases c15 : (rd t176 x6_2) < (((rd_T34 l0 0).f0).length : Int)
             ·
              rw [if_pos c15] at H
              have c15b0 := decide_eq_true c15
              clear c15
              have H' := A_ H
              clear H
              have q183 : 0 < (l0.length : Int) := of_decide_eq_true (by assumption)
              obtain ⟨ad183, A183_0, c183_0, e183, hx183_0, hl183_0, hi183_0⟩ := rp_T34 HR0.out q183
              obtain rfl : ad179 = ad183 := (by injection e183)
              replace hx183_0 := cel HB.out hx183_0
              have HR183_0 := A_ hi183_0
              have HC183_0 := A_ hl183_0
              clear hi183_0 hl183_0
              have p184 : 0 ≤ (x6_2 : Int) := of_decide_eq_true (by assumption)
              have q184 : x6_2 < (t176.length : Int) := of_decide_eq_true (by assumption)
              obtain ⟨ad184, e184, hx184_0⟩ := Kd.at_int (Kd.R_reads' HO_3.out).2.2 x6_2 p184 q184
              cases e184
              replace p184 := eq_true p184
              replace q184 := eq_true q184
              have p185 : 0 ≤ ((rd t176 x6_2) : Int) := of_decide_eq_true (by assumption)
              have q185 : (rd t176 x6_2) < (((rd_T34 l0 0).f0).length : Int) := of_decide_eq_true (by assumption)
              obtain ⟨ad185, e185, hx185_0, hx185_1, hx185_2, hx185_3, hx185_4⟩ := at_T89 HR183_0.out (rd t176 x6_2) p185 q185
              cases e185
              replace hx185_0 := cel HB.out hx185_0
              replace hx185_1 := cel HB.out hx185_1
              replace hx185_2 := cel HB.out hx185_2
              replace hx185_3 := cel HB.out hx185_3
              replace hx185_4 := cel HB.out hx185_4
              replace p185 := eq_true p185
              replace q185 := eq_true q185
              have HR186 := A_ (show Kd.C k89 w (some (Addr.add ad185 ((rd t176 x6_2).toNat * 5))) [rd_T89 ((rd_T34 l0 0).f0) (rd t176 x6_2)].length [rd_T89 ((rd_T34 l0 0).f0) (rd t176 x6_2)] from Kd.C_el k89 z89 HR183_0.out ((rd t176 x6_2) : Int) (of_eq_true p185) (of_eq_true q185))
              go_wp2
              repeat (go_quiet (fail); try go_wp2)
              go_loopg [8, 9] k2 (fun kq v8 v9 w' => ∃ (x8_3 : Bool) (x9_3 : Int), v8 = .bool x8_3 ∧ v9 = .int .i64 x9_3 ∧ Aside0 (spec_l06Productive.l2 kq l0 t176 x4_2 x5_1 x6_2 [rd_T89 ((rd_T34 l0 0).f0) (rd t176 x6_2)] x8_3 x9_3 = some r) ∧ Aside0 (kq ≤ k2) ∧ Aside0 (Kd.R (Kd.int .i16) 85 w' w.heap.size (fun _ => True) (.slice (some ad184) t176.length co10) t176) ∧ Aside0 (Kd.R Kd.bool 4 w' w.heap.size (fun _ => True) v181 x4_2) ∧ Aside0 (Below w.heap.size w w'))
              case atStart => exact ⟨(true), (0), z3_2_, z3_2_, H', ⟨Nat.le_refl _⟩, ⟨z3_3_⟩, ⟨z3_8_⟩, ⟨z3_1_⟩⟩
              case round =>
               clear H'
               try clear c1
               try clear p1
               try clear q1
               try clear hx1
               try clear p2
               try clear c3
               try clear c3b0
               try clear c3b1
               try clear c4
               try clear c4b0
               try clear c4b1
               try clear c5
               try clear c5b0
               try clear c5b1
               try clear c9
               try clear c9b0
               try clear c11
               try clear c11b0
               try clear c12
               try clear c12b0
               try clear c12b1
               try clear c13
               try clear c13b0
               try clear c14
               try clear c14b0
               try clear c15
               try clear c15b0
               try clear hx179_0
               try clear hx183_0
               try clear hx184_0
               try clear hx185_0
               try clear hx185_1
               try clear hx185_2
               try clear hx185_3
               try clear hx185_4
               try clear p184
               try clear p185
               try clear p2
               try clear q1
               try clear q179
               try clear q183
               try clear q184
               try clear q185
               obtain ⟨x8_3, x9_3, rfl, rfl, HA, HK3, HO_3, HO_4, HB⟩ := hrel
               cases gk with
               | zero => exact absurd HA.out (by simp [spec_l06Productive.l2])
               | succ k3 =>
                have H := HA.out
                clear HA
                simp only [spec_l06Productive.l2] at H
                (repeat (first | rw [rd1_T89] at H))
                by_cases c16 : x9_3 < 3
                ·
                 rw [if_pos c16] at H
                 have c16b0 := decide_eq_true c16
                 clear c16
                 by_cases c17 : 0 < ([rd_T89 ((rd_T34 l0 0).f0) (rd t176 x6_2)].length : Int)
                 ·
                  rw [if_pos c17] at H
                  have c17b0 := decide_eq_true c17
                  have c17b1 : decide (0 < [rd_T89 ((rd_T34 l0 0).f0) (rd t176 x6_2)].length) = true := decide_eq_true (by omega)
                  clear c17
                  by_cases c18 : ((rd_T89 ((rd_T34 l0 0).f0) (rd t176 x6_2)).f0) = 1
                  ·
                   rw [if_pos c18] at H
                   have c18b0 := beq_iff_eq.mpr c18
                   have c18b1 := bne_eq_false_iff_eq.mpr c18
                   clear c18
                   by_cases c19 : x8_3 = true
                   ·
                    subst c19
                    have H1 := H; rw [if_pos rfl] at H1
                    clear H
                    have H := H1
                    clear H1
                    by_cases c20 : 0 ≤ x9_3
                    ·
                     rw [if_pos c20] at H
                     have c20b0 := decide_eq_true c20
                     clear c20
                     by_cases c21 : 0 ≤ (rd [(rd_T89 ((rd_T34 l0 0).f0) (rd t176 x6_2)).f2.f0, (rd_T89 ((rd_T34 l0 0).f0) (rd t176 x6_2)).f2.f1, (rd_T89 ((rd_T34 l0 0).f0) (rd t176 x6_2)).f2.f2] x9_3)
                     ·
                      rw [if_pos c21] at H
                      have c21b0 := decide_eq_true c21
                      clear c21
                      by_cases c22 : (rd [(rd_T89 ((rd_T34 l0 0).f0) (rd t176 x6_2)).f2.f0, (rd_T89 ((rd_T34 l0 0).f0) (rd t176 x6_2)).f2.f1, (rd_T89 ((rd_T34 l0 0).f0) (rd t176 x6_2)).f2.f2] x9_3) < (x4_2.length : Int)
                      ·
                       rw [if_pos c22] at H
                       have c22b0 := decide_eq_true c22
                       clear c22
                       have H' := A_ H
                       clear H
                       have q187 : 0 < ([rd_T89 ((rd_T34 l0 0).f0) (rd t176 x6_2)].length : Int) := of_decide_eq_true (by assumption)
                       obtain ⟨ad187, e187, hx187_0, hx187_1, hx187_2, hx187_3, hx187_4⟩ := rp_T89 HR186.out q187
                       (try simp only [rd1_T89] at hx187_0 hx187_1 hx187_2 hx187_3 hx187_4)
                       obtain rfl : (Addr.add ad185 ((rd t176 x6_2).toNat * 5)) = ad187 := (by injection e187)
                       replace hx187_0 := cel HB.out hx187_0
                       replace hx187_1 := cel HB.out hx187_1
                       replace hx187_2 := cel HB.out hx187_2
                       replace hx187_3 := cel HB.out hx187_3
                       replace hx187_4 := cel HB.out hx187_4
                       have p188 : 0 ≤ (x9_3 : Int) := of_decide_eq_true (by assumption)
                       have q188 : (x9_3 : Int) < 3 := of_decide_eq_true (by assumption)
                       have hx188_0 := cell_arr3 hx187_2 hx187_3 hx187_4 x9_3 p188 q188
                       (try simp only [Nat.zero_add, Nat.add_zero] at hx188_0)
                       replace p188 := eq_true p188
                       replace q188 := eq_true q188
                       obtain ⟨Ao23, co23, eo23⟩ := Kd.R_slice HO_4.out
                       subst eo23
                       have p189 : 0 ≤ ((rd [(rd_T89 ((rd_T34 l0 0).f0) (rd t176 x6_2)).f2.f0, (rd_T89 ((rd_T34 l0 0).f0) (rd t176 x6_2)).f2.f1, (rd_T89 ((rd_T34 l0 0).f0) (rd t176 x6_2)).f2.f2] x9_3) : Int) := of_decide_eq_true (by assumption)
                       have q189 : (rd [(rd_T89 ((rd_T34 l0 0).f0) (rd t176 x6_2)).f2.f0, (rd_T89 ((rd_T34 l0 0).f0) (rd t176 x6_2)).f2.f1, (rd_T89 ((rd_T34 l0 0).f0) (rd t176 x6_2)).f2.f2] x9_3) < (x4_2.length : Int) := of_decide_eq_true (by assumption)
                       obtain ⟨ad189, e189, hx189_0⟩ := Kd.at_bool (Kd.R_reads' HO_4.out).2.2 (rd [(rd_T89 ((rd_T34 l0 0).f0) (rd t176 x6_2)).f2.f0, (rd_T89 ((rd_T34 l0 0).f0) (rd t176 x6_2)).f2.f1, (rd_T89 ((rd_T34 l0 0).f0) (rd t176 x6_2)).f2.f2] x9_3) p189 q189
                       cases e189
                       replace p189 := eq_true p189
                       replace q189 := eq_true q189
                       go_wp2
                       repeat (go_quiet (fail); try go_wp2)
                       go_roundg k3
                       case measure => have := HK1.out; have := HK2.out; have := HK3.out; omega
                       case rel => exact ⟨(rdOf false x4_2 (rd [(rd_T89 ((rd_T34 l0 0).f0) (rd t176 x6_2)).f2.f0, (rd_T89 ((rd_T34 l0 0).f0) (rd t176 x6_2)).f2.f1, (rd_T89 ((rd_T34 l0 0).f0) (rd t176 x6_2)).f2.f2] x9_3)), (wrap64 (x9_3 + 1)), z3_2_, z3_2_, H', ⟨z3_14_⟩, ⟨z3_3_⟩, ⟨z3_8_⟩, ⟨z3_1_⟩⟩
                      ·
                       rw [if_neg c22] at H
                       exact absurd H (by simp)
                     ·
                      rw [if_neg c21] at H
                      exact absurd H (by simp)
                    ·
                     rw [if_neg c20] at H
                     exact absurd H (by simp)
                   ·
                    replace c19 := Bool.eq_false_iff.mpr c19
                    subst c19
                    have H1 := H; rw [if_neg (show ¬ (false = true) by decide)] at H1
                    clear H
                    have H := H1
                    clear H1
                    have H' := A_ H
                    clear H
                    have q187 : 0 < ([rd_T89 ((rd_T34 l0 0).f0) (rd t176 x6_2)].length : Int) := of_decide_eq_true (by assumption)
                    obtain ⟨ad187, e187, hx187_0, hx187_1, hx187_2, hx187_3, hx187_4⟩ := rp_T89 HR186.out q187
                    (try simp only [rd1_T89] at hx187_0 hx187_1 hx187_2 hx187_3 hx187_4)
                    obtain rfl : (Addr.add ad185 ((rd t176 x6_2).toNat * 5)) = ad187 := (by injection e187)
                    replace hx187_0 := cel HB.out hx187_0
                    replace hx187_1 := cel HB.out hx187_1
                    replace hx187_2 := cel HB.out hx187_2
                    replace hx187_3 := cel HB.out hx187_3
                    replace hx187_4 := cel HB.out hx187_4
                    go_wp2
                    repeat (go_quiet (fail); try go_wp2)
                    go_roundg k3
                    case measure => have := HK1.out; have := HK2.out; have := HK3.out; omega
                    case rel => exact ⟨(false), (wrap64 (x9_3 + 1)), z3_2_, z3_2_, H', ⟨z3_14_⟩, ⟨z3_3_⟩, ⟨z3_8_⟩, ⟨z3_1_⟩⟩
                  ·
                   rw [if_neg c18] at H
                   have c18b0 : (((rd_T89 ((rd_T34 l0 0).f0) (rd t176 x6_2)).f0) == 1) = false := beq_eq_false_iff_ne.mpr c18
                   have c18b1 : (((rd_T89 ((rd_T34 l0 0).f0) (rd t176 x6_2)).f0) != 1) = true := bne_iff_ne.mpr c18
                   by_cases c24 : 0 ≤ x6_2
                   ·
                    rw [if_pos c24] at H
                    have c24b0 := decide_eq_true c24
                    clear c24
                    by_cases c25 : x6_2 < (t176.length : Int)
                    ·
                     rw [if_pos c25] at H
                     have c25b0 := decide_eq_true c25
                     clear c25
                     by_cases c26 : 0 ≤ (rd t176 x6_2)
                     ·
                      rw [if_pos c26] at H
                      have c26b0 := decide_eq_true c26
                      clear c26
                      by_cases c27 : (rd t176 x6_2) < (x4_2.length : Int)
                      ·
                       rw [if_pos c27] at H
                       have c27b0 := decide_eq_true c27
                       clear c27
                       obtain ⟨y191, hy191⟩ : ∃ y_ : List Bool, y_ = (x4_2.set ((rd t176 x6_2) : Int).toNat x8_3) := ⟨_, rfl⟩
                       replace H : (spec_l06Productive.l1 k3 l0 t176 y191 x5_1 (wrap64 (x6_2 + 1))) = some r := by first | (rw [hy191]; with_reducible exact H) | (have H2_ := (Option.bind_some _ _).symm.trans H; rw [hy191]; with_reducible exact H2_) | (have H2_ := (Option.bind_some _ _).symm.trans H; with_reducible exact H2_) | with_reducible exact H | (rw [hy191]; exact H) | exact H
                       have Ny191 := A_ hy191
                       clear hy191
                       have H' := A_ H
                       clear H
                       have q187 : 0 < ([rd_T89 ((rd_T34 l0 0).f0) (rd t176 x6_2)].length : Int) := of_decide_eq_true (by assumption)
                       obtain ⟨ad187, e187, hx187_0, hx187_1, hx187_2, hx187_3, hx187_4⟩ := rp_T89 HR186.out q187
                       (try simp only [rd1_T89] at hx187_0 hx187_1 hx187_2 hx187_3 hx187_4)
                       obtain rfl : (Addr.add ad185 ((rd t176 x6_2).toNat * 5)) = ad187 := (by injection e187)
                       replace hx187_0 := cel HB.out hx187_0
                       replace hx187_1 := cel HB.out hx187_1
                       replace hx187_2 := cel HB.out hx187_2
                       replace hx187_3 := cel HB.out hx187_3
                       replace hx187_4 := cel HB.out hx187_4
                       have p190 : 0 ≤ (x6_2 : Int) := of_decide_eq_true (by assumption)
                       have q190 : x6_2 < (t176.length : Int) := of_decide_eq_true (by assumption)
                       obtain ⟨ad190, e190, hx190_0⟩ := Kd.at_int (Kd.R_reads' HO_3.out).2.2 x6_2 p190 q190
                       obtain rfl : ad184 = ad190 := (by injection e190)
                       replace p190 := eq_true p190
                       replace q190 := eq_true q190
                       have p28 : 0 ≤ ((rd t176 x6_2) : Int) := of_decide_eq_true (by assumption)
                       have q28 : ((rd t176 x6_2) : Int) < ((x4_2.length : Int) : Int) := of_decide_eq_true (by assumption)
                       obtain ⟨go28, co28, eo28, gb28, gl28, cl28, HG28⟩ := Kd.R_form HO_4.out (by omega)
                       (first | cases eo28 | (injection eo28 with ea_ en_ ec_; (first | subst ea_ | (injection ea_ with ea_; subst ea_)); subst ec_; clear en_))
                       have GB28 := A_ gb28
                       have GG28 := A_ HG28
                       clear gb28 gl28 HG28
                       obtain ⟨hx28_0, hf28_0⟩ := Kd.R_celln false HO_4.out ((rd t176 x6_2) : Int) p28 q28
                       replace p28 := eq_true p28
                       replace q28 := eq_true q28
                       have HP29 := Kd.R_putg HO_4.out ((rd t176 x6_2) : Int) x8_3
                       go_wp2_with (first | ((with_reducible refine gate_store (t := 4) (p := 69) rfl ?_); (try (rw [drewN_self wr]; generalize hq_ : World.drewN wr _ = wr; have _ := A_ (Kd.R_at hq_ HO_3.out); have _ := A_ (Kd.R_at hq_ HO_4.out); have _ := A_ (below_at hq_ HB.out); clear hq_ HO_3 HO_4 HB; rename_i HO_3 HO_4 HB; (try (have HP29 := Kd.R_putg HO_4.out ((rd t176 x6_2) : Int) x8_3)))); refine store_event (t := 4) (p := 69) (v := ?vo_w30) (w1 := (wr.setCell ⟨go28, ((rd t176 x6_2) : Int).toNat, none⟩ (.bool x8_3))) ?hg ?ho ?hn ?hr ?_; (case ho => rfl); (case hg => rfl); (case hn => rfl); (case hr => first | (go_simp; done) | (go_simp; rfl)); intro w30 hw; have hg : wr.grownBy w30 (some go28) := (by rw [hw]; exact HP29.2); have hp_ : Kd.R Kd.bool 4 w30 w.heap.size (fun _ => True) (.slice (some ⟨go28, 0, none⟩) x4_2.length co28) y191 := (by rw [hw, Ny191.out]; exact HP29.1); clear HP29; have _ := A_ (Kd.R_over' (v := (.slice (some ⟨go28, 0, none⟩) x4_2.length co28)) z3_3_ (Kd.R_typed HO_4.out) (by decide) hg); have _ := A_ (hp_); have _ := A_ ((by rw [hw]; exact below_set (HB.out) GB28.out : Below w.heap.size w w30)); clear HO_3 HO_4 HB; rename_i HO_3 HO_4 HB; clear hg hw hp_))
                       repeat (go_quiet (first | ((with_reducible refine gate_store (t := 4) (p := 69) rfl ?_); (try (rw [drewN_self wr]; generalize hq_ : World.drewN wr _ = wr; have _ := A_ (Kd.R_at hq_ HO_3.out); have _ := A_ (Kd.R_at hq_ HO_4.out); have _ := A_ (below_at hq_ HB.out); clear hq_ HO_3 HO_4 HB; rename_i HO_3 HO_4 HB; (try (have HP29 := Kd.R_putg HO_4.out ((rd t176 x6_2) : Int) x8_3)))); refine store_event (t := 4) (p := 69) (v := ?vo_w30) (w1 := (wr.setCell ⟨go28, ((rd t176 x6_2) : Int).toNat, none⟩ (.bool x8_3))) ?hg ?ho ?hn ?hr ?_; (case ho => rfl); (case hg => rfl); (case hn => rfl); (case hr => first | (go_simp; done) | (go_simp; rfl)); intro w30 hw; have hg : wr.grownBy w30 (some go28) := (by rw [hw]; exact HP29.2); have hp_ : Kd.R Kd.bool 4 w30 w.heap.size (fun _ => True) (.slice (some ⟨go28, 0, none⟩) x4_2.length co28) y191 := (by rw [hw, Ny191.out]; exact HP29.1); clear HP29; have _ := A_ (Kd.R_over' (v := (.slice (some ⟨go28, 0, none⟩) x4_2.length co28)) z3_3_ (Kd.R_typed HO_4.out) (by decide) hg); have _ := A_ (hp_); have _ := A_ ((by rw [hw]; exact below_set (HB.out) GB28.out : Below w.heap.size w w30)); clear HO_3 HO_4 HB; rename_i HO_3 HO_4 HB; clear hg hw hp_)); try go_wp2_with (first | ((with_reducible refine gate_store (t := 4) (p := 69) rfl ?_); (try (rw [drewN_self wr]; generalize hq_ : World.drewN wr _ = wr; have _ := A_ (Kd.R_at hq_ HO_3.out); have _ := A_ (Kd.R_at hq_ HO_4.out); have _ := A_ (below_at hq_ HB.out); clear hq_ HO_3 HO_4 HB; rename_i HO_3 HO_4 HB; (try (have HP29 := Kd.R_putg HO_4.out ((rd t176 x6_2) : Int) x8_3)))); refine store_event (t := 4) (p := 69) (v := ?vo_w30) (w1 := (wr.setCell ⟨go28, ((rd t176 x6_2) : Int).toNat, none⟩ (.bool x8_3))) ?hg ?ho ?hn ?hr ?_; (case ho => rfl); (case hg => rfl); (case hn => rfl); (case hr => first | (go_simp; done) | (go_simp; rfl)); intro w30 hw; have hg : wr.grownBy w30 (some go28) := (by rw [hw]; exact HP29.2); have hp_ : Kd.R Kd.bool 4 w30 w.heap.size (fun _ => True) (.slice (some ⟨go28, 0, none⟩) x4_2.length co28) y191 := (by rw [hw, Ny191.out]; exact HP29.1); clear HP29; have _ := A_ (Kd.R_over' (v := (.slice (some ⟨go28, 0, none⟩) x4_2.length co28)) z3_3_ (Kd.R_typed HO_4.out) (by decide) hg); have _ := A_ (hp_); have _ := A_ ((by rw [hw]; exact below_set (HB.out) GB28.out : Below w.heap.size w w30)); clear HO_3 HO_4 HB; rename_i HO_3 HO_4 HB; clear hg hw hp_)))
                       go_roundg k3
                       case measure => have := HK1.out; have := HK2.out; have := HK3.out; omega
                       case rel => exact ⟨(y191), (wrap64 (x6_2 + 1)), z3_2_, H', ⟨z3_14_⟩, ⟨z3_3_⟩, ⟨z3_8_⟩, ⟨z3_1_⟩⟩
                      ·
                       rw [if_neg c27] at H
                       exact absurd H (by simp)
                     ·
                      rw [if_neg c26] at H
                      exact absurd H (by simp)
                    ·
                     rw [if_neg c25] at H
                     exact absurd H (by simp)
                   ·
                    rw [if_neg c24] at H
                    exact absurd H (by simp)
                 ·
                  rw [if_neg c17] at H
                  exact absurd H (by simp)
                ·
                 rw [if_neg c16] at H
                 have c16b0 := decide_eq_false c16
                 clear c16
                 by_cases c31 : 0 ≤ x6_2
                 ·
                  rw [if_pos c31] at H
                  have c31b0 := decide_eq_true c31
                  clear c31
                  by_cases c32 : x6_2 < (t176.length : Int)
                  ·
                   rw [if_pos c32] at H
                   have c32b0 := decide_eq_true c32
                   clear c32
                   by_cases c33 : 0 ≤ (rd t176 x6_2)
                   ·
                    rw [if_pos c33] at H
                    have c33b0 := decide_eq_true c33
                    clear c33
                    by_cases c34 : (rd t176 x6_2) < (x4_2.length : Int)
                    ·
                     rw [if_pos c34] at H
                     have c34b0 := decide_eq_true c34
                     clear c34
                     obtain ⟨y193, hy193⟩ : ∃ y_ : List Bool, y_ = (x4_2.set ((rd t176 x6_2) : Int).toNat x8_3) := ⟨_, rfl⟩
                     replace H : (spec_l06Productive.l1 k3 l0 t176 y193 x5_1 (wrap64 (x6_2 + 1))) = some r := by first | (rw [hy193]; with_reducible exact H) | (have H2_ := (Option.bind_some _ _).symm.trans H; rw [hy193]; with_reducible exact H2_) | (have H2_ := (Option.bind_some _ _).symm.trans H; with_reducible exact H2_) | with_reducible exact H | (rw [hy193]; exact H) | exact H
                     have Ny193 := A_ hy193
                     clear hy193
                     have H' := A_ H
                     clear H
                     have p192 : 0 ≤ (x6_2 : Int) := of_decide_eq_true (by assumption)
                     have q192 : x6_2 < (t176.length : Int) := of_decide_eq_true (by assumption)
                     obtain ⟨ad192, e192, hx192_0⟩ := Kd.at_int (Kd.R_reads' HO_3.out).2.2 x6_2 p192 q192
                     obtain rfl : ad184 = ad192 := (by injection e192)
                     replace p192 := eq_true p192
                     replace q192 := eq_true q192
                     have p35 : 0 ≤ ((rd t176 x6_2) : Int) := of_decide_eq_true (by assumption)
                     have q35 : ((rd t176 x6_2) : Int) < ((x4_2.length : Int) : Int) := of_decide_eq_true (by assumption)
                     obtain ⟨go35, co35, eo35, gb35, gl35, cl35, HG35⟩ := Kd.R_form HO_4.out (by omega)
                     (first | cases eo35 | (injection eo35 with ea_ en_ ec_; (first | subst ea_ | (injection ea_ with ea_; subst ea_)); subst ec_; clear en_))
                     have GB35 := A_ gb35
                     have GG35 := A_ HG35
                     clear gb35 gl35 HG35
                     obtain ⟨hx35_0, hf35_0⟩ := Kd.R_celln false HO_4.out ((rd t176 x6_2) : Int) p35 q35
                     replace p35 := eq_true p35
                     replace q35 := eq_true q35
                     have HP36 := Kd.R_putg HO_4.out ((rd t176 x6_2) : Int) x8_3
                     go_wp2_with (first | ((with_reducible refine gate_store (t := 4) (p := 69) rfl ?_); (try (rw [drewN_self wr]; generalize hq_ : World.drewN wr _ = wr; have _ := A_ (Kd.R_at hq_ HO_3.out); have _ := A_ (Kd.R_at hq_ HO_4.out); have _ := A_ (below_at hq_ HB.out); clear hq_ HO_3 HO_4 HB; rename_i HO_3 HO_4 HB; (try (have HP36 := Kd.R_putg HO_4.out ((rd t176 x6_2) : Int) x8_3)))); refine store_event (t := 4) (p := 69) (v := ?vo_w37) (w1 := (wr.setCell ⟨go35, ((rd t176 x6_2) : Int).toNat, none⟩ (.bool x8_3))) ?hg ?ho ?hn ?hr ?_; (case ho => rfl); (case hg => rfl); (case hn => rfl); (case hr => first | (go_simp; done) | (go_simp; rfl)); intro w37 hw; have hg : wr.grownBy w37 (some go35) := (by rw [hw]; exact HP36.2); have hp_ : Kd.R Kd.bool 4 w37 w.heap.size (fun _ => True) (.slice (some ⟨go35, 0, none⟩) x4_2.length co35) y193 := (by rw [hw, Ny193.out]; exact HP36.1); clear HP36; have _ := A_ (Kd.R_over' (v := (.slice (some ⟨go35, 0, none⟩) x4_2.length co35)) z3_3_ (Kd.R_typed HO_4.out) (by decide) hg); have _ := A_ (hp_); have _ := A_ ((by rw [hw]; exact below_set (HB.out) GB35.out : Below w.heap.size w w37)); clear HO_3 HO_4 HB; rename_i HO_3 HO_4 HB; clear hg hw hp_))
                     repeat (go_quiet (first | ((with_reducible refine gate_store (t := 4) (p := 69) rfl ?_); (try (rw [drewN_self wr]; generalize hq_ : World.drewN wr _ = wr; have _ := A_ (Kd.R_at hq_ HO_3.out); have _ := A_ (Kd.R_at hq_ HO_4.out); have _ := A_ (below_at hq_ HB.out); clear hq_ HO_3 HO_4 HB; rename_i HO_3 HO_4 HB; (try (have HP36 := Kd.R_putg HO_4.out ((rd t176 x6_2) : Int) x8_3)))); refine store_event (t := 4) (p := 69) (v := ?vo_w37) (w1 := (wr.setCell ⟨go35, ((rd t176 x6_2) : Int).toNat, none⟩ (.bool x8_3))) ?hg ?ho ?hn ?hr ?_; (case ho => rfl); (case hg => rfl); (case hn => rfl); (case hr => first | (go_simp; done) | (go_simp; rfl)); intro w37 hw; have hg : wr.grownBy w37 (some go35) := (by rw [hw]; exact HP36.2); have hp_ : Kd.R Kd.bool 4 w37 w.heap.size (fun _ => True) (.slice (some ⟨go35, 0, none⟩) x4_2.length co35) y193 := (by rw [hw, Ny193.out]; exact HP36.1); clear HP36; have _ := A_ (Kd.R_over' (v := (.slice (some ⟨go35, 0, none⟩) x4_2.length co35)) z3_3_ (Kd.R_typed HO_4.out) (by decide) hg); have _ := A_ (hp_); have _ := A_ ((by rw [hw]; exact below_set (HB.out) GB35.out : Below w.heap.size w w37)); clear HO_3 HO_4 HB; rename_i HO_3 HO_4 HB; clear hg hw hp_)); try go_wp2_with (first | ((with_reducible refine gate_store (t := 4) (p := 69) rfl ?_); (try (rw [drewN_self wr]; generalize hq_ : World.drewN wr _ = wr; have _ := A_ (Kd.R_at hq_ HO_3.out); have _ := A_ (Kd.R_at hq_ HO_4.out); have _ := A_ (below_at hq_ HB.out); clear hq_ HO_3 HO_4 HB; rename_i HO_3 HO_4 HB; (try (have HP36 := Kd.R_putg HO_4.out ((rd t176 x6_2) : Int) x8_3)))); refine store_event (t := 4) (p := 69) (v := ?vo_w37) (w1 := (wr.setCell ⟨go35, ((rd t176 x6_2) : Int).toNat, none⟩ (.bool x8_3))) ?hg ?ho ?hn ?hr ?_; (case ho => rfl); (case hg => rfl); (case hn => rfl); (case hr => first | (go_simp; done) | (go_simp; rfl)); intro w37 hw; have hg : wr.grownBy w37 (some go35) := (by rw [hw]; exact HP36.2); have hp_ : Kd.R Kd.bool 4 w37 w.heap.size (fun _ => True) (.slice (some ⟨go35, 0, none⟩) x4_2.length co35) y193 := (by rw [hw, Ny193.out]; exact HP36.1); clear HP36; have _ := A_ (Kd.R_over' (v := (.slice (some ⟨go35, 0, none⟩) x4_2.length co35)) z3_3_ (Kd.R_typed HO_4.out) (by decide) hg); have _ := A_ (hp_); have _ := A_ ((by rw [hw]; exact below_set (HB.out) GB35.out : Below w.heap.size w w37)); clear HO_3 HO_4 HB; rename_i HO_3 HO_4 HB; clear hg hw hp_)))
                     go_roundg k3
                     case measure => have := HK1.out; have := HK2.out; have := HK3.out; omega
                     case rel => exact ⟨(y193), (wrap64 (x6_2 + 1)), z3_2_, H', ⟨z3_14_⟩, ⟨z3_3_⟩, ⟨z3_8_⟩, ⟨z3_1_⟩⟩
                    ·
                     rw [if_neg c34] at H
                     exact absurd H (by simp)
                   ·
                    rw [if_neg c33] at H
                    exact absurd H (by simp)
                  ·
                   rw [if_neg c32] at H
                   exact absurd H (by simp)
                 ·
                  rw [if_neg c31] at H
                  exact absurd H (by simp)
             ·
              rw [if_neg c15] at H
              exact absurd H (by simp)
            ·
             rw [if_neg c14] at H
             exact absurd H (by simp)
           ·
            rw [if_neg c13] at H
            exact absurd H (by simp)
          ·
           rw [if_neg c12] at H
           exact absurd H (by simp)
         ·
          rw [if_neg c11] at H
          have c11b0 := decide_eq_false c11
          clear c11
          have H' := A_ H
          clear H
          go_wp2
          repeat (go_quiet (fail); try go_wp2)
          go_roundg k2
          case measure => have := HK1.out; have := HK2.out; omega
          case rel => exact ⟨(x4_2), (wrap64 (x5_1 + 1)), z3_2_, H', ⟨z3_16_⟩, ⟨z3_3_⟩, ⟨z3_8_⟩, ⟨z3_1_⟩⟩
      ·
       rw [if_neg c9] at H
       have c9b0 := decide_eq_false c9
       clear c9
       have H' := A_ H
       clear H
       obtain ⟨Ao38, co38, eo38⟩ := Kd.R_slice HO_3.out
       subst eo38
       go_wp2
       repeat (go_quiet (fail); try go_wp2)
       go_loopg [10] k1 (fun kq v10 w' => ∃ (x10_2 : Int), v10 = .int .i64 x10_2 ∧ Aside0 (spec_l06Productive.l3 kq t176 x4_1 x10_2 = some r) ∧ Aside0 (kq ≤ k1) ∧ Aside0 (Kd.R (Kd.int .i16) 85 w' w.heap.size (fun _ => True) (.slice Ao38 t176.length co38) t176) ∧ Aside0 (Kd.R Kd.bool 4 w' w.heap.size (fun _ => True) v181 x4_1) ∧ Aside0 (Below w.heap.size w w'))
       case atStart => exact ⟨(0), z3_2_, H', ⟨Nat.le_refl _⟩, ⟨z3_3_⟩, ⟨z3_8_⟩, ⟨z3_1_⟩⟩
       case round =>
        clear H'
        try clear c1
        try clear p1
        try clear q1
        try clear hx1
        try clear c2
        try clear p2
        try clear q2
        try clear hx2
        try clear hf2
        try clear c3
        try clear c3b0
        try clear c3b1
        try clear p3
        try clear q3
        try clear hx3
        try clear hf3
        try clear c4
        try clear c4b0
        try clear c4b1
        try clear c5
        try clear c5b0
        try clear c5b1
        try clear p6
        try clear c9
        try clear c9b0
        try clear c11
        try clear c11b0
        try clear c12
        try clear c12b0
        try clear c12b1
        try clear c13
        try clear c13b0
        try clear c14
        try clear c14b0
        try clear c15
        try clear c15b0
        try clear c16
        try clear c16b0
        try clear c17
        try clear c17b0
        try clear c17b1
        try clear q17
        try clear hx17
        try clear c18
        try clear c18b0
        try clear c18b1
        try clear p18
        try clear q18
        try clear hx18
        try clear c19
        try clear p19
        try clear q19
        try clear hx19
        try clear c20
        try clear c20b0
        try clear c21
        try clear c21b0
        try clear c22
        try clear c22b0
        try clear c24
        try clear c24b0
        try clear c25
        try clear c25b0
        try clear c26
        try clear c26b0
        try clear c27
        try clear c27b0
        try clear p28
        try clear q28
        try clear hx28
        try clear hf28
        try clear c31
        try clear c31b0
        try clear c32
        try clear c32b0
        try clear c33
        try clear c33b0
        try clear c34
        try clear c34b0
        try clear p35
        try clear q35
        try clear hx35
        try clear hf35
        try clear hx179_0
        try clear hx183_0
        try clear hx184_0
        try clear hx185_0
        try clear hx185_1
        try clear hx185_2
        try clear hx185_3
        try clear hx185_4
        try clear hx187_0
        try clear hx187_1
        try clear hx187_2
        try clear hx187_3
        try clear hx187_4
        try clear hx188_0
        try clear hx189_0
        try clear hx190_0
        try clear hx192_0
        try clear hx28_0
        try clear hx35_0
        try clear p1
        try clear p184
        try clear p185
        try clear p188
        try clear p189
        try clear p190
        try clear p192
        try clear p2
        try clear p28
        try clear p35
        try clear q1
        try clear q179
        try clear q183
        try clear q184
        try clear q185
        try clear q187
        try clear q188
        try clear q189
        try clear q190
        try clear q192
        try clear q28
        try clear q35
        obtain ⟨x10_2, rfl, HA, HK2, HO_3, HO_4, HB⟩ := hrel
        cases gk with
        | zero => exact absurd HA.out (by simp [spec_l06Productive.l3])
        | succ k2 =>
         have H := HA.out
         clear HA
         simp only [spec_l06Productive.l3] at H
         (repeat (first | rw [rd1_T89] at H))
         by_cases c39 : x10_2 < (t176.length : Int)
         ·
          rw [if_pos c39] at H
          have c39b0 := decide_eq_true c39
          clear c39
          by_cases c40 : 0 ≤ x10_2
          ·
           rw [if_pos c40] at H
           have c40b0 := decide_eq_true c40
           clear c40
           by_cases c41 : 0 ≤ (rd t176 x10_2)
           ·
            rw [if_pos c41] at H
            have c41b0 := decide_eq_true c41
            clear c41
            by_cases c42 : (rd t176 x10_2) < (x4_1.length : Int)
            ·
             rw [if_pos c42] at H
             have c42b0 := decide_eq_true c42
             clear c42
             obtain ⟨bq43, hbq43⟩ : ∃ b_ : Bool, b_ = (rdOf false x4_1 (rd t176 x10_2)) := ⟨_, rfl⟩
             replace H : (if (bq43 = true) then (spec_l06Productive.l3 k2 t176 x4_1 (wrap64 (x10_2 + 1))) else (some false)) = some r := by rw [← hbq43] at H; exact H
             have Nbq43 := A_ hbq43
             clear hbq43
             by_cases c44 : (bq43 = true)
             ·
              subst c44
              have H1 := H; rw [if_pos rfl] at H1
              clear H
              have H := H1
              clear H1
              have H' := A_ H
              clear H
              have p194 : 0 ≤ (x10_2 : Int) := of_decide_eq_true (by assumption)
              have q194 : x10_2 < (t176.length : Int) := of_decide_eq_true (by assumption)
              obtain ⟨ad194, e194, hx194_0⟩ := Kd.at_int (Kd.R_reads' HO_3.out).2.2 x10_2 p194 q194
              cases e194
              replace p194 := eq_true p194
              replace q194 := eq_true q194
              obtain ⟨Ao45, co45, eo45⟩ := Kd.R_slice HO_4.out
              subst eo45
              have p195 : 0 ≤ ((rd t176 x10_2) : Int) := of_decide_eq_true (by assumption)
              have q195 : (rd t176 x10_2) < (x4_1.length : Int) := of_decide_eq_true (by assumption)
              obtain ⟨ad195, e195, hx195_0⟩ := Kd.at_bool (Kd.R_reads' HO_4.out).2.2 (rd t176 x10_2) p195 q195
              (try rw [← Nbq43.out] at hx195_0)
              cases e195
              replace p195 := eq_true p195
              replace q195 := eq_true q195
              go_wp2
              repeat (go_quiet (fail); try go_wp2)
              go_roundg k2
              case measure => have := HK1.out; have := HK2.out; omega
              case rel => exact ⟨(wrap64 (x10_2 + 1)), z3_2_, H', ⟨z3_16_⟩, ⟨z3_3_⟩, ⟨z3_8_⟩, ⟨z3_1_⟩⟩
             ·
              replace c44 := Bool.eq_false_iff.mpr c44
              subst c44
              have H1 := H; rw [if_neg (show ¬ (false = true) by decide)] at H1
              clear H
              have H := H1
              clear H1
              obtain rfl := Option.some.inj H
              have p194 : 0 ≤ (x10_2 : Int) := of_decide_eq_true (by assumption)
              have q194 : x10_2 < (t176.length : Int) := of_decide_eq_true (by assumption)
              obtain ⟨ad194, e194, hx194_0⟩ := Kd.at_int (Kd.R_reads' HO_3.out).2.2 x10_2 p194 q194
              cases e194
              replace p194 := eq_true p194
              replace q194 := eq_true q194
              obtain ⟨Ao46, co46, eo46⟩ := Kd.R_slice HO_4.out
              subst eo46
              have p195 : 0 ≤ ((rd t176 x10_2) : Int) := of_decide_eq_true (by assumption)
              have q195 : (rd t176 x10_2) < (x4_1.length : Int) := of_decide_eq_true (by assumption)
              obtain ⟨ad195, e195, hx195_0⟩ := Kd.at_bool (Kd.R_reads' HO_4.out).2.2 (rd t176 x10_2) p195 q195
              (try rw [← Nbq43.out] at hx195_0)
              cases e195
              replace p195 := eq_true p195
              replace q195 := eq_true q195
              go_wp2
              repeat (go_quiet (fail); try go_wp2)
              go_ret
              exact ⟨z3_6_, z3_1_⟩
            ·
             rw [if_neg c42] at H
             exact absurd H (by simp)
           ·
            rw [if_neg c41] at H
            exact absurd H (by simp)
          ·
           rw [if_neg c40] at H
           exact absurd H (by simp)
         ·
          rw [if_neg c39] at H
          have c39b0 := decide_eq_false c39
          clear c39
          obtain rfl := Option.some.inj H
          go_wp2
          repeat (go_quiet (fail); try go_wp2)
          go_ret
          exact ⟨z3_6_, z3_1_⟩
   ·
    rw [if_neg c5] at H
    exact absurd H (by simp)
  ·
   rw [if_neg c4] at H
   exact absurd H (by simp)
 ·
  rw [if_neg c3] at H
  exact absurd H (by simp)
/-! ### spec_l03Whole: function 105 -/
def spec_l03Whole.l0 : Nat → List Int → Int → Int → Option (Int)
 | 0, _, _, _ => none
 | k + 1, x0, x3, x4 => if x4 < (x0.length : Int) then (if 0 ≤ x4 then (spec_l03Whole.l0 k x0 (wrap64 ((wrap64 (2 * x3)) + (wrap64 (rd x0 x4)))) (wrap64 (x4 + 1))) else (none)) else (some x3)
def spec_l03Whole.f (k : Nat) (l0 : List Int) : Option (Int) := spec_l03Whole.l0 k l0 0 0
theorem spec_l03Whole.mono_l : ∀ k, (∀ y0 y1 y2, LeO (spec_l03Whole.l0 k y0 y1 y2) (spec_l03Whole.l0 (k + 1) y0 y1 y2))
 | 0 => fun _ _ _ r h => by simp [spec_l03Whole.l0] at h
 | k + 1 => by
  have ih0 := spec_l03Whole.mono_l k
  ·
   intro y0 y1 y2
   unfold spec_l03Whole.l0
   repeat' first
   | (with_reducible exact ih0 _ _ _)
   | (with_reducible exact LeO.refl _)
   | (with_reducible exact LeO.none _)
   | (with_reducible refine LeO.ite ?_ ?_)
   | (with_reducible refine LeO.bind ?_ (fun _ => ?_))
   | exact ih0 _ _ _
   | exact LeO.none _
   | refine LeO.ite ?_ ?_
   | refine LeO.bind ?_ (fun _ => ?_)
theorem spec_l03Whole.mono : ∀ a0 k, LeO (spec_l03Whole.f k a0) (spec_l03Whole.f (k + 1) a0) := by
 intro a0 k
 have ih0 := spec_l03Whole.mono_l k
 unfold spec_l03Whole.f
 repeat' first
   | (with_reducible exact ih0 _ _ _)
   | (with_reducible exact LeO.refl _)
   | (with_reducible exact LeO.none _)
   | (with_reducible refine LeO.ite ?_ ?_)
   | (with_reducible refine LeO.bind ?_ (fun _ => ?_))
   | exact ih0 _ _ _
   | exact LeO.none _
   | refine LeO.ite ?_ ?_
   | refine LeO.bind ?_ (fun _ => ?_)
set_option maxHeartbeats 8000000 in
set_option maxRecDepth 100000 in
theorem spec_l03Whole.calls (k : Nat) (A0 : Option Addr) (c0 : Nat) (l0 : List Int) (r : Int) (w : World) (hr0 : Kd.C (Kd.int .i8) w A0 l0.length l0) (hc0 : l0.length ≤ c0) (h : spec_l03Whole.f k l0 = some r) :
  Calls Try.prog 105 #[.slice A0 l0.length c0] w fun e w' => e = .returned (.int .i64 r) ∧ Drawn0 w w' := by
 have HR0 := A_ hr0
 have HC0 := A_ hc0
 clear hr0 hc0
 have H : (spec_l03Whole.l0 k l0 0 0) = some r := h
 clear h
 have H' := A_ H
 clear H
 go_enter Try.func105, Try.ntmps105
 go_wp2
 go_loopg [3, 4] k (fun kq v3 v4 w' => ∃ (x3_1 : Int) (x4_1 : Int), v3 = .int .i64 x3_1 ∧ v4 = .int .i64 x4_1 ∧ Aside0 (spec_l03Whole.l0 kq l0 x3_1 x4_1 = some r) ∧ Aside0 (kq ≤ k) ∧ Drawn0 w w')
 case atStart => exact ⟨(0), (0), z3_2_, z3_2_, H', ⟨Nat.le_refl _⟩, z3_7_⟩
 case round =>
  clear H'
  try clear c1
  obtain ⟨x3_1, x4_1, rfl, rfl, HA, HK1, ⟨m1, rfl⟩⟩ := hrel
  cases gk with
  | zero => exact absurd HA.out (by simp [spec_l03Whole.l0])
  | succ k1 =>
   have H := HA.out
   clear HA
   simp only [spec_l03Whole.l0] at H
   by_cases c2 : x4_1 < (l0.length : Int)
   ·
    rw [if_pos c2] at H
    have c2b0 := decide_eq_true c2
    clear c2
    by_cases c3 : 0 ≤ x4_1
    ·
     rw [if_pos c3] at H
     have c3b0 := decide_eq_true c3
     clear c3
     have H' := A_ H
     clear H
     have p223 : 0 ≤ (x4_1 : Int) := of_decide_eq_true (by assumption)
     have q223 : x4_1 < (l0.length : Int) := of_decide_eq_true (by assumption)
     obtain ⟨ad223, e223, hx223_0⟩ := Kd.at_int HR0.out x4_1 p223 q223
     cases e223
     replace p223 := eq_true p223
     replace q223 := eq_true q223
     go_wp2
     go_roundg k1
     case measure => have := HK1.out; omega
     case rel => exact ⟨(wrap64 ((wrap64 (2 * x3_1)) + (wrap64 (rd l0 x4_1)))), (wrap64 (x4_1 + 1)), z3_2_, z3_2_, H', ⟨(by have := HK1.out; omega)⟩, z3_7_⟩
    ·
     rw [if_neg c3] at H
     exact absurd H (by simp)
   ·
    rw [if_neg c2] at H
    have c2b0 := decide_eq_false c2
    clear c2
    obtain rfl := Option.some.inj H
    go_wp2
    go_ret
    exact ⟨z3_2_, z3_7_⟩
/-! ### spec_l03Size: function 153 -/
def spec_l03Size.f (a0 : Int) : Option (Int) := if a0 < 0 then (some (wrap64 (-a0))) else (some a0)
set_option maxHeartbeats 8000000 in
set_option maxRecDepth 100000 in
theorem spec_l03Size.calls (a0 : Int) (r : Int) (w : World) (h : spec_l03Size.f a0 = some r) :
  Calls Try.prog 153 #[.int .i64 a0] w fun e w' => e = .returned (.int .i64 r) ∧ Drawn0 w w' := by
 have H : (if a0 < 0 then (some (wrap64 (-a0))) else (some a0)) = some r := h
 clear h
 by_cases c2 : a0 < 0
 ·
  rw [if_pos c2] at H
  have c2b0 := decide_eq_true c2
  clear c2
  obtain rfl := Option.some.inj H
  go_enter Try.func153, Try.ntmps153
  go_wp2
  go_ret
  exact ⟨z3_2_, z3_7_⟩
 ·
  rw [if_neg c2] at H
  have c2b0 := decide_eq_false c2
  clear c2
  obtain rfl := Option.some.inj H
  go_enter Try.func153, Try.ntmps153
  go_wp2
  go_ret
  exact ⟨z3_2_, z3_7_⟩
/-! ### spec_l03Common: function 143 -/
def spec_l03Common.l0 : Nat → Int → Int → Option (Int)
 | 0, _, _ => none
 | k + 1, x0, x1 => if x1 = 0 then (some x0) else (spec_l03Common.l0 k x1 (Int.tmod x0 x1))
def spec_l03Common.f (k : Nat) (a0 : Int) (a1 : Int) : Option (Int) := (spec_l03Size.f a0).bind fun t224 => ((spec_l03Size.f a1).bind fun t225 => (spec_l03Common.l0 k t224 t225))
theorem spec_l03Common.mono_l : ∀ k, (∀ y0 y1, LeO (spec_l03Common.l0 k y0 y1) (spec_l03Common.l0 (k + 1) y0 y1))
 | 0 => fun _ _ r h => by simp [spec_l03Common.l0] at h
 | k + 1 => by
  have ih0 := spec_l03Common.mono_l k
  ·
   intro y0 y1
   unfold spec_l03Common.l0
   repeat' first
   | (with_reducible exact ih0 _ _)
   | (with_reducible exact LeO.refl _)
   | (with_reducible exact LeO.none _)
   | (with_reducible refine LeO.ite ?_ ?_)
   | (with_reducible refine LeO.bind ?_ (fun _ => ?_))
   | exact ih0 _ _
   | exact LeO.none _
   | refine LeO.ite ?_ ?_
   | refine LeO.bind ?_ (fun _ => ?_)
theorem spec_l03Common.mono : ∀ a0 a1 k, LeO (spec_l03Common.f k a0 a1) (spec_l03Common.f (k + 1) a0 a1) := by
 intro a0 a1 k
 have ih0 := spec_l03Common.mono_l k
 unfold spec_l03Common.f
 repeat' first
   | (with_reducible exact ih0 _ _)
   | (with_reducible exact LeO.refl _)
   | (with_reducible exact LeO.none _)
   | (with_reducible refine LeO.ite ?_ ?_)
   | (with_reducible refine LeO.bind ?_ (fun _ => ?_))
   | exact ih0 _ _
   | exact LeO.none _
   | refine LeO.ite ?_ ?_
   | refine LeO.bind ?_ (fun _ => ?_)
set_option maxHeartbeats 8000000 in
set_option maxRecDepth 100000 in
theorem spec_l03Common.calls (k : Nat) (a0 : Int) (a1 : Int) (r : Int) (w : World) (h : spec_l03Common.f k a0 a1 = some r) :
  Calls Try.prog 143 #[.int .i64 a0, .int .i64 a1] w fun e w' => e = .returned (.int .i64 r) ∧ Drawn0 w w' := by
 have H : ((spec_l03Size.f a0).bind fun t224 => ((spec_l03Size.f a1).bind fun t225 => (spec_l03Common.l0 k t224 t225))) = some r := h
 clear h
 replace H := Option.bind_eq_some_iff.mp H
 obtain ⟨t224, A30, H⟩ := H
 try dsimp only at H
 have A3 := A_ A30
 clear A30
 replace H := Option.bind_eq_some_iff.mp H
 obtain ⟨t225, A40, H⟩ := H
 try dsimp only at H
 have A4 := A_ A40
 clear A40
 have H' := A_ H
 clear H
 go_enter Try.func143, Try.ntmps143
 go_wp2_with (first | ((with_reducible refine gate_callee (f := 153) rfl ?_); refine goesL_ (some 7) rfl rfl Try.func153 (by kernel_rfl) rfl #[.int .i64 a0] rfl z3_4_ ?_; (with_reducible refine (spec_l03Size.calls a0 t224 _ A3.out).mono ?_); rintro e w' ⟨rfl, ⟨nd, rfl⟩⟩; refine ⟨_, rfl, ?_⟩) | ((with_reducible refine gate_callee (f := 153) rfl ?_); refine goesL_ (some 9) rfl rfl Try.func153 (by kernel_rfl) rfl #[.int .i64 a1] rfl z3_4_ ?_; (with_reducible refine (spec_l03Size.calls a1 t225 _ A4.out).mono ?_); rintro e w' ⟨rfl, ⟨nd, rfl⟩⟩; refine ⟨_, rfl, ?_⟩))
 go_loopg [0, 1] k (fun kq v0 v1 w' => ∃ (x0_1 : Int) (x1_1 : Int), v0 = .int .i64 x0_1 ∧ v1 = .int .i64 x1_1 ∧ Aside0 (spec_l03Common.l0 kq x0_1 x1_1 = some r) ∧ Aside0 (kq ≤ k) ∧ Drawn0 w w')
 case atStart => exact ⟨(t224), (t225), z3_2_, z3_2_, H', ⟨Nat.le_refl _⟩, z3_7_⟩
 case round =>
  clear H'
  try clear c1
  try clear p2
  obtain ⟨x0_1, x1_1, rfl, rfl, HA, HK1, ⟨m1, rfl⟩⟩ := hrel
  cases gk with
  | zero => exact absurd HA.out (by simp [spec_l03Common.l0])
  | succ k1 =>
   have H := HA.out
   clear HA
   simp only [spec_l03Common.l0] at H
   by_cases c5 : x1_1 = 0
   ·
    rw [if_pos c5] at H
    have c5b0 := beq_iff_eq.mpr c5
    have c5b1 := bne_eq_false_iff_eq.mpr c5
    clear c5
    obtain rfl := Option.some.inj H
    go_wp2
    go_ret
    exact ⟨z3_2_, z3_7_⟩
   ·
    rw [if_neg c5] at H
    have c5b0 : (x1_1 == 0) = false := beq_eq_false_iff_ne.mpr c5
    have c5b1 : (x1_1 != 0) = true := bne_iff_ne.mpr c5
    have H' := A_ H
    clear H
    go_wp2
    go_roundg k1
    case measure => have := HK1.out; omega
    case rel => exact ⟨(x1_1), (Int.tmod x0_1 x1_1), z3_2_, z3_2_, H', ⟨(by have := HK1.out; omega)⟩, z3_7_⟩
/-! ### spec_l03Ratio: function 144 -/
def spec_l03Ratio.f (k : Nat) (l0 : List (S71)) : Option (Bool) := if 0 < (l0.length : Int) then ((spec_l00In.f ((rd_T71 l0 0).f1) 1 2147483648).bind fun t227 => (if t227 = true then ((spec_l00In.f ((rd_T71 l0 0).f0) (-2147483648) 2147483648).bind fun t228 => (if t228 = true then ((spec_l03Common.f k ((rd_T71 l0 0).f0) ((rd_T71 l0 0).f1)).bind fun t229 => (some (t229 == 1))) else (some false))) else (some false))) else (none)
theorem spec_l03Ratio.mono : ∀ a0 k, LeO (spec_l03Ratio.f k a0) (spec_l03Ratio.f (k + 1) a0) := by
 intro a0 k
 unfold spec_l03Ratio.f
 repeat' first
   | (with_reducible exact spec_l03Common.mono _ _ _)
   | (with_reducible exact LeO.refl _)
   | (with_reducible exact LeO.none _)
   | (with_reducible refine LeO.ite ?_ ?_)
   | (with_reducible refine LeO.bind ?_ (fun _ => ?_))
   | exact LeO.none _
   | refine LeO.ite ?_ ?_
   | refine LeO.bind ?_ (fun _ => ?_)
set_option maxHeartbeats 8000000 in
set_option maxRecDepth 100000 in
theorem spec_l03Ratio.calls (k : Nat) (A0 : Option Addr) (c0 : Nat) (l0 : List (S71)) (r : Bool) (w : World) (hr0 : Kd.C k71 w A0 l0.length l0) (hc0 : l0.length ≤ c0) (h : spec_l03Ratio.f k l0 = some r) :
  Calls Try.prog 144 #[.pointer A0] w fun e w' => e = .returned (.bool r) ∧ Drawn0 w w' := by
 have HR0 := A_ hr0
 have HC0 := A_ hc0
 clear hr0 hc0
 have H : (if 0 < (l0.length : Int) then ((spec_l00In.f ((rd_T71 l0 0).f1) 1 2147483648).bind fun t227 => (if t227 = true then ((spec_l00In.f ((rd_T71 l0 0).f0) (-2147483648) 2147483648).bind fun t228 => (if t228 = true then ((spec_l03Common.f k ((rd_T71 l0 0).f0) ((rd_T71 l0 0).f1)).bind fun t229 => (some (t229 == 1))) else (some false))) else (some false))) else (none)) = some r := h
 clear h
 by_cases c2 : 0 < (l0.length : Int)
 ·
  rw [if_pos c2] at H
  have c2b0 := decide_eq_true c2
  have c2b1 : decide (0 < l0.length) = true := decide_eq_true (by omega)
  clear c2
  replace H := Option.bind_eq_some_iff.mp H
  obtain ⟨t227, A30, H⟩ := H
  try dsimp only at H
  have A3 := A_ A30
  clear A30
  by_cases c4 : t227 = true
  ·
   subst c4
   have H1 := H; rw [if_pos rfl] at H1
   clear H
   have H := H1
   clear H1
   replace H := Option.bind_eq_some_iff.mp H
   obtain ⟨t228, A50, H⟩ := H
   try dsimp only at H
   have A5 := A_ A50
   clear A50
   by_cases c6 : t228 = true
   ·
    subst c6
    have H1 := H; rw [if_pos rfl] at H1
    clear H
    have H := H1
    clear H1
    replace H := Option.bind_eq_some_iff.mp H
    obtain ⟨t229, A70, H⟩ := H
    try dsimp only at H
    have A7 := A_ A70
    clear A70
    obtain rfl := Option.some.inj H
    have q226 : 0 < (l0.length : Int) := of_decide_eq_true (by assumption)
    obtain ⟨ad226, e226, hx226_0, hx226_1⟩ := rp_T71 HR0.out q226
    cases e226
    go_enter Try.func144, Try.ntmps144
    go_wp2_with (first | (go_at_call 109; (with_reducible refine (spec_l00In.calls ((rd_T71 l0 0).f1) 1 2147483648 true _ A3.out).mono ?_); rintro e w' ⟨rfl, ⟨nd, rfl⟩⟩; (try first | exact ⟨rfl, _, World.drewN_drewN _ _ _⟩ | exact ⟨rfl, _, Eq.trans (World.drewN_drewN _ _ _) (congrArg (World.drewN _) (Nat.add_assoc _ _ _))⟩)) | (go_at_call 109; (with_reducible refine (spec_l00In.calls ((rd_T71 l0 0).f0) (-2147483648) 2147483648 true _ A5.out).mono ?_); rintro e w' ⟨rfl, ⟨nd, rfl⟩⟩; (try first | exact ⟨rfl, _, World.drewN_drewN _ _ _⟩ | exact ⟨rfl, _, Eq.trans (World.drewN_drewN _ _ _) (congrArg (World.drewN _) (Nat.add_assoc _ _ _))⟩)) | (go_at_call 143; (with_reducible refine (spec_l03Common.calls k ((rd_T71 l0 0).f0) ((rd_T71 l0 0).f1) t229 _ A7.out).mono ?_); rintro e w' ⟨rfl, ⟨nd, rfl⟩⟩; (try first | exact ⟨rfl, _, World.drewN_drewN _ _ _⟩ | exact ⟨rfl, _, Eq.trans (World.drewN_drewN _ _ _) (congrArg (World.drewN _) (Nat.add_assoc _ _ _))⟩)))
    repeat (go_quiet (first | (go_at_call 109; (with_reducible refine (spec_l00In.calls ((rd_T71 l0 0).f1) 1 2147483648 true _ A3.out).mono ?_); rintro e w' ⟨rfl, ⟨nd, rfl⟩⟩; (try first | exact ⟨rfl, _, World.drewN_drewN _ _ _⟩ | exact ⟨rfl, _, Eq.trans (World.drewN_drewN _ _ _) (congrArg (World.drewN _) (Nat.add_assoc _ _ _))⟩)) | (go_at_call 109; (with_reducible refine (spec_l00In.calls ((rd_T71 l0 0).f0) (-2147483648) 2147483648 true _ A5.out).mono ?_); rintro e w' ⟨rfl, ⟨nd, rfl⟩⟩; (try first | exact ⟨rfl, _, World.drewN_drewN _ _ _⟩ | exact ⟨rfl, _, Eq.trans (World.drewN_drewN _ _ _) (congrArg (World.drewN _) (Nat.add_assoc _ _ _))⟩)) | (go_at_call 143; (with_reducible refine (spec_l03Common.calls k ((rd_T71 l0 0).f0) ((rd_T71 l0 0).f1) t229 _ A7.out).mono ?_); rintro e w' ⟨rfl, ⟨nd, rfl⟩⟩; (try first | exact ⟨rfl, _, World.drewN_drewN _ _ _⟩ | exact ⟨rfl, _, Eq.trans (World.drewN_drewN _ _ _) (congrArg (World.drewN _) (Nat.add_assoc _ _ _))⟩))); try go_wp2_with (first | (go_at_call 109; (with_reducible refine (spec_l00In.calls ((rd_T71 l0 0).f1) 1 2147483648 true _ A3.out).mono ?_); rintro e w' ⟨rfl, ⟨nd, rfl⟩⟩; (try first | exact ⟨rfl, _, World.drewN_drewN _ _ _⟩ | exact ⟨rfl, _, Eq.trans (World.drewN_drewN _ _ _) (congrArg (World.drewN _) (Nat.add_assoc _ _ _))⟩)) | (go_at_call 109; (with_reducible refine (spec_l00In.calls ((rd_T71 l0 0).f0) (-2147483648) 2147483648 true _ A5.out).mono ?_); rintro e w' ⟨rfl, ⟨nd, rfl⟩⟩; (try first | exact ⟨rfl, _, World.drewN_drewN _ _ _⟩ | exact ⟨rfl, _, Eq.trans (World.drewN_drewN _ _ _) (congrArg (World.drewN _) (Nat.add_assoc _ _ _))⟩)) | (go_at_call 143; (with_reducible refine (spec_l03Common.calls k ((rd_T71 l0 0).f0) ((rd_T71 l0 0).f1) t229 _ A7.out).mono ?_); rintro e w' ⟨rfl, ⟨nd, rfl⟩⟩; (try first | exact ⟨rfl, _, World.drewN_drewN _ _ _⟩ | exact ⟨rfl, _, Eq.trans (World.drewN_drewN _ _ _) (congrArg (World.drewN _) (Nat.add_assoc _ _ _))⟩))))
    go_ret
    exact ⟨z3_2_, z3_7_⟩
   ·
    replace c6 := Bool.eq_false_iff.mpr c6
    subst c6
    have H1 := H; rw [if_neg (show ¬ (false = true) by decide)] at H1
    clear H
    have H := H1
    clear H1
    obtain rfl := Option.some.inj H
    have q226 : 0 < (l0.length : Int) := of_decide_eq_true (by assumption)
    obtain ⟨ad226, e226, hx226_0, hx226_1⟩ := rp_T71 HR0.out q226
    cases e226
    go_enter Try.func144, Try.ntmps144
    go_wp2_with (first | (go_at_call 109; (with_reducible refine (spec_l00In.calls ((rd_T71 l0 0).f1) 1 2147483648 true _ A3.out).mono ?_); rintro e w' ⟨rfl, ⟨nd, rfl⟩⟩; (try first | exact ⟨rfl, _, World.drewN_drewN _ _ _⟩ | exact ⟨rfl, _, Eq.trans (World.drewN_drewN _ _ _) (congrArg (World.drewN _) (Nat.add_assoc _ _ _))⟩)) | (go_at_call 109; (with_reducible refine (spec_l00In.calls ((rd_T71 l0 0).f0) (-2147483648) 2147483648 false _ A5.out).mono ?_); rintro e w' ⟨rfl, ⟨nd, rfl⟩⟩; (try first | exact ⟨rfl, _, World.drewN_drewN _ _ _⟩ | exact ⟨rfl, _, Eq.trans (World.drewN_drewN _ _ _) (congrArg (World.drewN _) (Nat.add_assoc _ _ _))⟩)))
    repeat (go_quiet (first | (go_at_call 109; (with_reducible refine (spec_l00In.calls ((rd_T71 l0 0).f1) 1 2147483648 true _ A3.out).mono ?_); rintro e w' ⟨rfl, ⟨nd, rfl⟩⟩; (try first | exact ⟨rfl, _, World.drewN_drewN _ _ _⟩ | exact ⟨rfl, _, Eq.trans (World.drewN_drewN _ _ _) (congrArg (World.drewN _) (Nat.add_assoc _ _ _))⟩)) | (go_at_call 109; (with_reducible refine (spec_l00In.calls ((rd_T71 l0 0).f0) (-2147483648) 2147483648 false _ A5.out).mono ?_); rintro e w' ⟨rfl, ⟨nd, rfl⟩⟩; (try first | exact ⟨rfl, _, World.drewN_drewN _ _ _⟩ | exact ⟨rfl, _, Eq.trans (World.drewN_drewN _ _ _) (congrArg (World.drewN _) (Nat.add_assoc _ _ _))⟩))); try go_wp2_with (first | (go_at_call 109; (with_reducible refine (spec_l00In.calls ((rd_T71 l0 0).f1) 1 2147483648 true _ A3.out).mono ?_); rintro e w' ⟨rfl, ⟨nd, rfl⟩⟩; (try first | exact ⟨rfl, _, World.drewN_drewN _ _ _⟩ | exact ⟨rfl, _, Eq.trans (World.drewN_drewN _ _ _) (congrArg (World.drewN _) (Nat.add_assoc _ _ _))⟩)) | (go_at_call 109; (with_reducible refine (spec_l00In.calls ((rd_T71 l0 0).f0) (-2147483648) 2147483648 false _ A5.out).mono ?_); rintro e w' ⟨rfl, ⟨nd, rfl⟩⟩; (try first | exact ⟨rfl, _, World.drewN_drewN _ _ _⟩ | exact ⟨rfl, _, Eq.trans (World.drewN_drewN _ _ _) (congrArg (World.drewN _) (Nat.add_assoc _ _ _))⟩))))
    go_ret
    exact ⟨z3_2_, z3_7_⟩
  ·
   replace c4 := Bool.eq_false_iff.mpr c4
   subst c4
   have H1 := H; rw [if_neg (show ¬ (false = true) by decide)] at H1
   clear H
   have H := H1
   clear H1
   obtain rfl := Option.some.inj H
   have q226 : 0 < (l0.length : Int) := of_decide_eq_true (by assumption)
   obtain ⟨ad226, e226, hx226_0, hx226_1⟩ := rp_T71 HR0.out q226
   cases e226
   go_enter Try.func144, Try.ntmps144
   go_wp2_with (first | (go_at_call 109; (with_reducible refine (spec_l00In.calls ((rd_T71 l0 0).f1) 1 2147483648 false _ A3.out).mono ?_); rintro e w' ⟨rfl, ⟨nd, rfl⟩⟩; (try first | exact ⟨rfl, _, World.drewN_drewN _ _ _⟩ | exact ⟨rfl, _, Eq.trans (World.drewN_drewN _ _ _) (congrArg (World.drewN _) (Nat.add_assoc _ _ _))⟩)))
   repeat (go_quiet (first | (go_at_call 109; (with_reducible refine (spec_l00In.calls ((rd_T71 l0 0).f1) 1 2147483648 false _ A3.out).mono ?_); rintro e w' ⟨rfl, ⟨nd, rfl⟩⟩; (try first | exact ⟨rfl, _, World.drewN_drewN _ _ _⟩ | exact ⟨rfl, _, Eq.trans (World.drewN_drewN _ _ _) (congrArg (World.drewN _) (Nat.add_assoc _ _ _))⟩))); try go_wp2_with (first | (go_at_call 109; (with_reducible refine (spec_l00In.calls ((rd_T71 l0 0).f1) 1 2147483648 false _ A3.out).mono ?_); rintro e w' ⟨rfl, ⟨nd, rfl⟩⟩; (try first | exact ⟨rfl, _, World.drewN_drewN _ _ _⟩ | exact ⟨rfl, _, Eq.trans (World.drewN_drewN _ _ _) (congrArg (World.drewN _) (Nat.add_assoc _ _ _))⟩))))
   go_ret
   exact ⟨z3_2_, z3_7_⟩
 ·
  rw [if_neg c2] at H
  exact absurd H (by simp)
/-! ### spec_l03Make: function 106 -/
def spec_l03Make.f (k : Nat) (a0 : Int) (a1 : Int) : Option (Int × Int × Int) := (spec_l03Common.f k a0 a1).bind fun t231 => (if a1 < 0 then (if (wrap64 (-t231)) = 0 then (none) else ((spec_l03Ratio.f k [(⟨wrap64 (Int.tdiv a0 (wrap64 (-t231))), wrap64 (Int.tdiv a1 (wrap64 (-t231)))⟩ : S71)]).bind fun t234 => (if t234 = true then (some (wrap64 (Int.tdiv a0 (wrap64 (-t231))), wrap64 (Int.tdiv a1 (wrap64 (-t231))), 0)) else (some (0, 0, 3))))) else (if t231 = 0 then (none) else ((spec_l03Ratio.f k [(⟨wrap64 (Int.tdiv a0 t231), wrap64 (Int.tdiv a1 t231)⟩ : S71)]).bind fun t237 => (if t237 = true then (some (wrap64 (Int.tdiv a0 t231), wrap64 (Int.tdiv a1 t231), 0)) else (some (0, 0, 3))))))
theorem spec_l03Make.mono : ∀ a0 a1 k, LeO (spec_l03Make.f k a0 a1) (spec_l03Make.f (k + 1) a0 a1) := by
 intro a0 a1 k
 unfold spec_l03Make.f
 repeat' first
   | (with_reducible exact spec_l03Common.mono _ _ _)
   | (with_reducible exact spec_l03Ratio.mono _ _)
   | (with_reducible exact LeO.refl _)
   | (with_reducible exact LeO.none _)
   | (with_reducible refine LeO.ite ?_ ?_)
   | (with_reducible refine LeO.bind ?_ (fun _ => ?_))
   | exact LeO.none _
   | refine LeO.ite ?_ ?_
   | refine LeO.bind ?_ (fun _ => ?_)
def spec_l03Make.T4 : Bool × List (List Nat × List Nat) := (true, [([], []), ([], []), ([0, 1], [0, 1]), ([], []), ([], []), ([3, 4], [3, 4]), ([2, 5], [2, 5]), ([], []), ([7, 6, 0, 1, 2, 3, 4, 5, 6, 7], [6, 7])])
def spec_l03Make.B4 : List Nat := [0, 0, 3, 0, 0, 24, 63, 0, 255]
theorem spec_l03Make.tab4 : rtab .any (opsOf Try.f106 4) = spec_l03Make.T4 := by kernel_rfl
theorem spec_l03Make.bits4 : waitsOk spec_l03Make.T4.2 spec_l03Make.B4 = true := by kernel_rfl
set_option maxHeartbeats 8000000 in
set_option maxRecDepth 100000 in
theorem spec_l03Make.calls (k : Nat) (a0 : Int) (a1 : Int) (r1 : Int) (r2 : Int) (r3 : Int) (w : World) (h : spec_l03Make.f k a0 a1 = some (r1, r2, r3)) :
  Calls Try.prog 106 #[.int .i64 a0, .int .i64 a1] w fun e w' => e = .returned (.tuple #[.agg #[.int .i64 r1, .int .i64 r2], .int .i64 r3]) ∧ Below w.heap.size w w' := by
 have hu71 := Try.underlying71
 have HB := A_ (Below.refl w.heap.size w)
 have H : ((spec_l03Common.f k a0 a1).bind fun t231 => (if a1 < 0 then (if (wrap64 (-t231)) = 0 then (none) else ((spec_l03Ratio.f k [(⟨wrap64 (Int.tdiv a0 (wrap64 (-t231))), wrap64 (Int.tdiv a1 (wrap64 (-t231)))⟩ : S71)]).bind fun t234 => (if t234 = true then (some (wrap64 (Int.tdiv a0 (wrap64 (-t231))), wrap64 (Int.tdiv a1 (wrap64 (-t231))), 0)) else (some (0, 0, 3))))) else (if t231 = 0 then (none) else ((spec_l03Ratio.f k [(⟨wrap64 (Int.tdiv a0 t231), wrap64 (Int.tdiv a1 t231)⟩ : S71)]).bind fun t237 => (if t237 = true then (some (wrap64 (Int.tdiv a0 t231), wrap64 (Int.tdiv a1 t231), 0)) else (some (0, 0, 3))))))) = some (r1, r2, r3) := h
 clear h
 replace H := Option.bind_eq_some_iff.mp H
 obtain ⟨t231, A30, H⟩ := H
 try dsimp only at H
 have A3 := A_ A30
 clear A30
 by_cases c4 : a1 < 0
 ·
  rw [if_pos c4] at H
  have c4b0 := decide_eq_true c4
  clear c4
  by_cases c5 : (wrap64 (-t231)) = 0
  ·
   rw [if_pos c5] at H
   exact absurd H (by simp)
  ·
   rw [if_neg c5] at H
   have c5b0 : ((wrap64 (-t231)) == 0) = false := beq_eq_false_iff_ne.mpr c5
   have c5b1 : ((wrap64 (-t231)) != 0) = true := bne_iff_ne.mpr c5
   replace H := Option.bind_eq_some_iff.mp H
   obtain ⟨t234, A60, H⟩ := H
   try dsimp only at H
   have A6 := A_ A60
   clear A60
   have HZ_ := A_ H
   clear H
   go_enter Try.func106, Try.ntmps106
   try go_wp2_with (first | ((with_reducible refine gate_dst (N := 4) rfl ?_); refine box_event ?hg (N := 4) ?hd (cs := #[.int .i64 0, .int .i64 0]) (t := 71) ?hr ?_; (case hd => rfl); (case hg => rfl); (case hr => first | (go_simp; done) | (go_simp; rfl)); intro gb230 hg w8 hbox hb; have _ := A_ (below_step z3_1_ hb); have _ := A_ (hbox); have _ := A_ ((by rw [hg]; exact (below_size z3_1_) : w.heap.size ≤ gb230)); have _ := A_ ((by rw [hg]; exact (below_size z3_1_) : w.heap.size ≤ gb230)); clear HB; rename_i HB BK230 GW230 GE230; clear hb hbox hg) | ((with_reducible refine gate_callee (f := 143) rfl ?_); refine goesL_ (some 10) rfl rfl Try.func143 (by kernel_rfl) rfl #[.int .i64 a0, .int .i64 a1] rfl z3_4_ ?_; (with_reducible refine (spec_l03Common.calls k a0 a1 t231 _ A3.out).mono ?_); rintro e w' ⟨rfl, ⟨nd, rfl⟩⟩; refine ⟨_, rfl, ?_⟩; (try (rw [drewN_self w8]; generalize hq_ : World.drewN w8 _ = w8; have n0_ : Aside0 (w8.heap[gb230]? = some (.cells #[.int .i64 0, .int .i64 0] 71 (0, 0))) := ⟨(by rw [← hq_]; exact z3_10_)⟩; have n1_ : Aside0 (Below w.heap.size w w8) := ⟨(by rw [← hq_]; exact z3_5_)⟩; clear BK230 HB hq_; have BK230 := n0_; have HB := n1_; clear n0_ n1_))))
   have _ := A_ (blk_drew BK230.out)
   have _ := A_ (below_drew1 HB.out)
   clear BK230 HB
   rename_i BK230 HB
   refine start_ (n := 9) (S := fun w' => True) (ds := []) #[false, false, false, false, false, false, false, false, false] (by kernel_rfl) rfl rfl trivial (fun hHeld => ?_); refine with_tabW spec_l03Make.tab4 spec_l03Make.bits4 (fun HT_ HW_ => ?_)
   generalize w8.drew = w9 at BK230 HB hHeld ⊢
   refine pure_ (i := 0) (N := some 15) (v := ?_) (a' := ?_) #[true, false, false, false, false, false, false, false, false] rfl rfl (any_of HT_.out (by kernel_rfl)) (fun _ _ _ h => h) (Or.inl ⟨by rfl, ?_⟩) ?_ ?_
   rotate_left
   ·
    intro w'
    go_simp
    with_reducible rfl
   rotate_left
   ·
    simp only [Act.put, sA_, sB_, sC_, i64_w, i32_w]
    rfl
   refine pure_ (i := 1) (N := some 16) (v := ?_) (a' := ?_) #[true, true, false, false, false, false, false, false, false] rfl rfl (any_of HT_.out (by kernel_rfl)) (fun _ _ _ h => h) (Or.inl ⟨by rfl, ?_⟩) ?_ ?_
   rotate_left
   ·
    intro w'
    go_simp
    with_reducible rfl
   rotate_left
   ·
    simp only [Act.put, sA_, sB_, sC_, i64_w, i32_w]
    rfl
   refine pure_ (i := 2) (N := some 17) (v := ?_) (a' := ?_) #[true, true, true, false, false, false, false, false, false] rfl rfl (any_of HT_.out (by kernel_rfl)) (fun _ _ _ h => h) (Or.inl ⟨by rfl, ?_⟩) ?_ ?_
   rotate_left
   ·
    intro w'
    go_simp
    with_reducible rfl
   rotate_left
   ·
    simp only [Act.put, sA_, sB_, sC_, i64_w, i32_w]
    rfl
   refine pure_ (i := 3) (N := some 18) (v := ?_) (a' := ?_) #[true, true, true, true, false, false, false, false, false] rfl rfl (any_of HT_.out (by kernel_rfl)) (fun _ _ _ h => h) (Or.inl ⟨by rfl, ?_⟩) ?_ ?_
   rotate_left
   ·
    intro w'
    go_simp
    with_reducible rfl
   rotate_left
   ·
    simp only [Act.put, sA_, sB_, sC_, i64_w, i32_w]
    rfl
   refine pure_ (i := 4) (N := some 19) (v := ?_) (a' := ?_) #[true, true, true, true, true, false, false, false, false] rfl rfl (any_of HT_.out (by kernel_rfl)) (fun _ _ _ h => h) (Or.inl ⟨by rfl, ?_⟩) ?_ ?_
   rotate_left
   ·
    intro w'
    go_simp
    with_reducible rfl
   rotate_left
   ·
    simp only [Act.put, sA_, sB_, sC_, i64_w, i32_w]
    rfl
   refine pure_ (i := 5) (N := some 20) (v := ?_) (a' := ?_) #[true, true, true, true, true, true, false, false, false] rfl rfl (any_of HT_.out (by kernel_rfl)) (fun _ _ _ h => h) (Or.inl ⟨by rfl, ?_⟩) ?_ ?_
   rotate_left
   ·
    intro w'
    go_simp
    with_reducible rfl
   rotate_left
   ·
    simp only [Act.put, sA_, sB_, sC_, i64_w, i32_w]
    rfl
   refine pure_ (i := 6) (N := some 21) (v := ?_) (a' := ?_) #[true, true, true, true, true, true, true, false, false] rfl rfl (any_of HT_.out (by kernel_rfl)) (fun _ _ _ h => h) (Or.inl ⟨by rfl, ?_⟩) ?_ ?_
   rotate_left
   ·
    intro w'
    go_simp
    with_reducible rfl
   rotate_left
   ·
    simp only [Act.put, sA_, sB_, sC_, i64_w, i32_w]
    rfl
   refine one_ (i := 7) (N := some 7) #[true, true, true, true, true, true, true, true, false] rfl rfl (one_of HT_.out (by kernel_rfl)) (by decide) (fun K hK => ?_)
   refine box_step ?hg (N := 7) ?hd (cs := #[.int .i64 0, .int .i64 0]) (t := 71) ?hr ?_; (case hd => rfl); (case hg => rfl); (case hr => first | (go_simp; done) | (go_simp; rfl))
   intro gb232 hg w10 hbox hb
   have _ := A_ (blk_below (g := gb230) (o := .cells #[.int .i64 0, .int .i64 0] 71 (0, 0)) z3_10_ hb)
   have _ := A_ (below_step z3_5_ hb)
   have _ := A_ (hbox)
   have _ := A_ ((by rw [hg]; exact (below_size z3_5_) : w.heap.size ≤ gb232))
   have _ := A_ ((by rw [hg]; exact (below_size z3_5_) : w.heap.size ≤ gb232))
   have _ := A_ ((by rw [hg]; exact Nat.ne_of_lt (blk_lt (g := gb230) (o := .cells #[.int .i64 0, .int .i64 0] 71 (0, 0)) z3_10_) : gb230 ≠ gb232))
   have _ := A_ ((by rw [hg]; exact Nat.ne_of_gt (blk_lt (g := gb230) (o := .cells #[.int .i64 0, .int .i64 0] 71 (0, 0)) z3_10_) : gb232 ≠ gb230))
   clear BK230 HB
   rename_i BK230 HB BK232 GW232 GE232 NB230_232 NB232_230
   clear hb hbox hg
   refine hK.out _ _ trivial (fun hHeld => ?_)
   clear hK K
   refine norm_ (a' := ?_) ?_ ?_
   rotate_left
   ·
    show Act.put _ (some 7) _ = _
    simp only [Act.put, sA_, sB_, sC_, i64_w, i32_w]
    rfl
   refine one_ (i := 8) (N := none) #[true, true, true, true, true, true, true, true, true] rfl rfl (one_of HT_.out (by kernel_rfl)) (by decide) (fun K hK => ?_)
   have hs11 : w10.cell? ⟨gb232, 0, none⟩ = some (.int .i64 0) := (blk_cell BK232.out 0).trans rfl
   have hfs11 := blk_frozen BK232.out 0
   have hns11_0 := NB230_232.out
   have hms11_0 := NB232_230.out
   have hs12 : w10.cell? ⟨gb232, 1, none⟩ = some (.int .i64 0) := (blk_cell BK232.out 1).trans rfl
   have hfs12 := blk_frozen BK232.out 1
   have hns12_0 := NB230_232.out
   have hms12_0 := NB232_230.out
   refine skip_ (w1 := ?_) (by rfl) rfl ?_ ?_
   rotate_left
   ·
    go_simp
    rfl
   refine hK.out _ _ trivial (fun hHeld => ?_)
   clear hK K
   refine done_ (done_of HT_.out (by kernel_rfl)) ?_
   have H := HZ_.out
   clear HZ_
   by_cases c7 : t234 = true
   ·
    subst c7
    have H1 := H; rw [if_pos rfl] at H1
    clear H
    have H := H1
    clear H1
    simp only [Option.some.injEq, Prod.mk.injEq] at H
    obtain ⟨rfl, rfl, rfl⟩ := H
    try go_wp2_with (first | ((with_reducible refine gate_callee (f := 144) rfl ?_); refine goesL_ (some 22) rfl rfl Try.func144 (by kernel_rfl) rfl #[.pointer (some ⟨gb232, 0, none⟩)] rfl z3_4_ ?_; (with_reducible refine (spec_l03Ratio.calls k _ ([(⟨wrap64 (Int.tdiv a0 (wrap64 (-t231))), wrap64 (Int.tdiv a1 (wrap64 (-t231)))⟩ : S71)]).length [(⟨wrap64 (Int.tdiv a0 (wrap64 (-t231))), wrap64 (Int.tdiv a1 (wrap64 (-t231)))⟩ : S71)] true _ ?side1 ?side2 A6.out).mono ?_); (case side1 => refine Kd.C_block k71 (g := gb232) (cs := #[.int .i64 (wrap64 (Int.tdiv a0 (wrap64 (-t231)))), .int .i64 (wrap64 (Int.tdiv a1 (wrap64 (-t231))))]) (T := 71) (by (with_reducible repeat (first | refine blk_drewN ?_ _ | refine blk_drew ?_ | refine blk_alloc ?_ _)); refine blk_put (cs := #[.int .i64 (wrap64 (Int.tdiv a0 (wrap64 (-t231)))), .int .i64 0]) ?_ 1 _ rfl; (with_reducible repeat (first | refine blk_drewN ?_ _ | refine blk_drew ?_ | refine blk_alloc ?_ _)); refine blk_put (cs := #[.int .i64 0, .int .i64 0]) ?_ 0 _ rfl; (with_reducible repeat (first | refine blk_drewN ?_ _ | refine blk_drew ?_ | refine blk_alloc ?_ _)); exact BK232.out) (show Kd.K k71 _ (⟨wrap64 (Int.tdiv a0 (wrap64 (-t231))), wrap64 (Int.tdiv a1 (wrap64 (-t231)))⟩ : S71) [.int .i64 (wrap64 (Int.tdiv a0 (wrap64 (-t231)))), .int .i64 (wrap64 (Int.tdiv a1 (wrap64 (-t231))))] from k71_mk _ _) (by decide)); (case side2 => exact Nat.le_refl _); rintro e w' ⟨rfl, ⟨nd, rfl⟩⟩; refine ⟨_, rfl, ?_⟩; have hnb13 := NB232_230.out; have hnc13 := NB230_232.out; obtain ⟨hcz14_0, hcz14_1⟩ := bc2 BK232.out; obtain ⟨hfz14_0, hfz14_1⟩ := bf2 BK232.out; obtain ⟨hcz15_0, hcz15_1⟩ := bc2 BK230.out; obtain ⟨hfz15_0, hfz15_1⟩ := bf2 BK230.out))
    refine bodyPost_ret (results_ct rfl _ _ gb230 71 #[.int .i64 (wrap64 (Int.tdiv a0 (wrap64 (-t231)))), .int .i64 (wrap64 (Int.tdiv a1 (wrap64 (-t231))))] (0, 0) _ rfl (by (with_reducible repeat (first | refine blk_drewN ?_ _ | refine blk_drew ?_ | refine blk_alloc ?_ _)); refine blk_put (cs := #[.int .i64 (wrap64 (Int.tdiv a0 (wrap64 (-t231)))), .int .i64 0]) ?_ 1 _ rfl; (with_reducible repeat (first | refine blk_drewN ?_ _ | refine blk_drew ?_ | refine blk_alloc ?_ _)); refine blk_put (cs := #[.int .i64 0, .int .i64 0]) ?_ 0 _ rfl; (with_reducible repeat (first | refine blk_drewN ?_ _ | refine blk_drew ?_ | refine blk_alloc ?_ _)); refine blk_far ?_ NB230_232.out _; (with_reducible repeat (first | refine blk_drewN ?_ _ | refine blk_drew ?_ | refine blk_alloc ?_ _)); refine blk_far ?_ NB230_232.out _; (with_reducible repeat (first | refine blk_drewN ?_ _ | refine blk_drew ?_ | refine blk_alloc ?_ _)); exact BK230.out) Try.underlying71 rfl (by kernel_rfl)) rfl ?_
    exact ⟨z3_6_, z3_13_⟩
   ·
    replace c7 := Bool.eq_false_iff.mpr c7
    subst c7
    have H1 := H; rw [if_neg (show ¬ (false = true) by decide)] at H1
    clear H
    have H := H1
    clear H1
    simp only [Option.some.injEq, Prod.mk.injEq] at H
    obtain ⟨rfl, rfl, rfl⟩ := H
    try go_wp2_with (first | ((with_reducible refine gate_callee (f := 144) rfl ?_); refine goesL_ (some 22) rfl rfl Try.func144 (by kernel_rfl) rfl #[.pointer (some ⟨gb232, 0, none⟩)] rfl z3_4_ ?_; (with_reducible refine (spec_l03Ratio.calls k _ ([(⟨wrap64 (Int.tdiv a0 (wrap64 (-t231))), wrap64 (Int.tdiv a1 (wrap64 (-t231)))⟩ : S71)]).length [(⟨wrap64 (Int.tdiv a0 (wrap64 (-t231))), wrap64 (Int.tdiv a1 (wrap64 (-t231)))⟩ : S71)] false _ ?side1 ?side2 A6.out).mono ?_); (case side1 => refine Kd.C_block k71 (g := gb232) (cs := #[.int .i64 (wrap64 (Int.tdiv a0 (wrap64 (-t231)))), .int .i64 (wrap64 (Int.tdiv a1 (wrap64 (-t231))))]) (T := 71) (by (with_reducible repeat (first | refine blk_drewN ?_ _ | refine blk_drew ?_ | refine blk_alloc ?_ _)); refine blk_put (cs := #[.int .i64 (wrap64 (Int.tdiv a0 (wrap64 (-t231)))), .int .i64 0]) ?_ 1 _ rfl; (with_reducible repeat (first | refine blk_drewN ?_ _ | refine blk_drew ?_ | refine blk_alloc ?_ _)); refine blk_put (cs := #[.int .i64 0, .int .i64 0]) ?_ 0 _ rfl; (with_reducible repeat (first | refine blk_drewN ?_ _ | refine blk_drew ?_ | refine blk_alloc ?_ _)); exact BK232.out) (show Kd.K k71 _ (⟨wrap64 (Int.tdiv a0 (wrap64 (-t231))), wrap64 (Int.tdiv a1 (wrap64 (-t231)))⟩ : S71) [.int .i64 (wrap64 (Int.tdiv a0 (wrap64 (-t231)))), .int .i64 (wrap64 (Int.tdiv a1 (wrap64 (-t231))))] from k71_mk _ _) (by decide)); (case side2 => exact Nat.le_refl _); rintro e w' ⟨rfl, ⟨nd, rfl⟩⟩; refine ⟨_, rfl, ?_⟩; have hnb21 := NB230_232.out; have hnc21 := NB232_230.out; obtain ⟨hcz22_0, hcz22_1⟩ := bc2 BK230.out; obtain ⟨hfz22_0, hfz22_1⟩ := bf2 BK230.out))
    refine bodyPost_ret (results_ct rfl _ _ gb230 71 #[.int .i64 0, .int .i64 0] (0, 0) _ rfl (by (with_reducible repeat (first | refine blk_drewN ?_ _ | refine blk_drew ?_ | refine blk_alloc ?_ _)); refine blk_put (cs := #[.int .i64 0, .int .i64 0]) ?_ 1 _ rfl; (with_reducible repeat (first | refine blk_drewN ?_ _ | refine blk_drew ?_ | refine blk_alloc ?_ _)); refine blk_put (cs := #[.int .i64 0, .int .i64 0]) ?_ 0 _ rfl; (with_reducible repeat (first | refine blk_drewN ?_ _ | refine blk_drew ?_ | refine blk_alloc ?_ _)); refine blk_far ?_ NB230_232.out _; (with_reducible repeat (first | refine blk_drewN ?_ _ | refine blk_drew ?_ | refine blk_alloc ?_ _)); refine blk_far ?_ NB230_232.out _; (with_reducible repeat (first | refine blk_drewN ?_ _ | refine blk_drew ?_ | refine blk_alloc ?_ _)); exact BK230.out) Try.underlying71 rfl (by kernel_rfl)) rfl ?_
    exact ⟨z3_6_, z3_13_⟩
 ·
  rw [if_neg c4] at H
  have c4b0 := decide_eq_false c4
  clear c4
  by_cases c23 : t231 = 0
  ·
   rw [if_pos c23] at H
   exact absurd H (by simp)
  ·
   rw [if_neg c23] at H
   have c23b0 : (t231 == 0) = false := beq_eq_false_iff_ne.mpr c23
   have c23b1 : (t231 != 0) = true := bne_iff_ne.mpr c23
   replace H := Option.bind_eq_some_iff.mp H
   obtain ⟨t237, A240, H⟩ := H
   try dsimp only at H
   have A24 := A_ A240
   clear A240
   have HZ_ := A_ H
   clear H
   go_enter Try.func106, Try.ntmps106
   try go_wp2_with (first | ((with_reducible refine gate_dst (N := 4) rfl ?_); refine box_event ?hg (N := 4) ?hd (cs := #[.int .i64 0, .int .i64 0]) (t := 71) ?hr ?_; (case hd => rfl); (case hg => rfl); (case hr => first | (go_simp; done) | (go_simp; rfl)); intro gb230 hg w26 hbox hb; have _ := A_ (below_step z3_1_ hb); have _ := A_ (hbox); have _ := A_ ((by rw [hg]; exact (below_size z3_1_) : w.heap.size ≤ gb230)); have _ := A_ ((by rw [hg]; exact (below_size z3_1_) : w.heap.size ≤ gb230)); clear HB; rename_i HB BK230 GW230 GE230; clear hb hbox hg) | ((with_reducible refine gate_callee (f := 143) rfl ?_); refine goesL_ (some 10) rfl rfl Try.func143 (by kernel_rfl) rfl #[.int .i64 a0, .int .i64 a1] rfl z3_4_ ?_; (with_reducible refine (spec_l03Common.calls k a0 a1 t231 _ A3.out).mono ?_); rintro e w' ⟨rfl, ⟨nd, rfl⟩⟩; refine ⟨_, rfl, ?_⟩; (try (rw [drewN_self w26]; generalize hq_ : World.drewN w26 _ = w26; have n0_ : Aside0 (w26.heap[gb230]? = some (.cells #[.int .i64 0, .int .i64 0] 71 (0, 0))) := ⟨(by rw [← hq_]; exact z3_10_)⟩; have n1_ : Aside0 (Below w.heap.size w w26) := ⟨(by rw [← hq_]; exact z3_5_)⟩; clear BK230 HB hq_; have BK230 := n0_; have HB := n1_; clear n0_ n1_))))
   have _ := A_ (blk_drew BK230.out)
   have _ := A_ (below_drew1 HB.out)
   clear BK230 HB
   rename_i BK230 HB
   refine start_ (n := 9) (S := fun w' => True) (ds := []) #[false, false, false, false, false, false, false, false, false] (by kernel_rfl) rfl rfl trivial (fun hHeld => ?_); refine with_tabW spec_l03Make.tab4 spec_l03Make.bits4 (fun HT_ HW_ => ?_)
   generalize w26.drew = w27 at BK230 HB hHeld ⊢
   refine pure_ (i := 0) (N := some 15) (v := ?_) (a' := ?_) #[true, false, false, false, false, false, false, false, false] rfl rfl (any_of HT_.out (by kernel_rfl)) (fun _ _ _ h => h) (Or.inl ⟨by rfl, ?_⟩) ?_ ?_
   rotate_left
   ·
    intro w'
    go_simp
    with_reducible rfl
   rotate_left
   ·
    simp only [Act.put, sA_, sB_, sC_, i64_w, i32_w]
    rfl
   refine pure_ (i := 1) (N := some 16) (v := ?_) (a' := ?_) #[true, true, false, false, false, false, false, false, false] rfl rfl (any_of HT_.out (by kernel_rfl)) (fun _ _ _ h => h) (Or.inl ⟨by rfl, ?_⟩) ?_ ?_
   rotate_left
   ·
    intro w'
    go_simp
    with_reducible rfl
   rotate_left
   ·
    simp only [Act.put, sA_, sB_, sC_, i64_w, i32_w]
    rfl
   refine pure_ (i := 2) (N := some 17) (v := ?_) (a' := ?_) #[true, true, true, false, false, false, false, false, false] rfl rfl (any_of HT_.out (by kernel_rfl)) (fun _ _ _ h => h) (Or.inl ⟨by rfl, ?_⟩) ?_ ?_
   rotate_left
   ·
    intro w'
    go_simp
    with_reducible rfl
   rotate_left
   ·
    simp only [Act.put, sA_, sB_, sC_, i64_w, i32_w]
    rfl
   refine pure_ (i := 3) (N := some 18) (v := ?_) (a' := ?_) #[true, true, true, true, false, false, false, false, false] rfl rfl (any_of HT_.out (by kernel_rfl)) (fun _ _ _ h => h) (Or.inl ⟨by rfl, ?_⟩) ?_ ?_
   rotate_left
   ·
    intro w'
    go_simp
    with_reducible rfl
   rotate_left
   ·
    simp only [Act.put, sA_, sB_, sC_, i64_w, i32_w]
    rfl
   refine pure_ (i := 4) (N := some 19) (v := ?_) (a' := ?_) #[true, true, true, true, true, false, false, false, false] rfl rfl (any_of HT_.out (by kernel_rfl)) (fun _ _ _ h => h) (Or.inl ⟨by rfl, ?_⟩) ?_ ?_
   rotate_left
   ·
    intro w'
    go_simp
    with_reducible rfl
   rotate_left
   ·
    simp only [Act.put, sA_, sB_, sC_, i64_w, i32_w]
    rfl
   refine pure_ (i := 5) (N := some 20) (v := ?_) (a' := ?_) #[true, true, true, true, true, true, false, false, false] rfl rfl (any_of HT_.out (by kernel_rfl)) (fun _ _ _ h => h) (Or.inl ⟨by rfl, ?_⟩) ?_ ?_
   rotate_left
   ·
    intro w'
    go_simp
    with_reducible rfl
   rotate_left
   ·
    simp only [Act.put, sA_, sB_, sC_, i64_w, i32_w]
    rfl
   refine pure_ (i := 6) (N := some 21) (v := ?_) (a' := ?_) #[true, true, true, true, true, true, true, false, false] rfl rfl (any_of HT_.out (by kernel_rfl)) (fun _ _ _ h => h) (Or.inl ⟨by rfl, ?_⟩) ?_ ?_
   rotate_left
   ·
    intro w'
    go_simp
    with_reducible rfl
   rotate_left
   ·
    simp only [Act.put, sA_, sB_, sC_, i64_w, i32_w]
    rfl
   refine one_ (i := 7) (N := some 7) #[true, true, true, true, true, true, true, true, false] rfl rfl (one_of HT_.out (by kernel_rfl)) (by decide) (fun K hK => ?_)
   refine box_step ?hg (N := 7) ?hd (cs := #[.int .i64 0, .int .i64 0]) (t := 71) ?hr ?_; (case hd => rfl); (case hg => rfl); (case hr => first | (go_simp; done) | (go_simp; rfl))
   intro gb235 hg w28 hbox hb
   have _ := A_ (blk_below (g := gb230) (o := .cells #[.int .i64 0, .int .i64 0] 71 (0, 0)) z3_10_ hb)
   have _ := A_ (below_step z3_5_ hb)
   have _ := A_ (hbox)
   have _ := A_ ((by rw [hg]; exact (below_size z3_5_) : w.heap.size ≤ gb235))
   have _ := A_ ((by rw [hg]; exact (below_size z3_5_) : w.heap.size ≤ gb235))
   have _ := A_ ((by rw [hg]; exact Nat.ne_of_lt (blk_lt (g := gb230) (o := .cells #[.int .i64 0, .int .i64 0] 71 (0, 0)) z3_10_) : gb230 ≠ gb235))
   have _ := A_ ((by rw [hg]; exact Nat.ne_of_gt (blk_lt (g := gb230) (o := .cells #[.int .i64 0, .int .i64 0] 71 (0, 0)) z3_10_) : gb235 ≠ gb230))
   clear BK230 HB
   rename_i BK230 HB BK235 GW235 GE235 NB230_235 NB235_230
   clear hb hbox hg
   refine hK.out _ _ trivial (fun hHeld => ?_)
   clear hK K
   refine norm_ (a' := ?_) ?_ ?_
   rotate_left
   ·
    show Act.put _ (some 7) _ = _
    simp only [Act.put, sA_, sB_, sC_, i64_w, i32_w]
    rfl
   refine one_ (i := 8) (N := none) #[true, true, true, true, true, true, true, true, true] rfl rfl (one_of HT_.out (by kernel_rfl)) (by decide) (fun K hK => ?_)
   have hs29 : w28.cell? ⟨gb235, 0, none⟩ = some (.int .i64 0) := (blk_cell BK235.out 0).trans rfl
   have hfs29 := blk_frozen BK235.out 0
   have hns29_0 := NB230_235.out
   have hms29_0 := NB235_230.out
   have hs30 : w28.cell? ⟨gb235, 1, none⟩ = some (.int .i64 0) := (blk_cell BK235.out 1).trans rfl
   have hfs30 := blk_frozen BK235.out 1
   have hns30_0 := NB230_235.out
   have hms30_0 := NB235_230.out
   refine skip_ (w1 := ?_) (by rfl) rfl ?_ ?_
   rotate_left
   ·
    go_simp
    rfl
   refine hK.out _ _ trivial (fun hHeld => ?_)
   clear hK K
   refine done_ (done_of HT_.out (by kernel_rfl)) ?_
   have H := HZ_.out
   clear HZ_
   by_cases c25 : t237 = true
   ·
    subst c25
    have H1 := H; rw [if_pos rfl] at H1
    clear H
    have H := H1
    clear H1
    simp only [Option.some.injEq, Prod.mk.injEq] at H
    obtain ⟨rfl, rfl, rfl⟩ := H
    try go_wp2_with (first | ((with_reducible refine gate_callee (f := 144) rfl ?_); refine goesL_ (some 22) rfl rfl Try.func144 (by kernel_rfl) rfl #[.pointer (some ⟨gb235, 0, none⟩)] rfl z3_4_ ?_; (with_reducible refine (spec_l03Ratio.calls k _ ([(⟨wrap64 (Int.tdiv a0 t231), wrap64 (Int.tdiv a1 t231)⟩ : S71)]).length [(⟨wrap64 (Int.tdiv a0 t231), wrap64 (Int.tdiv a1 t231)⟩ : S71)] true _ ?side1 ?side2 A24.out).mono ?_); (case side1 => refine Kd.C_block k71 (g := gb235) (cs := #[.int .i64 (wrap64 (Int.tdiv a0 t231)), .int .i64 (wrap64 (Int.tdiv a1 t231))]) (T := 71) (by (with_reducible repeat (first | refine blk_drewN ?_ _ | refine blk_drew ?_ | refine blk_alloc ?_ _)); refine blk_put (cs := #[.int .i64 (wrap64 (Int.tdiv a0 t231)), .int .i64 0]) ?_ 1 _ rfl; (with_reducible repeat (first | refine blk_drewN ?_ _ | refine blk_drew ?_ | refine blk_alloc ?_ _)); refine blk_put (cs := #[.int .i64 0, .int .i64 0]) ?_ 0 _ rfl; (with_reducible repeat (first | refine blk_drewN ?_ _ | refine blk_drew ?_ | refine blk_alloc ?_ _)); exact BK235.out) (show Kd.K k71 _ (⟨wrap64 (Int.tdiv a0 t231), wrap64 (Int.tdiv a1 t231)⟩ : S71) [.int .i64 (wrap64 (Int.tdiv a0 t231)), .int .i64 (wrap64 (Int.tdiv a1 t231))] from k71_mk _ _) (by decide)); (case side2 => exact Nat.le_refl _); rintro e w' ⟨rfl, ⟨nd, rfl⟩⟩; refine ⟨_, rfl, ?_⟩; have hnb31 := NB235_230.out; have hnc31 := NB230_235.out; obtain ⟨hcz32_0, hcz32_1⟩ := bc2 BK235.out; obtain ⟨hfz32_0, hfz32_1⟩ := bf2 BK235.out; obtain ⟨hcz33_0, hcz33_1⟩ := bc2 BK230.out; obtain ⟨hfz33_0, hfz33_1⟩ := bf2 BK230.out))
    refine bodyPost_ret (results_ct rfl _ _ gb230 71 #[.int .i64 (wrap64 (Int.tdiv a0 t231)), .int .i64 (wrap64 (Int.tdiv a1 t231))] (0, 0) _ rfl (by (with_reducible repeat (first | refine blk_drewN ?_ _ | refine blk_drew ?_ | refine blk_alloc ?_ _)); refine blk_put (cs := #[.int .i64 (wrap64 (Int.tdiv a0 t231)), .int .i64 0]) ?_ 1 _ rfl; (with_reducible repeat (first | refine blk_drewN ?_ _ | refine blk_drew ?_ | refine blk_alloc ?_ _)); refine blk_put (cs := #[.int .i64 0, .int .i64 0]) ?_ 0 _ rfl; (with_reducible repeat (first | refine blk_drewN ?_ _ | refine blk_drew ?_ | refine blk_alloc ?_ _)); refine blk_far ?_ NB230_235.out _; (with_reducible repeat (first | refine blk_drewN ?_ _ | refine blk_drew ?_ | refine blk_alloc ?_ _)); refine blk_far ?_ NB230_235.out _; (with_reducible repeat (first | refine blk_drewN ?_ _ | refine blk_drew ?_ | refine blk_alloc ?_ _)); exact BK230.out) Try.underlying71 rfl (by kernel_rfl)) rfl ?_
    exact ⟨z3_6_, z3_12_⟩
   ·
    replace c25 := Bool.eq_false_iff.mpr c25
    subst c25
    have H1 := H; rw [if_neg (show ¬ (false = true) by decide)] at H1
    clear H
    have H := H1
    clear H1
    simp only [Option.some.injEq, Prod.mk.injEq] at H
    obtain ⟨rfl, rfl, rfl⟩ := H
    try go_wp2_with (first | ((with_reducible refine gate_callee (f := 144) rfl ?_); refine goesL_ (some 22) rfl rfl Try.func144 (by kernel_rfl) rfl #[.pointer (some ⟨gb235, 0, none⟩)] rfl z3_4_ ?_; (with_reducible refine (spec_l03Ratio.calls k _ ([(⟨wrap64 (Int.tdiv a0 t231), wrap64 (Int.tdiv a1 t231)⟩ : S71)]).length [(⟨wrap64 (Int.tdiv a0 t231), wrap64 (Int.tdiv a1 t231)⟩ : S71)] false _ ?side1 ?side2 A24.out).mono ?_); (case side1 => refine Kd.C_block k71 (g := gb235) (cs := #[.int .i64 (wrap64 (Int.tdiv a0 t231)), .int .i64 (wrap64 (Int.tdiv a1 t231))]) (T := 71) (by (with_reducible repeat (first | refine blk_drewN ?_ _ | refine blk_drew ?_ | refine blk_alloc ?_ _)); refine blk_put (cs := #[.int .i64 (wrap64 (Int.tdiv a0 t231)), .int .i64 0]) ?_ 1 _ rfl; (with_reducible repeat (first | refine blk_drewN ?_ _ | refine blk_drew ?_ | refine blk_alloc ?_ _)); refine blk_put (cs := #[.int .i64 0, .int .i64 0]) ?_ 0 _ rfl; (with_reducible repeat (first | refine blk_drewN ?_ _ | refine blk_drew ?_ | refine blk_alloc ?_ _)); exact BK235.out) (show Kd.K k71 _ (⟨wrap64 (Int.tdiv a0 t231), wrap64 (Int.tdiv a1 t231)⟩ : S71) [.int .i64 (wrap64 (Int.tdiv a0 t231)), .int .i64 (wrap64 (Int.tdiv a1 t231))] from k71_mk _ _) (by decide)); (case side2 => exact Nat.le_refl _); rintro e w' ⟨rfl, ⟨nd, rfl⟩⟩; refine ⟨_, rfl, ?_⟩; have hnb39 := NB230_235.out; have hnc39 := NB235_230.out; obtain ⟨hcz40_0, hcz40_1⟩ := bc2 BK230.out; obtain ⟨hfz40_0, hfz40_1⟩ := bf2 BK230.out))
    refine bodyPost_ret (results_ct rfl _ _ gb230 71 #[.int .i64 0, .int .i64 0] (0, 0) _ rfl (by (with_reducible repeat (first | refine blk_drewN ?_ _ | refine blk_drew ?_ | refine blk_alloc ?_ _)); refine blk_put (cs := #[.int .i64 0, .int .i64 0]) ?_ 1 _ rfl; (with_reducible repeat (first | refine blk_drewN ?_ _ | refine blk_drew ?_ | refine blk_alloc ?_ _)); refine blk_put (cs := #[.int .i64 0, .int .i64 0]) ?_ 0 _ rfl; (with_reducible repeat (first | refine blk_drewN ?_ _ | refine blk_drew ?_ | refine blk_alloc ?_ _)); refine blk_far ?_ NB230_235.out _; (with_reducible repeat (first | refine blk_drewN ?_ _ | refine blk_drew ?_ | refine blk_alloc ?_ _)); refine blk_far ?_ NB230_235.out _; (with_reducible repeat (first | refine blk_drewN ?_ _ | refine blk_drew ?_ | refine blk_alloc ?_ _)); exact BK230.out) Try.underlying71 rfl (by kernel_rfl)) rfl ?_
    exact ⟨z3_6_, z3_12_⟩
/-! ### impl_within: function 62 -/
def impl_within.f (a0 : Int) (a1 : Int) (a2 : Int) : Option (Bool) := if a0 ≥ a1 then (some (decide (a0 ≤ a2))) else (some false)
set_option maxHeartbeats 8000000 in
set_option maxRecDepth 100000 in
theorem impl_within.calls (a0 : Int) (a1 : Int) (a2 : Int) (r : Bool) (w : World) (h : impl_within.f a0 a1 a2 = some r) :
  Calls Try.prog 62 #[.int .i64 a0, .int .i64 a1, .int .i64 a2] w fun e w' => e = .returned (.bool r) ∧ Drawn0 w w' := by
 have H : (if a0 ≥ a1 then (some (decide (a0 ≤ a2))) else (some false)) = some r := h
 clear h
 by_cases c4 : a0 ≥ a1
 ·
  rw [if_pos c4] at H
  have c4b0 := decide_eq_true c4
  clear c4
  obtain rfl := Option.some.inj H
  go_enter Try.func62, Try.ntmps62
  go_wp2
  go_ret
  exact ⟨z3_2_, z3_7_⟩
 ·
  rw [if_neg c4] at H
  have c4b0 := decide_eq_false c4
  clear c4
  obtain rfl := Option.some.inj H
  go_enter Try.func62, Try.ntmps62
  go_wp2
  go_ret
  exact ⟨z3_2_, z3_7_⟩
/-! ### impl_weigh: function 107 -/
def impl_weigh.l0 : Nat → Int → List Int → Int → Int → Option (Int)
 | 0, _, _, _, _ => none
 | k + 1, x3, x6, x7, x8 => if x8 < x7 then (if 0 ≤ x8 then (if x8 < (x6.length : Int) then (impl_weigh.l0 k (wrap64 ((wrap64 (2 * x3)) + (wrap64 (rd x6 x8)))) x6 x7 (wrap64 (x8 + 1))) else (none)) else (none)) else (some x3)
def impl_weigh.f (k : Nat) (l0 : List Int) : Option (Int) := impl_weigh.l0 k 0 l0 (l0.length : Int) 0
theorem impl_weigh.mono_l : ∀ k, (∀ y0 y1 y2 y3, LeO (impl_weigh.l0 k y0 y1 y2 y3) (impl_weigh.l0 (k + 1) y0 y1 y2 y3))
 | 0 => fun _ _ _ _ r h => by simp [impl_weigh.l0] at h
 | k + 1 => by
  have ih0 := impl_weigh.mono_l k
  ·
   intro y0 y1 y2 y3
   unfold impl_weigh.l0
   repeat' first
   | (with_reducible exact ih0 _ _ _ _)
   | (with_reducible exact LeO.refl _)
   | (with_reducible exact LeO.none _)
   | (with_reducible refine LeO.ite ?_ ?_)
   | (with_reducible refine LeO.bind ?_ (fun _ => ?_))
   | exact ih0 _ _ _ _
   | exact LeO.none _
   | refine LeO.ite ?_ ?_
   | refine LeO.bind ?_ (fun _ => ?_)
theorem impl_weigh.mono : ∀ a0 k, LeO (impl_weigh.f k a0) (impl_weigh.f (k + 1) a0) := by
 intro a0 k
 have ih0 := impl_weigh.mono_l k
 unfold impl_weigh.f
 repeat' first
   | (with_reducible exact ih0 _ _ _ _)
   | (with_reducible exact LeO.refl _)
   | (with_reducible exact LeO.none _)
   | (with_reducible refine LeO.ite ?_ ?_)
   | (with_reducible refine LeO.bind ?_ (fun _ => ?_))
   | exact ih0 _ _ _ _
   | exact LeO.none _
   | refine LeO.ite ?_ ?_
   | refine LeO.bind ?_ (fun _ => ?_)
set_option maxHeartbeats 8000000 in
set_option maxRecDepth 100000 in
theorem impl_weigh.calls (k : Nat) (A0 : Option Addr) (c0 : Nat) (l0 : List Int) (r : Int) (w : World) (hr0 : Kd.C (Kd.int .i8) w A0 l0.length l0) (hc0 : l0.length ≤ c0) (h : impl_weigh.f k l0 = some r) :
  Calls Try.prog 107 #[.slice A0 l0.length c0] w fun e w' => e = .returned (.int .i64 r) ∧ Drawn0 w w' := by
 have HR0 := A_ hr0
 have HC0 := A_ hc0
 clear hr0 hc0
 have H : (impl_weigh.l0 k 0 l0 (l0.length : Int) 0) = some r := h
 clear h
 have H' := A_ H
 clear H
 go_enter Try.func107, Try.ntmps107
 go_wp2
 go_loopg [3, 8] k (fun kq v3 v8 w' => ∃ (x3_1 : Int) (x8_1 : Int), v3 = .int .i64 x3_1 ∧ v8 = .int .i64 x8_1 ∧ Aside0 (impl_weigh.l0 kq x3_1 l0 (l0.length : Int) x8_1 = some r) ∧ Aside0 (kq ≤ k) ∧ Drawn0 w w')
 case atStart => exact ⟨(0), (0), z3_2_, z3_2_, H', ⟨Nat.le_refl _⟩, z3_7_⟩
 case round =>
  clear H'
  try clear c1
  obtain ⟨x3_1, x8_1, rfl, rfl, HA, HK1, ⟨m1, rfl⟩⟩ := hrel
  cases gk with
  | zero => exact absurd HA.out (by simp [impl_weigh.l0])
  | succ k1 =>
   have H := HA.out
   clear HA
   simp only [impl_weigh.l0] at H
   by_cases c2 : x8_1 < (l0.length : Int)
   ·
    rw [if_pos c2] at H
    have c2b0 := decide_eq_true c2
    clear c2
    by_cases c3 : 0 ≤ x8_1
    ·
     rw [if_pos c3] at H
     have c3b0 := decide_eq_true c3
     clear c3
     by_cases c4 : x8_1 < (l0.length : Int)
     ·
      rw [if_pos c4] at H
      have c4b0 := decide_eq_true c4
      clear c4
      have H' := A_ H
      clear H
      have p269 : 0 ≤ (x8_1 : Int) := of_decide_eq_true (by assumption)
      have q269 : x8_1 < (l0.length : Int) := of_decide_eq_true (by assumption)
      obtain ⟨ad269, e269, hx269_0⟩ := Kd.at_int HR0.out x8_1 p269 q269
      cases e269
      replace p269 := eq_true p269
      replace q269 := eq_true q269
      go_wp2
      go_roundg k1
      case measure => have := HK1.out; omega
      case rel => exact ⟨(wrap64 ((wrap64 (2 * x3_1)) + (wrap64 (rd l0 x8_1)))), (wrap64 (x8_1 + 1)), z3_2_, z3_2_, H', ⟨(by have := HK1.out; omega)⟩, z3_7_⟩
     ·
      rw [if_neg c4] at H
      exact absurd H (by simp)
    ·
     rw [if_neg c3] at H
     exact absurd H (by simp)
   ·
    rw [if_neg c2] at H
    have c2b0 := decide_eq_false c2
    clear c2
    obtain rfl := Option.some.inj H
    go_wp2
    go_ret
    exact ⟨z3_2_, z3_7_⟩
/-! ### impl_common: function 133 -/
mutual
def impl_common.l0 : Nat → Int → List Int → Int → Int → Option (Int)
 | 0, _, _, _, _ => none
 | k + 1, x3, x6, x7, x8 => if x8 < x7 then (if 0 ≤ x8 then (if x8 < (x6.length : Int) then (impl_common.l1 k x3 (mx (rd x6 x8) (wrap64 (-(rd x6 x8)))) x6 x7 x8) else (none)) else (none)) else (some x3)
def impl_common.l1 : Nat → Int → Int → List Int → Int → Int → Option (Int)
 | 0, _, _, _, _, _ => none
 | k + 1, x3, x5, x6, x7, x8 => if x5 = 0 then (impl_common.l0 k x3 x6 x7 (wrap64 (x8 + 1))) else (impl_common.l1 k x5 (Int.tmod x3 x5) x6 x7 x8)
end
def impl_common.f (k : Nat) (l0 : List Int) : Option (Int) := impl_common.l0 k 0 l0 (l0.length : Int) 0
theorem impl_common.mono_l : ∀ k, (∀ y0 y1 y2 y3, LeO (impl_common.l0 k y0 y1 y2 y3) (impl_common.l0 (k + 1) y0 y1 y2 y3)) ∧ (∀ y0 y1 y2 y3 y4, LeO (impl_common.l1 k y0 y1 y2 y3 y4) (impl_common.l1 (k + 1) y0 y1 y2 y3 y4))
 | 0 => ⟨fun _ _ _ _ r h => by simp [impl_common.l0] at h, fun _ _ _ _ _ r h => by simp [impl_common.l1] at h⟩
 | k + 1 => by
  obtain ⟨ih0, ih1⟩ := impl_common.mono_l k
  refine ⟨?_, ?_⟩
  ·
   intro y0 y1 y2 y3
   unfold impl_common.l0
   repeat' first
   | (with_reducible exact ih0 _ _ _ _)
   | (with_reducible exact ih1 _ _ _ _ _)
   | (with_reducible exact LeO.refl _)
   | (with_reducible exact LeO.none _)
   | (with_reducible refine LeO.ite ?_ ?_)
   | (with_reducible refine LeO.bind ?_ (fun _ => ?_))
   | exact ih0 _ _ _ _
   | exact ih1 _ _ _ _ _
   | exact LeO.none _
   | refine LeO.ite ?_ ?_
   | refine LeO.bind ?_ (fun _ => ?_)
  ·
   intro y0 y1 y2 y3 y4
   unfold impl_common.l1
   repeat' first
   | (with_reducible exact ih0 _ _ _ _)
   | (with_reducible exact ih1 _ _ _ _ _)
   | (with_reducible exact LeO.refl _)
   | (with_reducible exact LeO.none _)
   | (with_reducible refine LeO.ite ?_ ?_)
   | (with_reducible refine LeO.bind ?_ (fun _ => ?_))
   | exact ih0 _ _ _ _
   | exact ih1 _ _ _ _ _
   | exact LeO.none _
   | refine LeO.ite ?_ ?_
   | refine LeO.bind ?_ (fun _ => ?_)
theorem impl_common.mono : ∀ a0 k, LeO (impl_common.f k a0) (impl_common.f (k + 1) a0) := by
 intro a0 k
 obtain ⟨ih0, ih1⟩ := impl_common.mono_l k
 unfold impl_common.f
 repeat' first
   | (with_reducible exact ih0 _ _ _ _)
   | (with_reducible exact ih1 _ _ _ _ _)
   | (with_reducible exact LeO.refl _)
   | (with_reducible exact LeO.none _)
   | (with_reducible refine LeO.ite ?_ ?_)
   | (with_reducible refine LeO.bind ?_ (fun _ => ?_))
   | exact ih0 _ _ _ _
   | exact ih1 _ _ _ _ _
   | exact LeO.none _
   | refine LeO.ite ?_ ?_
   | refine LeO.bind ?_ (fun _ => ?_)
set_option maxHeartbeats 8000000 in
set_option maxRecDepth 100000 in
theorem impl_common.calls (k : Nat) (A0 : Option Addr) (c0 : Nat) (l0 : List Int) (r : Int) (w : World) (hr0 : Kd.C (Kd.int .i64) w A0 l0.length l0) (hc0 : l0.length ≤ c0) (h : impl_common.f k l0 = some r) :
  Calls Try.prog 133 #[.slice A0 l0.length c0] w fun e w' => e = .returned (.int .i64 r) ∧ Below w.heap.size w w' := by
 have HR0 := A_ hr0
 have HC0 := A_ hc0
 clear hr0 hc0
 have HB := A_ (Below.refl w.heap.size w)
 have H : (impl_common.l0 k 0 l0 (l0.length : Int) 0) = some r := h
 clear h
 have H' := A_ H
 clear H
 go_enter Try.func133, Try.ntmps133
 go_wp2
 repeat (go_quiet (fail); try go_wp2)
 go_loopg [3, 8] k (fun kq v3 v8 w' => ∃ (x3_1 : Int) (x8_1 : Int), v3 = .int .i64 x3_1 ∧ v8 = .int .i64 x8_1 ∧ Aside0 (impl_common.l0 kq x3_1 l0 (l0.length : Int) x8_1 = some r) ∧ Aside0 (kq ≤ k) ∧ Aside0 (Below w.heap.size w w'))
 case atStart => exact ⟨(0), (0), z3_2_, z3_2_, H', ⟨Nat.le_refl _⟩, ⟨z3_1_⟩⟩
 case round =>
  clear H'
  try clear c1
  obtain ⟨x3_1, x8_1, rfl, rfl, HA, HK1, HB⟩ := hrel
  cases gk with
  | zero => exact absurd HA.out (by simp [impl_common.l0])
  | succ k1 =>
   have H := HA.out
   clear HA
   simp only [impl_common.l0] at H
   by_cases c2 : x8_1 < (l0.length : Int)
   ·
    rw [if_pos c2] at H
    have c2b0 := decide_eq_true c2
    clear c2
    by_cases c3 : 0 ≤ x8_1
    ·
     rw [if_pos c3] at H
     have c3b0 := decide_eq_true c3
     clear c3
     by_cases c4 : x8_1 < (l0.length : Int)
     ·
      rw [if_pos c4] at H
      have c4b0 := decide_eq_true c4
      clear c4
      obtain ⟨ji5, hji5⟩ : ∃ j_ : Int, (mx (rd l0 x8_1) (wrap64 (-(rd l0 x8_1)))) = j_ := ⟨_, rfl⟩
      replace H : (impl_common.l1 k1 x3_1 ji5 l0 (l0.length : Int) x8_1) = some r := by first | (rw [hji5] at H; exact H) | (simp only [hji5] at H ⊢; exact H)
      have hji5_ : (if (rd l0 x8_1) < (wrap64 (-(rd l0 x8_1))) then (wrap64 (-(rd l0 x8_1))) else (rd l0 x8_1)) = ji5 := hji5
      have H' := A_ H
      clear H
      have p270 : 0 ≤ (x8_1 : Int) := of_decide_eq_true (by assumption)
      have q270 : x8_1 < (l0.length : Int) := of_decide_eq_true (by assumption)
      obtain ⟨ad270, e270, hx270_0⟩ := Kd.at_int HR0.out x8_1 p270 q270
      cases e270
      replace hx270_0 := cel HB.out hx270_0
      replace p270 := eq_true p270
      replace q270 := eq_true q270
      go_wp2
      repeat (go_quiet (fail); try go_wp2)
      go_loopg [3, 5] k1 (fun kq v3 v5 w' => ∃ (x3_2 : Int) (x5_2 : Int), v3 = .int .i64 x3_2 ∧ v5 = .int .i64 x5_2 ∧ Aside0 (impl_common.l1 kq x3_2 x5_2 l0 (l0.length : Int) x8_1 = some r) ∧ Aside0 (kq ≤ k1) ∧ Aside0 (Below w.heap.size w w'))
      case atStart => exact ⟨(x3_1), (ji5), z3_2_, (by first | rfl | (simp; done) | (simp only [← hji5] <;> (first | rfl | (simp only [i64_w]; done) | (simp only [i64_w]; rfl) | simp)) | (simp [*]; done)), H', ⟨Nat.le_refl _⟩, ⟨z3_1_⟩⟩
      case round =>
       clear H'
       try clear c1
       try clear c2
       try clear c2b0
       try clear p2
       try clear q2
       try clear hx2
       try clear c3
       try clear c3b0
       try clear c4
       try clear c4b0
       try clear hx270_0
       try clear p270
       try clear q270
       obtain ⟨x3_2, x5_2, rfl, rfl, HA, HK2, HB⟩ := hrel
       cases gk with
       | zero => exact absurd HA.out (by simp [impl_common.l1])
       | succ k2 =>
        have H := HA.out
        clear HA
        simp only [impl_common.l1] at H
        by_cases c6 : x5_2 = 0
        ·
         rw [if_pos c6] at H
         have c6b0 := beq_iff_eq.mpr c6
         have c6b1 := bne_eq_false_iff_eq.mpr c6
         clear c6
         have H' := A_ H
         clear H
         go_wp2
         repeat (go_quiet (fail); try go_wp2)
         go_roundg k2
         case measure => have := HK1.out; have := HK2.out; omega
         case rel => exact ⟨(x3_2), (wrap64 (x8_1 + 1)), z3_2_, z3_2_, H', ⟨z3_16_⟩, ⟨z3_1_⟩⟩
        ·
         rw [if_neg c6] at H
         have c6b0 : (x5_2 == 0) = false := beq_eq_false_iff_ne.mpr c6
         have c6b1 : (x5_2 != 0) = true := bne_iff_ne.mpr c6
         have H' := A_ H
         clear H
         go_wp2
         repeat (go_quiet (fail); try go_wp2)
         go_roundg k2
         case measure => have := HK1.out; have := HK2.out; omega
         case rel => exact ⟨(x5_2), (Int.tmod x3_2 x5_2), z3_2_, z3_2_, H', ⟨z3_16_⟩, ⟨z3_1_⟩⟩
     ·
      rw [if_neg c4] at H
      exact absurd H (by simp)
    ·
     rw [if_neg c3] at H
     exact absurd H (by simp)
   ·
    rw [if_neg c2] at H
    have c2b0 := decide_eq_false c2
    clear c2
    obtain rfl := Option.some.inj H
    go_wp2
    repeat (go_quiet (fail); try go_wp2)
    go_ret
    exact ⟨z3_6_, z3_1_⟩
/-! ### impl_ValidRatio: function 145 -/
def impl_ValidRatio.f (k : Nat) (a0_0 : Int) (a0_1 : Int) : Option (Bool) := (impl_within.f a0_1 1 2147483648).bind fun t272 => (if t272 = true then ((impl_within.f a0_0 (-2147483648) 2147483648).bind fun t273 => (if t273 = true then ((impl_common.f k (([a0_0, a0_1] : List Int))).bind fun t277 => (some (t277 == 1))) else (some false))) else (some false))
theorem impl_ValidRatio.mono : ∀ a0 a1 k, LeO (impl_ValidRatio.f k a0 a1) (impl_ValidRatio.f (k + 1) a0 a1) := by
 intro a0 a1 k
 unfold impl_ValidRatio.f
 repeat' first
   | (with_reducible exact impl_common.mono _ _)
   | (with_reducible exact LeO.refl _)
   | (with_reducible exact LeO.none _)
   | (with_reducible refine LeO.ite ?_ ?_)
   | (with_reducible refine LeO.bind ?_ (fun _ => ?_))
   | exact LeO.none _
   | refine LeO.ite ?_ ?_
   | refine LeO.bind ?_ (fun _ => ?_)
set_option maxHeartbeats 8000000 in
set_option maxRecDepth 100000 in
theorem impl_ValidRatio.calls (k : Nat) (a0_0 : Int) (a0_1 : Int) (r : Bool) (w : World) (h : impl_ValidRatio.f k a0_0 a0_1 = some r) :
  Calls Try.prog 145 #[.agg #[.int .i64 a0_0, .int .i64 a0_1]] w fun e w' => e = .returned (.bool r) ∧ Below w.heap.size w w' := by
 have hu71 := Try.underlying71
 have HB := A_ (Below.refl w.heap.size w)
 have H : ((impl_within.f a0_1 1 2147483648).bind fun t272 => (if t272 = true then ((impl_within.f a0_0 (-2147483648) 2147483648).bind fun t273 => (if t273 = true then ((impl_common.f k (([a0_0, a0_1] : List Int))).bind fun t277 => (some (t277 == 1))) else (some false))) else (some false))) = some r := h
 clear h
 replace H := Option.bind_eq_some_iff.mp H
 obtain ⟨t272, A20, H⟩ := H
 try dsimp only at H
 have A2 := A_ A20
 clear A20
 by_cases c3 : t272 = true
 ·
  subst c3
  have H1 := H; rw [if_pos rfl] at H1
  clear H
  have H := H1
  clear H1
  replace H := Option.bind_eq_some_iff.mp H
  obtain ⟨t273, A40, H⟩ := H
  try dsimp only at H
  have A4 := A_ A40
  clear A40
  by_cases c5 : t273 = true
  ·
   subst c5
   have H1 := H; rw [if_pos rfl] at H1
   clear H
   have H := H1
   clear H1
   obtain ⟨y274, hy274⟩ : ∃ y_ : List Int, y_ = (([a0_0, a0_1] : List Int)) := ⟨_, rfl⟩
   replace H : ((impl_common.f k y274).bind fun t277 => (some (t277 == 1))) = some r := by first | (rw [hy274]; with_reducible exact H) | (have H2_ := (Option.bind_some _ _).symm.trans H; rw [hy274]; with_reducible exact H2_) | (have H2_ := (Option.bind_some _ _).symm.trans H; with_reducible exact H2_) | with_reducible exact H | (rw [hy274]; exact H) | exact H
   have Ny274 := A_ hy274
   clear hy274
   replace H := Option.bind_eq_some_iff.mp H
   obtain ⟨t277, A60, H⟩ := H
   try dsimp only at H
   have A6 := A_ A60
   clear A60
   obtain rfl := Option.some.inj H
   go_enter Try.func145, Try.ntmps145
   go_wp2_with (first | ((with_reducible refine gate_dst (N := 1) rfl ?_); (try (refine gate_guard (by rfl) ?_; dsimp only)); refine box_event ?hg (N := 1) ?hd (cs := #[.int .i64 a0_0, .int .i64 a0_1]) (t := 71) ?hr ?_; (case hd => rfl); (case hg => rfl); (case hr => first | (go_simp; done) | (go_simp; rfl)); intro gb271 hg w7 hbox hb; have _ := A_ (below_step z3_1_ hb); have _ := A_ (hbox); have _ := A_ ((by rw [hg]; exact (below_size z3_1_) : w.heap.size ≤ gb271)); have _ := A_ ((by rw [hg]; exact (below_size z3_1_) : w.heap.size ≤ gb271)); clear HB; rename_i HB BK271 GW271 GE271; clear hb hbox hg; obtain ⟨hcz8_0, hcz8_1⟩ := bc2 BK271.out; obtain ⟨hfz8_0, hfz8_1⟩ := bf2 BK271.out) | ((with_reducible refine gate_callee (f := 62) rfl ?_); refine goesL_ (some 5) rfl rfl Try.func62 (by kernel_rfl) rfl #[.int .i64 a0_1, .int .i64 1, .int .i64 2147483648] rfl z3_4_ ?_; (with_reducible refine (impl_within.calls a0_1 1 2147483648 true _ A2.out).mono ?_); rintro e w' ⟨rfl, ⟨nd, rfl⟩⟩; refine ⟨_, rfl, ?_⟩) | (go_at_call 62; (with_reducible refine (impl_within.calls a0_0 (-2147483648) 2147483648 true _ A4.out).mono ?_); rintro e w' ⟨rfl, ⟨nd, rfl⟩⟩) | ((with_reducible refine gate_dst (N := 16) rfl ?_); (try (refine gate_guard (by rfl) ?_; dsimp only)); refine Kd.R_lit (Kd.int .i64) _ 2 ?hg (N := 16) ?hd (xs := ([a0_0, a0_1] : List Int)) (inner := [.int .i64 a0_0, .int .i64 a0_1]) (ok := fun _ => True) (okp := fun _ => True) ?hr ?hp (fun _ hk => hk) trivial (Below.refl _ _) (Nat.le_refl _) (by simp) ?_; (case hd => rfl); (case hg => rfl); (case hr => first | (go_simp; done) | (go_simp; rfl)); (case hp => exact (Reps.one (show Kd.M (Kd.int .i64) _ _ _ a0_0 [.int .i64 a0_0] from rfl) (Reps.one (show Kd.M (Kd.int .i64) _ _ _ a0_1 [.int .i64 a0_1] from rfl) (Reps.none _ _)))); intro v275 w9 ho10 hb hg_ hnew_; clear hg_ hnew_; (first | rw [← Ny274.out] at ho10 | (simp only [Int.reduceToNat] at ho10; rw [← Ny274.out] at ho10)); have _ := A_ (Kd.R_lower ho10 (below_size z3_9_)); have _ := A_ (blk_below (g := gb271) (o := .cells #[.int .i64 a0_0, .int .i64 a0_1] 71 (0, 0)) z3_15_ hb); have _ := A_ (below_step z3_9_ hb); clear BK271 HB; rename_i HO276 BK271 HB; clear hb ho10; obtain ⟨Ao11, co11, eo11⟩ := Kd.R_slice HO276.out; subst eo11) | (go_at_call 133; (with_reducible refine (impl_common.calls k _ _ y274 t277 _ ?side1 ?side2 A6.out).mono ?_); (case side1 => have hx_ := (Kd.R_reads' HO276.out).2.2; exact kc_); (case side2 => exact (Kd.R_reads' HO276.out).2.1); rintro e w12 ⟨rfl, hb⟩; have _ := A_ (Kd.R_below (by (with_reducible repeat (first | apply Kd.R_alloc | apply Kd.R_drewN | apply Kd.R_drew)); exact HO276.out) hb); have _ := A_ (blk_below (g := gb271) (o := .cells #[.int .i64 a0_0, .int .i64 a0_1] 71 (0, 0)) z3_15_ hb); have _ := A_ (below_step z3_9_ hb); clear HO276 BK271 HB; rename_i HO276 BK271 HB; (try clear hb)))
   go_ret
   exact ⟨z3_6_, z3_9_⟩
  ·
   replace c5 := Bool.eq_false_iff.mpr c5
   subst c5
   have H1 := H; rw [if_neg (show ¬ (false = true) by decide)] at H1
   clear H
   have H := H1
   clear H1
   obtain rfl := Option.some.inj H
   go_enter Try.func145, Try.ntmps145
   go_wp2_with (first | ((with_reducible refine gate_dst (N := 1) rfl ?_); (try (refine gate_guard (by rfl) ?_; dsimp only)); refine box_event ?hg (N := 1) ?hd (cs := #[.int .i64 a0_0, .int .i64 a0_1]) (t := 71) ?hr ?_; (case hd => rfl); (case hg => rfl); (case hr => first | (go_simp; done) | (go_simp; rfl)); intro gb271 hg w13 hbox hb; have _ := A_ (below_step z3_1_ hb); have _ := A_ (hbox); have _ := A_ ((by rw [hg]; exact (below_size z3_1_) : w.heap.size ≤ gb271)); have _ := A_ ((by rw [hg]; exact (below_size z3_1_) : w.heap.size ≤ gb271)); clear HB; rename_i HB BK271 GW271 GE271; clear hb hbox hg; obtain ⟨hcz14_0, hcz14_1⟩ := bc2 BK271.out; obtain ⟨hfz14_0, hfz14_1⟩ := bf2 BK271.out) | ((with_reducible refine gate_callee (f := 62) rfl ?_); refine goesL_ (some 5) rfl rfl Try.func62 (by kernel_rfl) rfl #[.int .i64 a0_1, .int .i64 1, .int .i64 2147483648] rfl z3_4_ ?_; (with_reducible refine (impl_within.calls a0_1 1 2147483648 true _ A2.out).mono ?_); rintro e w' ⟨rfl, ⟨nd, rfl⟩⟩; refine ⟨_, rfl, ?_⟩) | (go_at_call 62; (with_reducible refine (impl_within.calls a0_0 (-2147483648) 2147483648 false _ A4.out).mono ?_); rintro e w' ⟨rfl, ⟨nd, rfl⟩⟩))
   go_ret
   exact ⟨z3_6_, z3_9_⟩
 ·
  replace c3 := Bool.eq_false_iff.mpr c3
  subst c3
  have H1 := H; rw [if_neg (show ¬ (false = true) by decide)] at H1
  clear H
  have H := H1
  clear H1
  obtain rfl := Option.some.inj H
  go_enter Try.func145, Try.ntmps145
  go_wp2_with (first | ((with_reducible refine gate_dst (N := 1) rfl ?_); (try (refine gate_guard (by rfl) ?_; dsimp only)); refine box_event ?hg (N := 1) ?hd (cs := #[.int .i64 a0_0, .int .i64 a0_1]) (t := 71) ?hr ?_; (case hd => rfl); (case hg => rfl); (case hr => first | (go_simp; done) | (go_simp; rfl)); intro gb271 hg w15 hbox hb; have _ := A_ (below_step z3_1_ hb); have _ := A_ (hbox); have _ := A_ ((by rw [hg]; exact (below_size z3_1_) : w.heap.size ≤ gb271)); have _ := A_ ((by rw [hg]; exact (below_size z3_1_) : w.heap.size ≤ gb271)); clear HB; rename_i HB BK271 GW271 GE271; clear hb hbox hg; obtain ⟨hcz16_0, hcz16_1⟩ := bc2 BK271.out; obtain ⟨hfz16_0, hfz16_1⟩ := bf2 BK271.out) | ((with_reducible refine gate_callee (f := 62) rfl ?_); refine goesL_ (some 5) rfl rfl Try.func62 (by kernel_rfl) rfl #[.int .i64 a0_1, .int .i64 1, .int .i64 2147483648] rfl z3_4_ ?_; (with_reducible refine (impl_within.calls a0_1 1 2147483648 false _ A2.out).mono ?_); rintro e w' ⟨rfl, ⟨nd, rfl⟩⟩; refine ⟨_, rfl, ?_⟩))
  go_ret
  exact ⟨z3_6_, z3_9_⟩
end Go.Proofs.Ytpfnohdnaocpdaa.PT

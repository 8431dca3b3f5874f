import Derived.Test.YtpfnohdnaocpdaaPTx0
import Derived.Test.YtpfnohdnaocpdaaPTx2
namespace Go.Proofs.Ytpfnohdnaocpdaa.PT
open Go.RowKit Go.Proofs.YtpfnohdnaocpdaaW.PrintWords Go.Proofs.YtpfnohdnaocpdaaW.PrintLast Go.Proofs.YtpfnohdnaocpdaaW.PrintMore Go.Proofs.YtpfnohdnaocpdaaRP
attribute [local go_sem] max2_int min2_int max_two min_two max_three min_three max_four min_four Go.Proofs.YtpfnohdnaocpdaaRP.max_eight Go.Proofs.YtpfnohdnaocpdaaRP.tmod_len   -- for this text's walks alone
set_option linter.unusedVariables false
set_option linter.unusedSimpArgs false
theorem z3_1_ {P : Prop} (h : P := by repeat (first | (with_reducible first | exact HB.out | apply below_alloc | apply pw_below_drewN | apply below_drew1) | exact HB.out)) : P := h
theorem z3_2_ {P : Prop} (h : P := by (with_reducible repeat (first | apply Kd.R_alloc | apply Kd.R_drewN | apply Kd.R_drew)); exact HO_3.out) : P := h
theorem z3_3_ {P : Prop} (h : P := by (with_reducible repeat (first | apply Kd.R_alloc | apply Kd.R_drewN | apply Kd.R_drew)); exact HO168.out) : P := h
theorem z3_4_ {P : Prop} (h : P := by (try simp only [hl4_1]); (try simp only [hl4_2]); (with_reducible repeat (first | apply Kd.R_alloc | apply Kd.R_drewN | apply Kd.R_drew)); exact HO_4.out) : P := h
theorem z3_5_ {P : Prop} (h : P := by first | rfl | (simp; done) | (simp [*]; done) | (simp [isE_]; done)) : P := h
theorem z3_6_ {P : Prop} (h : P := by (with_reducible repeat (first | apply Kd.R_alloc | apply Kd.R_drewN | apply Kd.R_drew)); exact HO_4.out) : P := h
theorem z3_7_ {P : Prop} (h : P := by (try simp only [hl4_1]); (try simp only [hl4_2]); (with_reducible repeat (first | apply Kd.R_alloc | apply Kd.R_drewN | apply Kd.R_drew)); exact HO_3.out) : P := h
/-! ### spec_l06Reached: function 95 -/
mutual
def spec_l06Reached.l0 : Nat → List (S34) → List Int → List Bool → Int → Option (List Int)
 | 0, _, _, _, _ => none
 | k + 1, x0, x3, x4, x5 => if x5 < (x3.length : Int) then (if 0 < (x0.length : Int) then (if 0 ≤ x5 then (if 0 ≤ (rd x3 x5) then (if (rd x3 x5) < (((rd_T34 x0 0).f0).length : Int) then (spec_l06Reached.l1 k x0 x3 x4 x5 [rd_T89 ((rd_T34 x0 0).f0) (rd x3 x5)] 0) else (none)) else (none)) else (none)) else (none)) else (some x3)
def spec_l06Reached.l1 : Nat → List (S34) → List Int → List Bool → Int → List (S89) → Int → Option (List Int)
 | 0, _, _, _, _, _, _ => none
 | k + 1, x0, x3, x4, x5, x6, x7 => (spec_l06Ways.f x6).bind fun t178 => (if x7 < t178 then (if 0 < (x6.length : Int) then (if 0 ≤ x7 then (if x7 < 3 then (if 0 ≤ (rd [(rd_T89 x6 0).f2.f0, (rd_T89 x6 0).f2.f1, (rd_T89 x6 0).f2.f2] x7) then (if (rd [(rd_T89 x6 0).f2.f0, (rd_T89 x6 0).f2.f1, (rd_T89 x6 0).f2.f2] x7) < (x4.length : Int) then (if (rdOf false x4 (rd [(rd_T89 x6 0).f2.f0, (rd_T89 x6 0).f2.f1, (rd_T89 x6 0).f2.f2] x7) = true) then (spec_l06Reached.l1 k x0 x3 x4 x5 x6 (wrap64 (x7 + 1))) else (if x3.length < 70368744177664 then (spec_l06Reached.l1 k x0 (x3 ++ [rd [(rd_T89 x6 0).f2.f0, (rd_T89 x6 0).f2.f1, (rd_T89 x6 0).f2.f2] x7]) (x4.set ((rd [(rd_T89 x6 0).f2.f0, (rd_T89 x6 0).f2.f1, (rd_T89 x6 0).f2.f2] x7) : Int).toNat true) x5 x6 (wrap64 (x7 + 1))) else (none))) else (none)) else (none)) else (none)) else (none)) else (none)) else (spec_l06Reached.l0 k x0 x3 x4 (wrap64 (x5 + 1))))
end
def spec_l06Reached.f (k : Nat) (l0 : List (S34)) : Option (List Int) := if 0 < (l0.length : Int) then (if 0 ≤ (((rd_T34 l0 0).f0).length : Int) then (if ((((rd_T34 l0 0).f0).length : Int) : Int).toNat ≤ 281474976710656 then ((some (List.replicate ((((rd_T34 l0 0).f0).length : Int) : Int).toNat false : List Bool)).bind fun y170 => (if 0 < (y170.length : Int) then (spec_l06Reached.l0 k l0 (([0] : List Int)) (y170.set (0 : Int).toNat true) 0) else (none))) else (none)) else (none)) else (none)
theorem spec_l06Reached.mono_l : ∀ k, (∀ y0 y1 y2 y3, LeO (spec_l06Reached.l0 k y0 y1 y2 y3) (spec_l06Reached.l0 (k + 1) y0 y1 y2 y3)) ∧ (∀ y0 y1 y2 y3 y4 y5, LeO (spec_l06Reached.l1 k y0 y1 y2 y3 y4 y5) (spec_l06Reached.l1 (k + 1) y0 y1 y2 y3 y4 y5))
 | 0 => ⟨fun _ _ _ _ r h => by simp [spec_l06Reached.l0] at h, fun _ _ _ _ _ _ r h => by simp [spec_l06Reached.l1] at h⟩
 | k + 1 => by
  obtain ⟨ih0, ih1⟩ := spec_l06Reached.mono_l k
  refine ⟨?_, ?_⟩
  ·
   intro y0 y1 y2 y3
   unfold spec_l06Reached.l0
   repeat' first
   | (with_reducible exact ih0 _ _ _ _)
   | (with_reducible exact ih1 _ _ _ _ _ _)
   | (with_reducible exact LeO.refl _)
   | (with_reducible exact LeO.none _)
   | (with_reducible refine LeO.ite ?_ ?_)
   | (with_reducible refine LeO.bind ?_ (fun _ => ?_))
   | exact ih0 _ _ _ _
   | exact ih1 _ _ _ _ _ _
   | exact LeO.none _
   | refine LeO.ite ?_ ?_
   | refine LeO.bind ?_ (fun _ => ?_)
  ·
   intro y0 y1 y2 y3 y4 y5
   unfold spec_l06Reached.l1
   repeat' first
   | (with_reducible exact ih0 _ _ _ _)
   | (with_reducible exact ih1 _ _ _ _ _ _)
   | (with_reducible exact LeO.refl _)
   | (with_reducible exact LeO.none _)
   | (with_reducible refine LeO.ite ?_ ?_)
   | (with_reducible refine LeO.bind ?_ (fun _ => ?_))
   | exact ih0 _ _ _ _
   | exact ih1 _ _ _ _ _ _
   | exact LeO.none _
   | refine LeO.ite ?_ ?_
   | refine LeO.bind ?_ (fun _ => ?_)
theorem spec_l06Reached.mono : ∀ a0 k, LeO (spec_l06Reached.f k a0) (spec_l06Reached.f (k + 1) a0) := by
 intro a0 k
 obtain ⟨ih0, ih1⟩ := spec_l06Reached.mono_l k
 unfold spec_l06Reached.f
 repeat' first
   | (with_reducible exact ih0 _ _ _ _)
   | (with_reducible exact ih1 _ _ _ _ _ _)
   | (with_reducible exact LeO.refl _)
   | (with_reducible exact LeO.none _)
   | (with_reducible refine LeO.ite ?_ ?_)
   | (with_reducible refine LeO.bind ?_ (fun _ => ?_))
   | exact ih0 _ _ _ _
   | exact ih1 _ _ _ _ _ _
   | exact LeO.none _
   | refine LeO.ite ?_ ?_
   | refine LeO.bind ?_ (fun _ => ?_)
set_option maxHeartbeats 8000000 in
set_option maxRecDepth 100000 in
theorem spec_l06Reached.calls (k : Nat) (A0 : Option Addr) (c0 : Nat) (l0 : List (S34)) (r : List Int) (w : World) (hr0 : Kd.C k34 w A0 l0.length l0) (hc0 : l0.length ≤ c0) (h : spec_l06Reached.f k l0 = some r) :
  Calls Try.prog 95 #[.pointer A0] w fun e w' => ∃ v0_ : Value, e = .returned (v0_) ∧ Kd.R (Kd.int .i16) 85 w' w.heap.size (fun _ => True) v0_ r ∧ Below w.heap.size w w' := by
 have HR0 := A_ hr0
 have HC0 := A_ hc0
 clear hr0 hc0
 have HB := A_ (Below.refl w.heap.size w)
 have H : (if 0 < (l0.length : Int) then (if 0 ≤ (((rd_T34 l0 0).f0).length : Int) then (if ((((rd_T34 l0 0).f0).length : Int) : Int).toNat ≤ 281474976710656 then ((some (List.replicate ((((rd_T34 l0 0).f0).length : Int) : Int).toNat false : List Bool)).bind fun y170 => (if 0 < (y170.length : Int) then (spec_l06Reached.l0 k l0 (([0] : List Int)) (y170.set (0 : Int).toNat true) 0) else (none))) else (none)) else (none)) else (none)) = some r := h
 clear h
 obtain ⟨y166, hy166⟩ : ∃ y_ : List Int, y_ = (([0] : List Int)) := ⟨_, rfl⟩
 replace H : (if 0 < (l0.length : Int) then (if 0 ≤ (((rd_T34 l0 0).f0).length : Int) then (if ((((rd_T34 l0 0).f0).length : Int) : Int).toNat ≤ 281474976710656 then ((some (List.replicate ((((rd_T34 l0 0).f0).length : Int) : Int).toNat false : List Bool)).bind fun y170 => (if 0 < (y170.length : Int) then (spec_l06Reached.l0 k l0 y166 (y170.set (0 : Int).toNat true) 0) else (none))) else (none)) else (none)) else (none)) = some r := by first | (rw [hy166]; with_reducible exact H) | (have H2_ := (Option.bind_some _ _).symm.trans H; rw [hy166]; with_reducible exact H2_) | (have H2_ := (Option.bind_some _ _).symm.trans H; with_reducible exact H2_) | with_reducible exact H | (rw [hy166]; exact H) | exact H
 have Ny166 := A_ hy166
 clear hy166
 by_cases c2 : 0 < (l0.length : Int)
 ·
  rw [if_pos c2] at H
  have c2b0 := decide_eq_true c2
  have c2b1 : decide (0 < l0.length) = true := decide_eq_true (by omega)
  clear c2
  by_cases c3 : 0 ≤ (((rd_T34 l0 0).f0).length : Int)
  ·
   rw [if_pos c3] at H
   have c3b0 := eq_true c3
   have c3b1 := decide_eq_true c3
   clear c3
   by_cases c4 : ((((rd_T34 l0 0).f0).length : Int) : Int).toNat ≤ 281474976710656
   ·
    rw [if_pos c4] at H
    have c4b0 := eq_true c4
    have c4b1 := decide_eq_true c4
    clear c4
    obtain ⟨y170, hy170⟩ : ∃ y_ : List Bool, y_ = (List.replicate ((((rd_T34 l0 0).f0).length : Int) : Int).toNat false) := ⟨_, rfl⟩
    replace H : (if 0 < (y170.length : Int) then (spec_l06Reached.l0 k l0 y166 (y170.set (0 : Int).toNat true) 0) else (none)) = some r := by first | (rw [hy170]; with_reducible exact H) | (have H2_ := (Option.bind_some _ _).symm.trans H; rw [hy170]; with_reducible exact H2_) | (have H2_ := (Option.bind_some _ _).symm.trans H; with_reducible exact H2_) | with_reducible exact H | (rw [hy170]; exact H) | exact H
    have Ny170 := A_ hy170
    clear hy170
    by_cases c5 : 0 < (y170.length : Int)
    ·
     rw [if_pos c5] at H
     have c5b0 := decide_eq_true c5
     have c5b1 : decide (0 < y170.length) = true := decide_eq_true (by omega)
     clear c5
     obtain ⟨y173, hy173⟩ : ∃ y_ : List Bool, y_ = (y170.set (0 : Int).toNat true) := ⟨_, rfl⟩
     replace H : (spec_l06Reached.l0 k l0 y166 y173 0) = some r := by first | (rw [hy173]; with_reducible exact H) | (have H2_ := (Option.bind_some _ _).symm.trans H; rw [hy173]; with_reducible exact H2_) | (have H2_ := (Option.bind_some _ _).symm.trans H; with_reducible exact H2_) | with_reducible exact H | (rw [hy173]; exact H) | exact H
     have Ny173 := A_ hy173
     clear hy173
     have H' := A_ H
     clear H
     go_enter Try.func95, Try.ntmps95
     go_wp2_with (first | ((with_reducible refine gate_dst (N := 8) rfl ?_); refine Kd.R_lit (Kd.int .i16) _ 85 ?hg (N := 8) ?hd (xs := ([0] : List Int)) (inner := [.int .i16 0]) (ok := fun _ => True) (okp := fun _ => True) ?hr ?hp (fun _ hk => hk) trivial (Below.refl _ _) (Nat.le_refl _) (by simp) ?_; (case hd => rfl); (case hg => rfl); (case hr => first | (go_simp; done) | (go_simp; rfl)); (case hp => exact (Reps.one (show Kd.M (Kd.int .i16) _ _ _ 0 [.int .i16 0] from rfl) (Reps.none _ _))); intro v167 w7 ho8 hb hg_ hnew_; clear hg_ hnew_; (first | rw [← Ny166.out] at ho8 | (simp only [Int.reduceToNat] at ho8; rw [← Ny166.out] at ho8)); have _ := A_ (Kd.R_lower ho8 (below_size z3_1_)); have _ := A_ (below_step z3_1_ hb); clear HB; rename_i HO168 HB; clear hb ho8; have q169 : 0 < (l0.length : Int) := of_decide_eq_true (by assumption); obtain ⟨ad169, A169_0, c169_0, e169, hx169_0, hl169_0, hi169_0⟩ := rp_T34 HR0.out q169; cases e169; replace hx169_0 := cel HB.out hx169_0; have HR169_0 := A_ hi169_0; have HC169_0 := A_ hl169_0; clear hi169_0 hl169_0) | ((with_reducible refine gate_dst (N := 14) rfl ?_); refine Kd.R_make Kd.bool _ 4 rfl (N := 14) rfl 190 _ _ rfl (((rd_T34 l0 0).f0).length : Int) rfl rfl Try.underlying190 (.bool false) 1 info4 rfl (by decide) (by omega) false (ok := fun _ => True) (okp := fun _ => True) rfl (fun _ hk => hk) trivial (of_decide_eq_true (by assumption)) (Nat.le_trans (Nat.mul_le_mul_right _ (of_decide_eq_true (by assumption) : (((rd_T34 l0 0).f0).length : Int).toNat ≤ 281474976710656)) (by omega)) (Below.refl _ _) (Nat.le_refl _) ?_; intro v171 w9 ho10 hb hg_ hnew_; clear hg_ hnew_; (first | rw [← Ny170.out] at ho10 | (simp only [Int.reduceToNat] at ho10; rw [← Ny170.out] at ho10)); have _ := A_ (Kd.R_below z3_3_ hb); have _ := A_ (Kd.R_lower ho10 (below_size z3_1_)); have _ := A_ (below_step z3_1_ hb); clear HO168 HB; rename_i HO168 HO172 HB; clear hb ho10; have p6 : 0 ≤ (0 : Int) := (by omega); have q6 : (0 : Int) < ((y170.length : Int) : Int) := of_decide_eq_true (by assumption); have qi6 : (0 < y170.length) = True := eq_true (by omega); obtain ⟨go6, co6, eo6, gb6, gl6, cl6, HG6⟩ := Kd.R_form HO172.out (by omega); (first | cases eo6 | (injection eo6 with ea_ en_ ec_; (first | subst ea_ | (injection ea_ with ea_; subst ea_)); subst ec_; clear en_)); have GB6 := A_ gb6; have GG6 := A_ HG6; clear gb6 gl6 HG6; obtain ⟨hx6_0, hf6_0⟩ := Kd.R_celln false HO172.out (0 : Int) p6 q6; (try rw [show ((0 : Int)).toNat = 0 from rfl] at hx6_0); (try simp only [Nat.reduceMul, Nat.zero_mul, Nat.zero_add, Nat.reduceAdd] at hx6_0); (try rw [show ((0 : Int)).toNat = 0 from rfl] at hf6_0); (try simp only [Nat.reduceMul, Nat.zero_mul, Nat.zero_add, Nat.reduceAdd] at hf6_0); replace p6 := eq_true p6; replace q6 := eq_true q6; obtain ⟨hy11_, hz11_⟩ := Kd.R_celln false HO172.out (0 : Int) (by omega) (of_decide_eq_true (by assumption)); (try simp only [Int.reduceToNat, Int.toNat_zero, Int.toNat_ofNat, Nat.reduceMul, Nat.zero_mul, Nat.zero_add] at hy11_ hz11_); (try rw [show ((0 : Int)).toNat = 0 from rfl] at hy11_); (try rw [show ((0 : Int)).toNat = 0 from rfl] at hz11_); have HP11 := Kd.R_putg HO172.out (0 : Int) true) | ((with_reducible refine gate_store (t := 4) (p := 16) rfl ?_); (try (rw [drewN_self w9]; generalize hq_ : World.drewN w9 _ = w9; have _ := A_ (Kd.R_at hq_ HO168.out); have _ := A_ (Kd.R_at hq_ HO172.out); have _ := A_ (below_at hq_ HB.out); clear hq_ HO168 HO172 HB; rename_i HO168 HO172 HB; (try (obtain ⟨hy11_, hz11_⟩ := Kd.R_celln false HO172.out (0 : Int) (by omega) (of_decide_eq_true (by assumption)))); (try (try simp only [Int.reduceToNat, Int.toNat_zero, Int.toNat_ofNat, Nat.reduceMul, Nat.zero_mul, Nat.zero_add] at hy11_ hz11_)); (try (try rw [show ((0 : Int)).toNat = 0 from rfl] at hy11_)); (try (try rw [show ((0 : Int)).toNat = 0 from rfl] at hz11_)); (try (have HP11 := Kd.R_putg HO172.out (0 : Int) true)))); refine store_event (t := 4) (p := 16) (v := ?vo_w12) (w1 := (w9.setCell ⟨go6, (0 : Int).toNat, none⟩ (.bool true))) ?hg ?ho ?hn ?hr ?_; (case ho => rfl); (case hg => rfl); (case hn => rfl); (case hr => first | (go_simp; done) | (go_simp; rfl)); intro w12 hw; have hg : w9.grownBy w12 (some go6) := (by rw [hw]; exact HP11.2); have hp_ : Kd.R Kd.bool 4 w12 w.heap.size (fun _ => True) (.slice (some ⟨go6, 0, none⟩) y170.length co6) y173 := (by rw [hw, Ny173.out]; exact HP11.1); clear HP11; have _ := A_ (Kd.R_over' (v := (.slice (some ⟨go6, 0, none⟩) y170.length co6)) z3_3_ (Kd.R_typed HO172.out) (by decide) hg); have _ := A_ (hp_); have _ := A_ ((by rw [hw]; exact below_set (HB.out) GB6.out : Below w.heap.size w w12)); clear HO168 HO172 HB; rename_i HO168 HO172 HB; clear hg hw hp_))
     repeat (go_quiet (first | ((with_reducible refine gate_dst (N := 8) rfl ?_); refine Kd.R_lit (Kd.int .i16) _ 85 ?hg (N := 8) ?hd (xs := ([0] : List Int)) (inner := [.int .i16 0]) (ok := fun _ => True) (okp := fun _ => True) ?hr ?hp (fun _ hk => hk) trivial (Below.refl _ _) (Nat.le_refl _) (by simp) ?_; (case hd => rfl); (case hg => rfl); (case hr => first | (go_simp; done) | (go_simp; rfl)); (case hp => exact (Reps.one (show Kd.M (Kd.int .i16) _ _ _ 0 [.int .i16 0] from rfl) (Reps.none _ _))); intro v167 w7 ho8 hb hg_ hnew_; clear hg_ hnew_; (first | rw [← Ny166.out] at ho8 | (simp only [Int.reduceToNat] at ho8; rw [← Ny166.out] at ho8)); have _ := A_ (Kd.R_lower ho8 (below_size z3_1_)); have _ := A_ (below_step z3_1_ hb); clear HB; rename_i HO168 HB; clear hb ho8; have q169 : 0 < (l0.length : Int) := of_decide_eq_true (by assumption); obtain ⟨ad169, A169_0, c169_0, e169, hx169_0, hl169_0, hi169_0⟩ := rp_T34 HR0.out q169; cases e169; replace hx169_0 := cel HB.out hx169_0; have HR169_0 := A_ hi169_0; have HC169_0 := A_ hl169_0; clear hi169_0 hl169_0) | ((with_reducible refine gate_dst (N := 14) rfl ?_); refine Kd.R_make Kd.bool _ 4 rfl (N := 14) rfl 190 _ _ rfl (((rd_T34 l0 0).f0).length : Int) rfl rfl Try.underlying190 (.bool false) 1 info4 rfl (by decide) (by omega) false (ok := fun _ => True) (okp := fun _ => True) rfl (fun _ hk => hk) trivial (of_decide_eq_true (by assumption)) (Nat.le_trans (Nat.mul_le_mul_right _ (of_decide_eq_true (by assumption) : (((rd_T34 l0 0).f0).length : Int).toNat ≤ 281474976710656)) (by omega)) (Below.refl _ _) (Nat.le_refl _) ?_; intro v171 w9 ho10 hb hg_ hnew_; clear hg_ hnew_; (first | rw [← Ny170.out] at ho10 | (simp only [Int.reduceToNat] at ho10; rw [← Ny170.out] at ho10)); have _ := A_ (Kd.R_below z3_3_ hb); have _ := A_ (Kd.R_lower ho10 (below_size z3_1_)); have _ := A_ (below_step z3_1_ hb); clear HO168 HB; rename_i HO168 HO172 HB; clear hb ho10; have p6 : 0 ≤ (0 : Int) := (by omega); have q6 : (0 : Int) < ((y170.length : Int) : Int) := of_decide_eq_true (by assumption); have qi6 : (0 < y170.length) = True := eq_true (by omega); obtain ⟨go6, co6, eo6, gb6, gl6, cl6, HG6⟩ := Kd.R_form HO172.out (by omega); (first | cases eo6 | (injection eo6 with ea_ en_ ec_; (first | subst ea_ | (injection ea_ with ea_; subst ea_)); subst ec_; clear en_)); have GB6 := A_ gb6; have GG6 := A_ HG6; clear gb6 gl6 HG6; obtain ⟨hx6_0, hf6_0⟩ := Kd.R_celln false HO172.out (0 : Int) p6 q6; (try rw [show ((0 : Int)).toNat = 0 from rfl] at hx6_0); (try simp only [Nat.reduceMul, Nat.zero_mul, Nat.zero_add, Nat.reduceAdd] at hx6_0); (try rw [show ((0 : Int)).toNat = 0 from rfl] at hf6_0); (try simp only [Nat.reduceMul, Nat.zero_mul, Nat.zero_add, Nat.reduceAdd] at hf6_0); replace p6 := eq_true p6; replace q6 := eq_true q6; obtain ⟨hy11_, hz11_⟩ := Kd.R_celln false HO172.out (0 : Int) (by omega) (of_decide_eq_true (by assumption)); (try simp only [Int.reduceToNat, Int.toNat_zero, Int.toNat_ofNat, Nat.reduceMul, Nat.zero_mul, Nat.zero_add] at hy11_ hz11_); (try rw [show ((0 : Int)).toNat = 0 from rfl] at hy11_); (try rw [show ((0 : Int)).toNat = 0 from rfl] at hz11_); have HP11 := Kd.R_putg HO172.out (0 : Int) true) | ((with_reducible refine gate_store (t := 4) (p := 16) rfl ?_); (try (rw [drewN_self w9]; generalize hq_ : World.drewN w9 _ = w9; have _ := A_ (Kd.R_at hq_ HO168.out); have _ := A_ (Kd.R_at hq_ HO172.out); have _ := A_ (below_at hq_ HB.out); clear hq_ HO168 HO172 HB; rename_i HO168 HO172 HB; (try (obtain ⟨hy11_, hz11_⟩ := Kd.R_celln false HO172.out (0 : Int) (by omega) (of_decide_eq_true (by assumption)))); (try (try simp only [Int.reduceToNat, Int.toNat_zero, Int.toNat_ofNat, Nat.reduceMul, Nat.zero_mul, Nat.zero_add] at hy11_ hz11_)); (try (try rw [show ((0 : Int)).toNat = 0 from rfl] at hy11_)); (try (try rw [show ((0 : Int)).toNat = 0 from rfl] at hz11_)); (try (have HP11 := Kd.R_putg HO172.out (0 : Int) true)))); refine store_event (t := 4) (p := 16) (v := ?vo_w12) (w1 := (w9.setCell ⟨go6, (0 : Int).toNat, none⟩ (.bool true))) ?hg ?ho ?hn ?hr ?_; (case ho => rfl); (case hg => rfl); (case hn => rfl); (case hr => first | (go_simp; done) | (go_simp; rfl)); intro w12 hw; have hg : w9.grownBy w12 (some go6) := (by rw [hw]; exact HP11.2); have hp_ : Kd.R Kd.bool 4 w12 w.heap.size (fun _ => True) (.slice (some ⟨go6, 0, none⟩) y170.length co6) y173 := (by rw [hw, Ny173.out]; exact HP11.1); clear HP11; have _ := A_ (Kd.R_over' (v := (.slice (some ⟨go6, 0, none⟩) y170.length co6)) z3_3_ (Kd.R_typed HO172.out) (by decide) hg); have _ := A_ (hp_); have _ := A_ ((by rw [hw]; exact below_set (HB.out) GB6.out : Below w.heap.size w w12)); clear HO168 HO172 HB; rename_i HO168 HO172 HB; clear hg hw hp_)); try go_wp2_with (first | ((with_reducible refine gate_dst (N := 8) rfl ?_); refine Kd.R_lit (Kd.int .i16) _ 85 ?hg (N := 8) ?hd (xs := ([0] : List Int)) (inner := [.int .i16 0]) (ok := fun _ => True) (okp := fun _ => True) ?hr ?hp (fun _ hk => hk) trivial (Below.refl _ _) (Nat.le_refl _) (by simp) ?_; (case hd => rfl); (case hg => rfl); (case hr => first | (go_simp; done) | (go_simp; rfl)); (case hp => exact (Reps.one (show Kd.M (Kd.int .i16) _ _ _ 0 [.int .i16 0] from rfl) (Reps.none _ _))); intro v167 w7 ho8 hb hg_ hnew_; clear hg_ hnew_; (first | rw [← Ny166.out] at ho8 | (simp only [Int.reduceToNat] at ho8; rw [← Ny166.out] at ho8)); have _ := A_ (Kd.R_lower ho8 (below_size z3_1_)); have _ := A_ (below_step z3_1_ hb); clear HB; rename_i HO168 HB; clear hb ho8; have q169 : 0 < (l0.length : Int) := of_decide_eq_true (by assumption); obtain ⟨ad169, A169_0, c169_0, e169, hx169_0, hl169_0, hi169_0⟩ := rp_T34 HR0.out q169; cases e169; replace hx169_0 := cel HB.out hx169_0; have HR169_0 := A_ hi169_0; have HC169_0 := A_ hl169_0; clear hi169_0 hl169_0) | ((with_reducible refine gate_dst (N := 14) rfl ?_); refine Kd.R_make Kd.bool _ 4 rfl (N := 14) rfl 190 _ _ rfl (((rd_T34 l0 0).f0).length : Int) rfl rfl Try.underlying190 (.bool false) 1 info4 rfl (by decide) (by omega) false (ok := fun _ => True) (okp := fun _ => True) rfl (fun _ hk => hk) trivial (of_decide_eq_true (by assumption)) (Nat.le_trans (Nat.mul_le_mul_right _ (of_decide_eq_true (by assumption) : (((rd_T34 l0 0).f0).length : Int).toNat ≤ 281474976710656)) (by omega)) (Below.refl _ _) (Nat.le_refl _) ?_; intro v171 w9 ho10 hb hg_ hnew_; clear hg_ hnew_; (first | rw [← Ny170.out] at ho10 | (simp only [Int.reduceToNat] at ho10; rw [← Ny170.out] at ho10)); have _ := A_ (Kd.R_below z3_3_ hb); have _ := A_ (Kd.R_lower ho10 (below_size z3_1_)); have _ := A_ (below_step z3_1_ hb); clear HO168 HB; rename_i HO168 HO172 HB; clear hb ho10; have p6 : 0 ≤ (0 : Int) := (by omega); have q6 : (0 : Int) < ((y170.length : Int) : Int) := of_decide_eq_true (by assumption); have qi6 : (0 < y170.length) = True := eq_true (by omega); obtain ⟨go6, co6, eo6, gb6, gl6, cl6, HG6⟩ := Kd.R_form HO172.out (by omega); (first | cases eo6 | (injection eo6 with ea_ en_ ec_; (first | subst ea_ | (injection ea_ with ea_; subst ea_)); subst ec_; clear en_)); have GB6 := A_ gb6; have GG6 := A_ HG6; clear gb6 gl6 HG6; obtain ⟨hx6_0, hf6_0⟩ := Kd.R_celln false HO172.out (0 : Int) p6 q6; (try rw [show ((0 : Int)).toNat = 0 from rfl] at hx6_0); (try simp only [Nat.reduceMul, Nat.zero_mul, Nat.zero_add, Nat.reduceAdd] at hx6_0); (try rw [show ((0 : Int)).toNat = 0 from rfl] at hf6_0); (try simp only [Nat.reduceMul, Nat.zero_mul, Nat.zero_add, Nat.reduceAdd] at hf6_0); replace p6 := eq_true p6; replace q6 := eq_true q6; obtain ⟨hy11_, hz11_⟩ := Kd.R_celln false HO172.out (0 : Int) (by omega) (of_decide_eq_true (by assumption)); (try simp only [Int.reduceToNat, Int.toNat_zero, Int.toNat_ofNat, Nat.reduceMul, Nat.zero_mul, Nat.zero_add] at hy11_ hz11_); (try rw [show ((0 : Int)).toNat = 0 from rfl] at hy11_); (try rw [show ((0 : Int)).toNat = 0 from rfl] at hz11_); have HP11 := Kd.R_putg HO172.out (0 : Int) true) | ((with_reducible refine gate_store (t := 4) (p := 16) rfl ?_); (try (rw [drewN_self w9]; generalize hq_ : World.drewN w9 _ = w9; have _ := A_ (Kd.R_at hq_ HO168.out); have _ := A_ (Kd.R_at hq_ HO172.out); have _ := A_ (below_at hq_ HB.out); clear hq_ HO168 HO172 HB; rename_i HO168 HO172 HB; (try (obtain ⟨hy11_, hz11_⟩ := Kd.R_celln false HO172.out (0 : Int) (by omega) (of_decide_eq_true (by assumption)))); (try (try simp only [Int.reduceToNat, Int.toNat_zero, Int.toNat_ofNat, Nat.reduceMul, Nat.zero_mul, Nat.zero_add] at hy11_ hz11_)); (try (try rw [show ((0 : Int)).toNat = 0 from rfl] at hy11_)); (try (try rw [show ((0 : Int)).toNat = 0 from rfl] at hz11_)); (try (have HP11 := Kd.R_putg HO172.out (0 : Int) true)))); refine store_event (t := 4) (p := 16) (v := ?vo_w12) (w1 := (w9.setCell ⟨go6, (0 : Int).toNat, none⟩ (.bool true))) ?hg ?ho ?hn ?hr ?_; (case ho => rfl); (case hg => rfl); (case hn => rfl); (case hr => first | (go_simp; done) | (go_simp; rfl)); intro w12 hw; have hg : w9.grownBy w12 (some go6) := (by rw [hw]; exact HP11.2); have hp_ : Kd.R Kd.bool 4 w12 w.heap.size (fun _ => True) (.slice (some ⟨go6, 0, none⟩) y170.length co6) y173 := (by rw [hw, Ny173.out]; exact HP11.1); clear HP11; have _ := A_ (Kd.R_over' (v := (.slice (some ⟨go6, 0, none⟩) y170.length co6)) z3_3_ (Kd.R_typed HO172.out) (by decide) hg); have _ := A_ (hp_); have _ := A_ ((by rw [hw]; exact below_set (HB.out) GB6.out : Below w.heap.size w w12)); clear HO168 HO172 HB; rename_i HO168 HO172 HB; clear hg hw hp_)))
     go_loopg [3, 5] k (fun kq v3 v5 w' => ∃ (x3_1 : List Int) (x4_1 : List Bool) (x5_1 : Int), v5 = .int .i64 x5_1 ∧ Aside0 (spec_l06Reached.l0 kq l0 x3_1 x4_1 x5_1 = some r) ∧ Aside0 (kq ≤ k) ∧ Aside0 (Kd.R (Kd.int .i16) 85 w' w.heap.size (fun _ => True) v3 x3_1) ∧ Aside0 (Kd.R Kd.bool 4 w' w.heap.size (fun _ => True) (.slice (some ⟨go6, 0, none⟩) y170.length co6) x4_1) ∧ Aside0 (Below w.heap.size w w'))
     case atStart => exact ⟨(y166), (y173), (0), z3_5_, H', ⟨Nat.le_refl _⟩, ⟨z3_3_⟩, ⟨(by (with_reducible repeat (first | apply Kd.R_alloc | apply Kd.R_drewN | apply Kd.R_drew)); exact HO172.out)⟩, ⟨z3_1_⟩⟩
     case round =>
      clear H'
      try clear c1
      try clear q1
      try clear hx1
      try clear c2
      try clear c2b0
      try clear c2b1
      try clear p2
      try clear c3
      try clear c3b0
      try clear c3b1
      try clear c4
      try clear c4b0
      try clear c4b1
      try clear c5
      try clear c5b0
      try clear c5b1
      try clear p6
      try clear q6
      try clear hx6
      try clear qi6
      try clear hf6
      try clear c9
      try clear hx169_0
      try clear hx6_0
      try clear p6
      try clear q169
      try clear q6
      obtain ⟨x3_1, x4_1, x5_1, rfl, HA, HK1, HO_3, HO_4, HB⟩ := hrel
      have hl4_1 := (Kd.R_reads' HO_4.out).1
      rw [hl4_1] at HO_4
      (try simp only [hl4_1])
      (try simp only [hl4_1] at HO_3)
      cases gk with
      | zero => exact absurd HA.out (by simp [spec_l06Reached.l0])
      | succ k1 =>
       have H := HA.out
       clear HA
       simp only [spec_l06Reached.l0] at H
       (repeat (first | rw [rd1_T89] at H))
       by_cases c13 : x5_1 < (x3_1.length : Int)
       ·
        rw [if_pos c13] at H
        have c13b0 := decide_eq_true c13
        clear c13
        by_cases c14 : 0 < (l0.length : Int)
        ·
         rw [if_pos c14] at H
         have c14b0 := decide_eq_true c14
         have c14b1 : decide (0 < l0.length) = true := decide_eq_true (by omega)
         clear c14
         by_cases c15 : 0 ≤ x5_1
         ·
          rw [if_pos c15] at H
          have c15b0 := decide_eq_true c15
          clear c15
          by_cases c16 : 0 ≤ (rd x3_1 x5_1)
          ·
           rw [if_pos c16] at H
           have c16b0 := decide_eq_true c16
           clear c16
           by_cases c17 : (rd x3_1 x5_1) < (((rd_T34 l0 0).f0).length : Int)
           ·
            rw [if_pos c17] at H
            have c17b0 := decide_eq_true c17
            clear c17
            have H' := A_ H
            clear H
            obtain ⟨Ao18, co18, eo18⟩ := Kd.R_slice HO_3.out
            subst eo18
            have q174 : 0 < (l0.length : Int) := of_decide_eq_true (by assumption)
            obtain ⟨ad174, A174_0, c174_0, e174, hx174_0, hl174_0, hi174_0⟩ := rp_T34 HR0.out q174
            obtain rfl : ad169 = ad174 := (by injection e174)
            replace hx174_0 := cel HB.out hx174_0
            have HR174_0 := A_ hi174_0
            have HC174_0 := A_ hl174_0
            clear hi174_0 hl174_0
            have p175 : 0 ≤ (x5_1 : Int) := of_decide_eq_true (by assumption)
            have q175 : x5_1 < (x3_1.length : Int) := of_decide_eq_true (by assumption)
            obtain ⟨ad175, e175, hx175_0⟩ := Kd.at_int (Kd.R_reads' HO_3.out).2.2 x5_1 p175 q175
            cases e175
            replace p175 := eq_true p175
            replace q175 := eq_true q175
            have p176 : 0 ≤ ((rd x3_1 x5_1) : Int) := of_decide_eq_true (by assumption)
            have q176 : (rd x3_1 x5_1) < (((rd_T34 l0 0).f0).length : Int) := of_decide_eq_true (by assumption)
            obtain ⟨ad176, e176, hx176_0, hx176_1, hx176_2, hx176_3, hx176_4⟩ := at_T89 HR174_0.out (rd x3_1 x5_1) p176 q176
            cases e176
            replace hx176_0 := cel HB.out hx176_0
            replace hx176_1 := cel HB.out hx176_1
            replace hx176_2 := cel HB.out hx176_2
            replace hx176_3 := cel HB.out hx176_3
            replace hx176_4 := cel HB.out hx176_4
            replace p176 := eq_true p176
            replace q176 := eq_true q176
            have HR177 := A_ (show Kd.C k89 w (some (Addr.add ad176 ((rd x3_1 x5_1).toNat * 5))) [rd_T89 ((rd_T34 l0 0).f0) (rd x3_1 x5_1)].length [rd_T89 ((rd_T34 l0 0).f0) (rd x3_1 x5_1)] from Kd.C_el k89 z89 HR174_0.out ((rd x3_1 x5_1) : Int) (of_eq_true p176) (of_eq_true q176))
            go_wp2
            repeat (go_quiet (fail); try go_wp2)
            go_loopg [3, 7] k1 (fun kq v3 v7 w' => ∃ (x3_2 : List Int) (x4_2 : List Bool) (x7_2 : Int), v7 = .int .i64 x7_2 ∧ Aside0 (spec_l06Reached.l1 kq l0 x3_2 x4_2 x5_1 [rd_T89 ((rd_T34 l0 0).f0) (rd x3_1 x5_1)] x7_2 = some r) ∧ Aside0 (kq ≤ k1) ∧ Aside0 (Kd.R (Kd.int .i16) 85 w' w.heap.size (fun _ => True) v3 x3_2) ∧ Aside0 (Kd.R Kd.bool 4 w' w.heap.size (fun _ => True) (.slice (some ⟨go6, 0, none⟩) x4_1.length co6) x4_2) ∧ Aside0 (Below w.heap.size w w'))
            case atStart => exact ⟨(x3_1), (x4_1), (0), z3_5_, H', ⟨Nat.le_refl _⟩, ⟨(by (try simp only [hl4_1]); (with_reducible repeat (first | apply Kd.R_alloc | apply Kd.R_drewN | apply Kd.R_drew)); exact HO_3.out)⟩, ⟨(by (try simp only [hl4_1]); (with_reducible repeat (first | apply Kd.R_alloc | apply Kd.R_drewN | apply Kd.R_drew)); exact HO_4.out)⟩, ⟨z3_1_⟩⟩
            case round =>
             clear H'
             try clear c1
             try clear p1
             try clear q1
             try clear hx1
             try clear c2
             try clear c2b0
             try clear c2b1
             try clear p2
             try clear c3
             try clear c3b0
             try clear c3b1
             try clear c4
             try clear c4b0
             try clear c4b1
             try clear c5
             try clear c5b0
             try clear c5b1
             try clear p6
             try clear q6
             try clear hx6
             try clear qi6
             try clear hf6
             try clear c9
             try clear c13
             try clear c13b0
             try clear c14
             try clear c14b0
             try clear c14b1
             try clear c15
             try clear c15b0
             try clear c16
             try clear c16b0
             try clear q16
             try clear hx16
             try clear c17
             try clear c17b0
             try clear p17
             try clear q17
             try clear hx17
             try clear hx169_0
             try clear hx174_0
             try clear hx175_0
             try clear hx176_0
             try clear hx176_1
             try clear hx176_2
             try clear hx176_3
             try clear hx176_4
             try clear hx6_0
             try clear p175
             try clear p176
             try clear p2
             try clear p6
             try clear q1
             try clear q169
             try clear q174
             try clear q175
             try clear q176
             try clear q6
             obtain ⟨x3_2, x4_2, x7_2, rfl, HA, HK2, HO_3, HO_4, HB⟩ := hrel
             have hl4_2 := (Kd.R_reads' HO_4.out).1
             rw [hl4_2] at HO_4
             (try simp only [hl4_2])
             (try simp only [hl4_2] at HO_3)
             cases gk with
             | zero => exact absurd HA.out (by simp [spec_l06Reached.l1])
             | succ k2 =>
              have H := HA.out
              clear HA
              simp only [spec_l06Reached.l1] at H
              (repeat (first | rw [rd1_T89] at H))
              replace H := Option.bind_eq_some_iff.mp H
              obtain ⟨t178, A190, H⟩ := H
              try dsimp only at H
              have A19 := A_ A190
              clear A190
              by_cases c20 : x7_2 < t178
              ·
               rw [if_pos c20] at H
               have c20b0 := decide_eq_true c20
               clear c20
               by_cases c21 : 0 < ([rd_T89 ((rd_T34 l0 0).f0) (rd x3_1 x5_1)].length : Int)
               ·
                rw [if_pos c21] at H
                have c21b0 := decide_eq_true c21
                have c21b1 : decide (0 < [rd_T89 ((rd_T34 l0 0).f0) (rd x3_1 x5_1)].length) = true := decide_eq_true (by omega)
                clear c21
                by_cases c22 : 0 ≤ x7_2
                ·
                 rw [if_pos c22] at H
                 have c22b0 := decide_eq_true c22
                 clear c22
                 by_cases c23 : x7_2 < 3
                 ·
                  rw [if_pos c23] at H
                  have c23b0 := decide_eq_true c23
                  clear c23
                  by_cases c24 : 0 ≤ (rd [(rd_T89 ((rd_T34 l0 0).f0) (rd x3_1 x5_1)).f2.f0, (rd_T89 ((rd_T34 l0 0).f0) (rd x3_1 x5_1)).f2.f1, (rd_T89 ((rd_T34 l0 0).f0) (rd x3_1 x5_1)).f2.f2] x7_2)
                  ·
                   rw [if_pos c24] at H
                   have c24b0 := decide_eq_true c24
                   clear c24
                   by_cases c25 : (rd [(rd_T89 ((rd_T34 l0 0).f0) (rd x3_1 x5_1)).f2.f0, (rd_T89 ((rd_T34 l0 0).f0) (rd x3_1 x5_1)).f2.f1, (rd_T89 ((rd_T34 l0 0).f0) (rd x3_1 x5_1)).f2.f2] x7_2) < (x4_2.length : Int)
                   ·
                    rw [if_pos c25] at H
                    have c25b0 := decide_eq_true c25
                    clear c25
                    obtain ⟨bq26, hbq26⟩ : ∃ b_ : Bool, b_ = (rdOf false x4_2 (rd [(rd_T89 ((rd_T34 l0 0).f0) (rd x3_1 x5_1)).f2.f0, (rd_T89 ((rd_T34 l0 0).f0) (rd x3_1 x5_1)).f2.f1, (rd_T89 ((rd_T34 l0 0).f0) (rd x3_1 x5_1)).f2.f2] x7_2)) := ⟨_, rfl⟩
                    replace H : (if (bq26 = true) then (spec_l06Reached.l1 k2 l0 x3_2 x4_2 x5_1 [rd_T89 ((rd_T34 l0 0).f0) (rd x3_1 x5_1)] (wrap64 (x7_2 + 1))) else (if x3_2.length < 70368744177664 then (spec_l06Reached.l1 k2 l0 (x3_2 ++ [rd [(rd_T89 ((rd_T34 l0 0).f0) (rd x3_1 x5_1)).f2.f0, (rd_T89 ((rd_T34 l0 0).f0) (rd x3_1 x5_1)).f2.f1, (rd_T89 ((rd_T34 l0 0).f0) (rd x3_1 x5_1)).f2.f2] x7_2]) (x4_2.set ((rd [(rd_T89 ((rd_T34 l0 0).f0) (rd x3_1 x5_1)).f2.f0, (rd_T89 ((rd_T34 l0 0).f0) (rd x3_1 x5_1)).f2.f1, (rd_T89 ((rd_T34 l0 0).f0) (rd x3_1 x5_1)).f2.f2] x7_2) : Int).toNat true) x5_1 [rd_T89 ((rd_T34 l0 0).f0) (rd x3_1 x5_1)] (wrap64 (x7_2 + 1))) else (none))) = some r := by rw [← hbq26] at H; exact H
                    have Nbq26 := A_ hbq26
                    clear hbq26
                    by_cases c27 : (bq26 = true)
                    ·
                     subst c27
                     have H1 := H; rw [if_pos rfl] at H1
                     clear H
                     have H := H1
                     clear H1
                     have H' := A_ H
                     clear H
                     go_wp2_with (first | (go_at_call 68; (with_reducible refine (spec_l06Ways.calls _ ([rd_T89 ((rd_T34 l0 0).f0) (rd x3_1 x5_1)]).length [rd_T89 ((rd_T34 l0 0).f0) (rd x3_1 x5_1)] t178 _ ?side1 ?side2 A19.out).mono ?_); (case side1 => have hx_ := (Kd.C_below HR177.out HB.out); exact kc_); (case side2 => exact Nat.le_refl _); rintro e w' ⟨rfl, ⟨nd, rfl⟩⟩; (try first | exact ⟨rfl, _, World.drewN_drewN _ _ _⟩ | exact ⟨rfl, _, Eq.trans (World.drewN_drewN _ _ _) (congrArg (World.drewN _) (Nat.add_assoc _ _ _))⟩); have q179 : 0 < ([rd_T89 ((rd_T34 l0 0).f0) (rd x3_1 x5_1)].length : Int) := of_decide_eq_true (by assumption); obtain ⟨ad179, e179, hx179_0, hx179_1, hx179_2, hx179_3, hx179_4⟩ := rp_T89 HR177.out q179; (try simp only [rd1_T89] at hx179_0 hx179_1 hx179_2 hx179_3 hx179_4); obtain rfl : (Addr.add ad176 ((rd x3_1 x5_1).toNat * 5)) = ad179 := (by injection e179); replace hx179_0 := cel HB.out hx179_0; replace hx179_1 := cel HB.out hx179_1; replace hx179_2 := cel HB.out hx179_2; replace hx179_3 := cel HB.out hx179_3; replace hx179_4 := cel HB.out hx179_4; have p180 : 0 ≤ (x7_2 : Int) := of_decide_eq_true (by assumption); have q180 : (x7_2 : Int) < 3 := of_decide_eq_true (by assumption); have hx180_0 := cell_arr3 hx179_2 hx179_3 hx179_4 x7_2 p180 q180; (try simp only [Nat.zero_add, Nat.add_zero] at hx180_0); replace p180 := eq_true p180; replace q180 := eq_true q180; have p181 : 0 ≤ ((rd [(rd_T89 ((rd_T34 l0 0).f0) (rd x3_1 x5_1)).f2.f0, (rd_T89 ((rd_T34 l0 0).f0) (rd x3_1 x5_1)).f2.f1, (rd_T89 ((rd_T34 l0 0).f0) (rd x3_1 x5_1)).f2.f2] x7_2) : Int) := of_decide_eq_true (by assumption); have q181 : (rd [(rd_T89 ((rd_T34 l0 0).f0) (rd x3_1 x5_1)).f2.f0, (rd_T89 ((rd_T34 l0 0).f0) (rd x3_1 x5_1)).f2.f1, (rd_T89 ((rd_T34 l0 0).f0) (rd x3_1 x5_1)).f2.f2] x7_2) < (x4_2.length : Int) := of_decide_eq_true (by assumption); obtain ⟨ad181, e181, hx181_0⟩ := Kd.at_bool (Kd.R_reads' HO_4.out).2.2 (rd [(rd_T89 ((rd_T34 l0 0).f0) (rd x3_1 x5_1)).f2.f0, (rd_T89 ((rd_T34 l0 0).f0) (rd x3_1 x5_1)).f2.f1, (rd_T89 ((rd_T34 l0 0).f0) (rd x3_1 x5_1)).f2.f2] x7_2) p181 q181; (try rw [← Nbq26.out] at hx181_0); obtain rfl : (⟨go6, 0, none⟩ : Addr) = ad181 := (by injection e181); (first | simp only [add_plain] at hx181_0 | simp only [add_at] at hx181_0 | simp only [Addr.add, Nat.zero_add] at hx181_0 | skip); replace p181 := eq_true p181; replace q181 := eq_true q181))
                     repeat (go_quiet (first | (go_at_call 68; (with_reducible refine (spec_l06Ways.calls _ ([rd_T89 ((rd_T34 l0 0).f0) (rd x3_1 x5_1)]).length [rd_T89 ((rd_T34 l0 0).f0) (rd x3_1 x5_1)] t178 _ ?side1 ?side2 A19.out).mono ?_); (case side1 => have hx_ := (Kd.C_below HR177.out HB.out); exact kc_); (case side2 => exact Nat.le_refl _); rintro e w' ⟨rfl, ⟨nd, rfl⟩⟩; (try first | exact ⟨rfl, _, World.drewN_drewN _ _ _⟩ | exact ⟨rfl, _, Eq.trans (World.drewN_drewN _ _ _) (congrArg (World.drewN _) (Nat.add_assoc _ _ _))⟩); have q179 : 0 < ([rd_T89 ((rd_T34 l0 0).f0) (rd x3_1 x5_1)].length : Int) := of_decide_eq_true (by assumption); obtain ⟨ad179, e179, hx179_0, hx179_1, hx179_2, hx179_3, hx179_4⟩ := rp_T89 HR177.out q179; (try simp only [rd1_T89] at hx179_0 hx179_1 hx179_2 hx179_3 hx179_4); obtain rfl : (Addr.add ad176 ((rd x3_1 x5_1).toNat * 5)) = ad179 := (by injection e179); replace hx179_0 := cel HB.out hx179_0; replace hx179_1 := cel HB.out hx179_1; replace hx179_2 := cel HB.out hx179_2; replace hx179_3 := cel HB.out hx179_3; replace hx179_4 := cel HB.out hx179_4; have p180 : 0 ≤ (x7_2 : Int) := of_decide_eq_true (by assumption); have q180 : (x7_2 : Int) < 3 := of_decide_eq_true (by assumption); have hx180_0 := cell_arr3 hx179_2 hx179_3 hx179_4 x7_2 p180 q180; (try simp only [Nat.zero_add, Nat.add_zero] at hx180_0); replace p180 := eq_true p180; replace q180 := eq_true q180; have p181 : 0 ≤ ((rd [(rd_T89 ((rd_T34 l0 0).f0) (rd x3_1 x5_1)).f2.f0, (rd_T89 ((rd_T34 l0 0).f0) (rd x3_1 x5_1)).f2.f1, (rd_T89 ((rd_T34 l0 0).f0) (rd x3_1 x5_1)).f2.f2] x7_2) : Int) := of_decide_eq_true (by assumption); have q181 : (rd [(rd_T89 ((rd_T34 l0 0).f0) (rd x3_1 x5_1)).f2.f0, (rd_T89 ((rd_T34 l0 0).f0) (rd x3_1 x5_1)).f2.f1, (rd_T89 ((rd_T34 l0 0).f0) (rd x3_1 x5_1)).f2.f2] x7_2) < (x4_2.length : Int) := of_decide_eq_true (by assumption); obtain ⟨ad181, e181, hx181_0⟩ := Kd.at_bool (Kd.R_reads' HO_4.out).2.2 (rd [(rd_T89 ((rd_T34 l0 0).f0) (rd x3_1 x5_1)).f2.f0, (rd_T89 ((rd_T34 l0 0).f0) (rd x3_1 x5_1)).f2.f1, (rd_T89 ((rd_T34 l0 0).f0) (rd x3_1 x5_1)).f2.f2] x7_2) p181 q181; (try rw [← Nbq26.out] at hx181_0); obtain rfl : (⟨go6, 0, none⟩ : Addr) = ad181 := (by injection e181); (first | simp only [add_plain] at hx181_0 | simp only [add_at] at hx181_0 | simp only [Addr.add, Nat.zero_add] at hx181_0 | skip); replace p181 := eq_true p181; replace q181 := eq_true q181)); try go_wp2_with (first | (go_at_call 68; (with_reducible refine (spec_l06Ways.calls _ ([rd_T89 ((rd_T34 l0 0).f0) (rd x3_1 x5_1)]).length [rd_T89 ((rd_T34 l0 0).f0) (rd x3_1 x5_1)] t178 _ ?side1 ?side2 A19.out).mono ?_); (case side1 => have hx_ := (Kd.C_below HR177.out HB.out); exact kc_); (case side2 => exact Nat.le_refl _); rintro e w' ⟨rfl, ⟨nd, rfl⟩⟩; (try first | exact ⟨rfl, _, World.drewN_drewN _ _ _⟩ | exact ⟨rfl, _, Eq.trans (World.drewN_drewN _ _ _) (congrArg (World.drewN _) (Nat.add_assoc _ _ _))⟩); have q179 : 0 < ([rd_T89 ((rd_T34 l0 0).f0) (rd x3_1 x5_1)].length : Int) := of_decide_eq_true (by assumption); obtain ⟨ad179, e179, hx179_0, hx179_1, hx179_2, hx179_3, hx179_4⟩ := rp_T89 HR177.out q179; (try simp only [rd1_T89] at hx179_0 hx179_1 hx179_2 hx179_3 hx179_4); obtain rfl : (Addr.add ad176 ((rd x3_1 x5_1).toNat * 5)) = ad179 := (by injection e179); replace hx179_0 := cel HB.out hx179_0; replace hx179_1 := cel HB.out hx179_1; replace hx179_2 := cel HB.out hx179_2; replace hx179_3 := cel HB.out hx179_3; replace hx179_4 := cel HB.out hx179_4; have p180 : 0 ≤ (x7_2 : Int) := of_decide_eq_true (by assumption); have q180 : (x7_2 : Int) < 3 := of_decide_eq_true (by assumption); have hx180_0 := cell_arr3 hx179_2 hx179_3 hx179_4 x7_2 p180 q180; (try simp only [Nat.zero_add, Nat.add_zero] at hx180_0); replace p180 := eq_true p180; replace q180 := eq_true q180; have p181 : 0 ≤ ((rd [(rd_T89 ((rd_T34 l0 0).f0) (rd x3_1 x5_1)).f2.f0, (rd_T89 ((rd_T34 l0 0).f0) (rd x3_1 x5_1)).f2.f1, (rd_T89 ((rd_T34 l0 0).f0) (rd x3_1 x5_1)).f2.f2] x7_2) : Int) := of_decide_eq_true (by assumption); have q181 : (rd [(rd_T89 ((rd_T34 l0 0).f0) (rd x3_1 x5_1)).f2.f0, (rd_T89 ((rd_T34 l0 0).f0) (rd x3_1 x5_1)).f2.f1, (rd_T89 ((rd_T34 l0 0).f0) (rd x3_1 x5_1)).f2.f2] x7_2) < (x4_2.length : Int) := of_decide_eq_true (by assumption); obtain ⟨ad181, e181, hx181_0⟩ := Kd.at_bool (Kd.R_reads' HO_4.out).2.2 (rd [(rd_T89 ((rd_T34 l0 0).f0) (rd x3_1 x5_1)).f2.f0, (rd_T89 ((rd_T34 l0 0).f0) (rd x3_1 x5_1)).f2.f1, (rd_T89 ((rd_T34 l0 0).f0) (rd x3_1 x5_1)).f2.f2] x7_2) p181 q181; (try rw [← Nbq26.out] at hx181_0); obtain rfl : (⟨go6, 0, none⟩ : Addr) = ad181 := (by injection e181); (first | simp only [add_plain] at hx181_0 | simp only [add_at] at hx181_0 | simp only [Addr.add, Nat.zero_add] at hx181_0 | skip); replace p181 := eq_true p181; replace q181 := eq_true q181)))
                     (try simp only [← hl4_2])
                     go_roundg k2
                     case measure => have := HK1.out; have := HK2.out; omega
                     case rel => exact ⟨(x3_2), (x4_2), (wrap64 (x7_2 + 1)), z3_5_, H', ⟨(by have := HK1.out; have := HK2.out; omega)⟩, ⟨z3_7_⟩, ⟨z3_4_⟩, ⟨z3_1_⟩⟩
                    ·
                     replace c27 := Bool.eq_false_iff.mpr c27
                     subst c27
                     have H1 := H; rw [if_neg (show ¬ (false = true) by decide)] at H1
                     clear H
                     have H := H1
                     clear H1
                     obtain ⟨y183, hy183⟩ : ∃ y_ : List Bool, y_ = (x4_2.set ((rd [(rd_T89 ((rd_T34 l0 0).f0) (rd x3_1 x5_1)).f2.f0, (rd_T89 ((rd_T34 l0 0).f0) (rd x3_1 x5_1)).f2.f1, (rd_T89 ((rd_T34 l0 0).f0) (rd x3_1 x5_1)).f2.f2] x7_2) : Int).toNat true) := ⟨_, rfl⟩
                     replace H : (if x3_2.length < 70368744177664 then (spec_l06Reached.l1 k2 l0 (x3_2 ++ [rd [(rd_T89 ((rd_T34 l0 0).f0) (rd x3_1 x5_1)).f2.f0, (rd_T89 ((rd_T34 l0 0).f0) (rd x3_1 x5_1)).f2.f1, (rd_T89 ((rd_T34 l0 0).f0) (rd x3_1 x5_1)).f2.f2] x7_2]) y183 x5_1 [rd_T89 ((rd_T34 l0 0).f0) (rd x3_1 x5_1)] (wrap64 (x7_2 + 1))) else (none)) = some r := by first | (rw [hy183]; with_reducible exact H) | (have H2_ := (Option.bind_some _ _).symm.trans H; rw [hy183]; with_reducible exact H2_) | (have H2_ := (Option.bind_some _ _).symm.trans H; with_reducible exact H2_) | with_reducible exact H | (rw [hy183]; exact H) | exact H
                     have Ny183 := A_ hy183
                     clear hy183
                     by_cases c29 : x3_2.length < 70368744177664
                     ·
                      rw [if_pos c29] at H
                      have LMc29 := A_ c29
                      clear c29
                      obtain ⟨y186, hy186⟩ : ∃ y_ : List Int, y_ = (x3_2 ++ [rd [(rd_T89 ((rd_T34 l0 0).f0) (rd x3_1 x5_1)).f2.f0, (rd_T89 ((rd_T34 l0 0).f0) (rd x3_1 x5_1)).f2.f1, (rd_T89 ((rd_T34 l0 0).f0) (rd x3_1 x5_1)).f2.f2] x7_2]) := ⟨_, rfl⟩
                      replace H : (spec_l06Reached.l1 k2 l0 y186 y183 x5_1 [rd_T89 ((rd_T34 l0 0).f0) (rd x3_1 x5_1)] (wrap64 (x7_2 + 1))) = some r := by first | (rw [hy186]; with_reducible exact H) | (have H2_ := (Option.bind_some _ _).symm.trans H; rw [hy186]; with_reducible exact H2_) | (have H2_ := (Option.bind_some _ _).symm.trans H; with_reducible exact H2_) | with_reducible exact H | (rw [hy186]; exact H) | exact H
                      have Ny186 := A_ hy186
                      clear hy186
                      have H' := A_ H
                      clear H
                      go_wp2_with (first | (go_at_call 68; (with_reducible refine (spec_l06Ways.calls _ ([rd_T89 ((rd_T34 l0 0).f0) (rd x3_1 x5_1)]).length [rd_T89 ((rd_T34 l0 0).f0) (rd x3_1 x5_1)] t178 _ ?side1 ?side2 A19.out).mono ?_); (case side1 => have hx_ := (Kd.C_below HR177.out HB.out); exact kc_); (case side2 => exact Nat.le_refl _); rintro e w' ⟨rfl, ⟨nd, rfl⟩⟩; (try first | exact ⟨rfl, _, World.drewN_drewN _ _ _⟩ | exact ⟨rfl, _, Eq.trans (World.drewN_drewN _ _ _) (congrArg (World.drewN _) (Nat.add_assoc _ _ _))⟩); have q179 : 0 < ([rd_T89 ((rd_T34 l0 0).f0) (rd x3_1 x5_1)].length : Int) := of_decide_eq_true (by assumption); obtain ⟨ad179, e179, hx179_0, hx179_1, hx179_2, hx179_3, hx179_4⟩ := rp_T89 HR177.out q179; (try simp only [rd1_T89] at hx179_0 hx179_1 hx179_2 hx179_3 hx179_4); obtain rfl : (Addr.add ad176 ((rd x3_1 x5_1).toNat * 5)) = ad179 := (by injection e179); replace hx179_0 := cel HB.out hx179_0; replace hx179_1 := cel HB.out hx179_1; replace hx179_2 := cel HB.out hx179_2; replace hx179_3 := cel HB.out hx179_3; replace hx179_4 := cel HB.out hx179_4; have p180 : 0 ≤ (x7_2 : Int) := of_decide_eq_true (by assumption); have q180 : (x7_2 : Int) < 3 := of_decide_eq_true (by assumption); have hx180_0 := cell_arr3 hx179_2 hx179_3 hx179_4 x7_2 p180 q180; (try simp only [Nat.zero_add, Nat.add_zero] at hx180_0); replace p180 := eq_true p180; replace q180 := eq_true q180; have p181 : 0 ≤ ((rd [(rd_T89 ((rd_T34 l0 0).f0) (rd x3_1 x5_1)).f2.f0, (rd_T89 ((rd_T34 l0 0).f0) (rd x3_1 x5_1)).f2.f1, (rd_T89 ((rd_T34 l0 0).f0) (rd x3_1 x5_1)).f2.f2] x7_2) : Int) := of_decide_eq_true (by assumption); have q181 : (rd [(rd_T89 ((rd_T34 l0 0).f0) (rd x3_1 x5_1)).f2.f0, (rd_T89 ((rd_T34 l0 0).f0) (rd x3_1 x5_1)).f2.f1, (rd_T89 ((rd_T34 l0 0).f0) (rd x3_1 x5_1)).f2.f2] x7_2) < (x4_2.length : Int) := of_decide_eq_true (by assumption); obtain ⟨ad181, e181, hx181_0⟩ := Kd.at_bool (Kd.R_reads' HO_4.out).2.2 (rd [(rd_T89 ((rd_T34 l0 0).f0) (rd x3_1 x5_1)).f2.f0, (rd_T89 ((rd_T34 l0 0).f0) (rd x3_1 x5_1)).f2.f1, (rd_T89 ((rd_T34 l0 0).f0) (rd x3_1 x5_1)).f2.f2] x7_2) p181 q181; (try rw [← Nbq26.out] at hx181_0); obtain rfl : (⟨go6, 0, none⟩ : Addr) = ad181 := (by injection e181); (first | simp only [add_plain] at hx181_0 | simp only [add_at] at hx181_0 | simp only [Addr.add, Nat.zero_add] at hx181_0 | skip); replace p181 := eq_true p181; replace q181 := eq_true q181; have p182 : 0 ≤ (x7_2 : Int) := of_decide_eq_true (by assumption); have q182 : (x7_2 : Int) < 3 := of_decide_eq_true (by assumption); have hx182_0 := cell_arr3 hx179_2 hx179_3 hx179_4 x7_2 p182 q182; (try simp only [Nat.zero_add, Nat.add_zero] at hx182_0); replace p182 := eq_true p182; replace q182 := eq_true q182; have p28 : 0 ≤ ((rd [(rd_T89 ((rd_T34 l0 0).f0) (rd x3_1 x5_1)).f2.f0, (rd_T89 ((rd_T34 l0 0).f0) (rd x3_1 x5_1)).f2.f1, (rd_T89 ((rd_T34 l0 0).f0) (rd x3_1 x5_1)).f2.f2] x7_2) : Int) := of_decide_eq_true (by assumption); have q28 : ((rd [(rd_T89 ((rd_T34 l0 0).f0) (rd x3_1 x5_1)).f2.f0, (rd_T89 ((rd_T34 l0 0).f0) (rd x3_1 x5_1)).f2.f1, (rd_T89 ((rd_T34 l0 0).f0) (rd x3_1 x5_1)).f2.f2] x7_2) : Int) < ((x4_2.length : Int) : Int) := of_decide_eq_true (by assumption); obtain ⟨hx28_0, hf28_0⟩ := Kd.R_celln false HO_4.out ((rd [(rd_T89 ((rd_T34 l0 0).f0) (rd x3_1 x5_1)).f2.f0, (rd_T89 ((rd_T34 l0 0).f0) (rd x3_1 x5_1)).f2.f1, (rd_T89 ((rd_T34 l0 0).f0) (rd x3_1 x5_1)).f2.f2] x7_2) : Int) p28 q28; replace p28 := eq_true p28; replace q28 := eq_true q28; obtain ⟨hy30_, hz30_⟩ := Kd.R_celln false HO_4.out ((rd [(rd_T89 ((rd_T34 l0 0).f0) (rd x3_1 x5_1)).f2.f0, (rd_T89 ((rd_T34 l0 0).f0) (rd x3_1 x5_1)).f2.f1, (rd_T89 ((rd_T34 l0 0).f0) (rd x3_1 x5_1)).f2.f2] x7_2) : Int) (of_decide_eq_true (by assumption)) (of_decide_eq_true (by assumption)); have HP30 := Kd.R_putg HO_4.out ((rd [(rd_T89 ((rd_T34 l0 0).f0) (rd x3_1 x5_1)).f2.f0, (rd_T89 ((rd_T34 l0 0).f0) (rd x3_1 x5_1)).f2.f1, (rd_T89 ((rd_T34 l0 0).f0) (rd x3_1 x5_1)).f2.f2] x7_2) : Int) true) | ((with_reducible refine gate_store (t := 4) (p := 55) rfl ?_); (try (rw [drewN_self wr]; generalize hq_ : World.drewN wr _ = wr; have _ := A_ (Kd.R_at hq_ HO_3.out); have _ := A_ (Kd.R_at hq_ HO_4.out); have _ := A_ (below_at hq_ HB.out); clear hq_ HO_3 HO_4 HB; rename_i HO_3 HO_4 HB; (try (obtain ⟨hy30_, hz30_⟩ := Kd.R_celln false HO_4.out ((rd [(rd_T89 ((rd_T34 l0 0).f0) (rd x3_1 x5_1)).f2.f0, (rd_T89 ((rd_T34 l0 0).f0) (rd x3_1 x5_1)).f2.f1, (rd_T89 ((rd_T34 l0 0).f0) (rd x3_1 x5_1)).f2.f2] x7_2) : Int) (of_decide_eq_true (by assumption)) (of_decide_eq_true (by assumption)))); (try (have HP30 := Kd.R_putg HO_4.out ((rd [(rd_T89 ((rd_T34 l0 0).f0) (rd x3_1 x5_1)).f2.f0, (rd_T89 ((rd_T34 l0 0).f0) (rd x3_1 x5_1)).f2.f1, (rd_T89 ((rd_T34 l0 0).f0) (rd x3_1 x5_1)).f2.f2] x7_2) : Int) true)))); refine store_event (t := 4) (p := 55) (v := ?vo_w31) (w1 := (wr.setCell ⟨go6, ((rd [(rd_T89 ((rd_T34 l0 0).f0) (rd x3_1 x5_1)).f2.f0, (rd_T89 ((rd_T34 l0 0).f0) (rd x3_1 x5_1)).f2.f1, (rd_T89 ((rd_T34 l0 0).f0) (rd x3_1 x5_1)).f2.f2] x7_2) : Int).toNat, none⟩ (.bool true))) ?hg ?ho ?hn ?hr ?_; (case ho => rfl); (case hg => rfl); (case hn => rfl); (case hr => first | (go_simp; done) | (go_simp; rfl)); intro w31 hw; have hg : wr.grownBy w31 (some go6) := (by rw [hw]; exact HP30.2); have hp_ : Kd.R Kd.bool 4 w31 w.heap.size (fun _ => True) (.slice (some ⟨go6, 0, none⟩) x4_2.length co6) y183 := (by rw [hw, Ny183.out]; exact HP30.1); clear HP30; have _ := A_ (Kd.R_over' (v := (.slice (some ⟨go6, 0, none⟩) x4_2.length co6)) z3_2_ (Kd.R_typed HO_4.out) (by decide) hg); have _ := A_ (hp_); have _ := A_ ((by rw [hw]; exact below_set (HB.out) GB6.out : Below w.heap.size w w31)); clear HO_3 HO_4 HB; rename_i HO_3 HO_4 HB; clear hg hw hp_; have q184 : 0 < ([rd_T89 ((rd_T34 l0 0).f0) (rd x3_1 x5_1)].length : Int) := of_decide_eq_true (by assumption); obtain ⟨ad184, e184, hx184_0, hx184_1, hx184_2, hx184_3, hx184_4⟩ := rp_T89 HR177.out q184; (try simp only [rd1_T89] at hx184_0 hx184_1 hx184_2 hx184_3 hx184_4); obtain rfl : (Addr.add ad176 ((rd x3_1 x5_1).toNat * 5)) = ad184 := (by injection e184); replace hx184_0 := cel HB.out hx184_0; replace hx184_1 := cel HB.out hx184_1; replace hx184_2 := cel HB.out hx184_2; replace hx184_3 := cel HB.out hx184_3; replace hx184_4 := cel HB.out hx184_4; have p185 : 0 ≤ (x7_2 : Int) := of_decide_eq_true (by assumption); have q185 : (x7_2 : Int) < 3 := of_decide_eq_true (by assumption); have hx185_0 := cell_arr3 hx184_2 hx184_3 hx184_4 x7_2 p185 q185; (try simp only [Nat.zero_add, Nat.add_zero] at hx185_0); replace p185 := eq_true p185; replace q185 := eq_true q185) | ((with_reducible refine gate_builtin (b := .append) (xs := #[.tmp 56, .tmp 63]) rfl ?_); at_builtin; refine Kd.R_append (Kd.int .i16) (w0 := w) w.heap.size rfl (.tmp 56) (.tmp 63) 139 85 (.int .i16 0) 2 rfl Try.underlying139 info85 rfl (by decide) (by omega) u3 x3_2 (rd [(rd_T89 ((rd_T34 l0 0).f0) (rd x3_1 x5_1)).f2.f0, (rd_T89 ((rd_T34 l0 0).f0) (rd x3_1 x5_1)).f2.f1, (rd_T89 ((rd_T34 l0 0).f0) (rd x3_1 x5_1)).f2.f2] x7_2) [.int .i16 (rd [(rd_T89 ((rd_T34 l0 0).f0) (rd x3_1 x5_1)).f2.f0, (rd_T89 ((rd_T34 l0 0).f0) (rd x3_1 x5_1)).f2.f1, (rd_T89 ((rd_T34 l0 0).f0) (rd x3_1 x5_1)).f2.f2] x7_2)] (fun _ => True) (fun _ => False) rfl rfl ?aP (fun _ hk => hk.elim) ?aF ?aO ?aB ?aS ?aL ?_; (case aP => exact rfl); (case aB => exact z3_1_); (case aF => exact (fun _ _ => trivial)); (case aO => exact z3_2_); (case aS => exact (below_size z3_1_)); (case aL => have := LMc29.out; omega); intro v187 w32 ho hb hg hat; rw [← Ny186.out] at ho; have _ := A_ (Kd.R_over' z3_6_ (Kd.R_typed z3_2_) (by decide) hg); have _ := A_ (hb); have _ := A_ (ho); clear HO_4 HB HO_3; rename_i HO_4 HB HO188; clear ho hb hg hat))
                      repeat (go_quiet (first | (go_at_call 68; (with_reducible refine (spec_l06Ways.calls _ ([rd_T89 ((rd_T34 l0 0).f0) (rd x3_1 x5_1)]).length [rd_T89 ((rd_T34 l0 0).f0) (rd x3_1 x5_1)] t178 _ ?side1 ?side2 A19.out).mono ?_); (case side1 => have hx_ := (Kd.C_below HR177.out HB.out); exact kc_); (case side2 => exact Nat.le_refl _); rintro e w' ⟨rfl, ⟨nd, rfl⟩⟩; (try first | exact ⟨rfl, _, World.drewN_drewN _ _ _⟩ | exact ⟨rfl, _, Eq.trans (World.drewN_drewN _ _ _) (congrArg (World.drewN _) (Nat.add_assoc _ _ _))⟩); have q179 : 0 < ([rd_T89 ((rd_T34 l0 0).f0) (rd x3_1 x5_1)].length : Int) := of_decide_eq_true (by assumption); obtain ⟨ad179, e179, hx179_0, hx179_1, hx179_2, hx179_3, hx179_4⟩ := rp_T89 HR177.out q179; (try simp only [rd1_T89] at hx179_0 hx179_1 hx179_2 hx179_3 hx179_4); obtain rfl : (Addr.add ad176 ((rd x3_1 x5_1).toNat * 5)) = ad179 := (by injection e179); replace hx179_0 := cel HB.out hx179_0; replace hx179_1 := cel HB.out hx179_1; replace hx179_2 := cel HB.out hx179_2; replace hx179_3 := cel HB.out hx179_3; replace hx179_4 := cel HB.out hx179_4; have p180 : 0 ≤ (x7_2 : Int) := of_decide_eq_true (by assumption); have q180 : (x7_2 : Int) < 3 := of_decide_eq_true (by assumption); have hx180_0 := cell_arr3 hx179_2 hx179_3 hx179_4 x7_2 p180 q180; (try simp only [Nat.zero_add, Nat.add_zero] at hx180_0); replace p180 := eq_true p180; replace q180 := eq_true q180; have p181 : 0 ≤ ((rd [(rd_T89 ((rd_T34 l0 0).f0) (rd x3_1 x5_1)).f2.f0, (rd_T89 ((rd_T34 l0 0).f0) (rd x3_1 x5_1)).f2.f1, (rd_T89 ((rd_T34 l0 0).f0) (rd x3_1 x5_1)).f2.f2] x7_2) : Int) := of_decide_eq_true (by assumption); have q181 : (rd [(rd_T89 ((rd_T34 l0 0).f0) (rd x3_1 x5_1)).f2.f0, (rd_T89 ((rd_T34 l0 0).f0) (rd x3_1 x5_1)).f2.f1, (rd_T89 ((rd_T34 l0 0).f0) (rd x3_1 x5_1)).f2.f2] x7_2) < (x4_2.length : Int) := of_decide_eq_true (by assumption); obtain ⟨ad181, e181, hx181_0⟩ := Kd.at_bool (Kd.R_reads' HO_4.out).2.2 (rd [(rd_T89 ((rd_T34 l0 0).f0) (rd x3_1 x5_1)).f2.f0, (rd_T89 ((rd_T34 l0 0).f0) (rd x3_1 x5_1)).f2.f1, (rd_T89 ((rd_T34 l0 0).f0) (rd x3_1 x5_1)).f2.f2] x7_2) p181 q181; (try rw [← Nbq26.out] at hx181_0); obtain rfl : (⟨go6, 0, none⟩ : Addr) = ad181 := (by injection e181); (first | simp only [add_plain] at hx181_0 | simp only [add_at] at hx181_0 | simp only [Addr.add, Nat.zero_add] at hx181_0 | skip); replace p181 := eq_true p181; replace q181 := eq_true q181; have p182 : 0 ≤ (x7_2 : Int) := of_decide_eq_true (by assumption); have q182 : (x7_2 : Int) < 3 := of_decide_eq_true (by assumption); have hx182_0 := cell_arr3 hx179_2 hx179_3 hx179_4 x7_2 p182 q182; (try simp only [Nat.zero_add, Nat.add_zero] at hx182_0); replace p182 := eq_true p182; replace q182 := eq_true q182; have p28 : 0 ≤ ((rd [(rd_T89 ((rd_T34 l0 0).f0) (rd x3_1 x5_1)).f2.f0, (rd_T89 ((rd_T34 l0 0).f0) (rd x3_1 x5_1)).f2.f1, (rd_T89 ((rd_T34 l0 0).f0) (rd x3_1 x5_1)).f2.f2] x7_2) : Int) := of_decide_eq_true (by assumption); have q28 : ((rd [(rd_T89 ((rd_T34 l0 0).f0) (rd x3_1 x5_1)).f2.f0, (rd_T89 ((rd_T34 l0 0).f0) (rd x3_1 x5_1)).f2.f1, (rd_T89 ((rd_T34 l0 0).f0) (rd x3_1 x5_1)).f2.f2] x7_2) : Int) < ((x4_2.length : Int) : Int) := of_decide_eq_true (by assumption); obtain ⟨hx28_0, hf28_0⟩ := Kd.R_celln false HO_4.out ((rd [(rd_T89 ((rd_T34 l0 0).f0) (rd x3_1 x5_1)).f2.f0, (rd_T89 ((rd_T34 l0 0).f0) (rd x3_1 x5_1)).f2.f1, (rd_T89 ((rd_T34 l0 0).f0) (rd x3_1 x5_1)).f2.f2] x7_2) : Int) p28 q28; replace p28 := eq_true p28; replace q28 := eq_true q28; obtain ⟨hy30_, hz30_⟩ := Kd.R_celln false HO_4.out ((rd [(rd_T89 ((rd_T34 l0 0).f0) (rd x3_1 x5_1)).f2.f0, (rd_T89 ((rd_T34 l0 0).f0) (rd x3_1 x5_1)).f2.f1, (rd_T89 ((rd_T34 l0 0).f0) (rd x3_1 x5_1)).f2.f2] x7_2) : Int) (of_decide_eq_true (by assumption)) (of_decide_eq_true (by assumption)); have HP30 := Kd.R_putg HO_4.out ((rd [(rd_T89 ((rd_T34 l0 0).f0) (rd x3_1 x5_1)).f2.f0, (rd_T89 ((rd_T34 l0 0).f0) (rd x3_1 x5_1)).f2.f1, (rd_T89 ((rd_T34 l0 0).f0) (rd x3_1 x5_1)).f2.f2] x7_2) : Int) true) | ((with_reducible refine gate_store (t := 4) (p := 55) rfl ?_); (try (rw [drewN_self wr]; generalize hq_ : World.drewN wr _ = wr; have _ := A_ (Kd.R_at hq_ HO_3.out); have _ := A_ (Kd.R_at hq_ HO_4.out); have _ := A_ (below_at hq_ HB.out); clear hq_ HO_3 HO_4 HB; rename_i HO_3 HO_4 HB; (try (obtain ⟨hy30_, hz30_⟩ := Kd.R_celln false HO_4.out ((rd [(rd_T89 ((rd_T34 l0 0).f0) (rd x3_1 x5_1)).f2.f0, (rd_T89 ((rd_T34 l0 0).f0) (rd x3_1 x5_1)).f2.f1, (rd_T89 ((rd_T34 l0 0).f0) (rd x3_1 x5_1)).f2.f2] x7_2) : Int) (of_decide_eq_true (by assumption)) (of_decide_eq_true (by assumption)))); (try (have HP30 := Kd.R_putg HO_4.out ((rd [(rd_T89 ((rd_T34 l0 0).f0) (rd x3_1 x5_1)).f2.f0, (rd_T89 ((rd_T34 l0 0).f0) (rd x3_1 x5_1)).f2.f1, (rd_T89 ((rd_T34 l0 0).f0) (rd x3_1 x5_1)).f2.f2] x7_2) : Int) true)))); refine store_event (t := 4) (p := 55) (v := ?vo_w31) (w1 := (wr.setCell ⟨go6, ((rd [(rd_T89 ((rd_T34 l0 0).f0) (rd x3_1 x5_1)).f2.f0, (rd_T89 ((rd_T34 l0 0).f0) (rd x3_1 x5_1)).f2.f1, (rd_T89 ((rd_T34 l0 0).f0) (rd x3_1 x5_1)).f2.f2] x7_2) : Int).toNat, none⟩ (.bool true))) ?hg ?ho ?hn ?hr ?_; (case ho => rfl); (case hg => rfl); (case hn => rfl); (case hr => first | (go_simp; done) | (go_simp; rfl)); intro w31 hw; have hg : wr.grownBy w31 (some go6) := (by rw [hw]; exact HP30.2); have hp_ : Kd.R Kd.bool 4 w31 w.heap.size (fun _ => True) (.slice (some ⟨go6, 0, none⟩) x4_2.length co6) y183 := (by rw [hw, Ny183.out]; exact HP30.1); clear HP30; have _ := A_ (Kd.R_over' (v := (.slice (some ⟨go6, 0, none⟩) x4_2.length co6)) z3_2_ (Kd.R_typed HO_4.out) (by decide) hg); have _ := A_ (hp_); have _ := A_ ((by rw [hw]; exact below_set (HB.out) GB6.out : Below w.heap.size w w31)); clear HO_3 HO_4 HB; rename_i HO_3 HO_4 HB; clear hg hw hp_; have q184 : 0 < ([rd_T89 ((rd_T34 l0 0).f0) (rd x3_1 x5_1)].length : Int) := of_decide_eq_true (by assumption); obtain ⟨ad184, e184, hx184_0, hx184_1, hx184_2, hx184_3, hx184_4⟩ := rp_T89 HR177.out q184; (try simp only [rd1_T89] at hx184_0 hx184_1 hx184_2 hx184_3 hx184_4); obtain rfl : (Addr.add ad176 ((rd x3_1 x5_1).toNat * 5)) = ad184 := (by injection e184); replace hx184_0 := cel HB.out hx184_0; replace hx184_1 := cel HB.out hx184_1; replace hx184_2 := cel HB.out hx184_2; replace hx184_3 := cel HB.out hx184_3; replace hx184_4 := cel HB.out hx184_4; have p185 : 0 ≤ (x7_2 : Int) := of_decide_eq_true (by assumption); have q185 : (x7_2 : Int) < 3 := of_decide_eq_true (by assumption); have hx185_0 := cell_arr3 hx184_2 hx184_3 hx184_4 x7_2 p185 q185; (try simp only [Nat.zero_add, Nat.add_zero] at hx185_0); replace p185 := eq_true p185; replace q185 := eq_true q185) | ((with_reducible refine gate_builtin (b := .append) (xs := #[.tmp 56, .tmp 63]) rfl ?_); at_builtin; refine Kd.R_append (Kd.int .i16) (w0 := w) w.heap.size rfl (.tmp 56) (.tmp 63) 139 85 (.int .i16 0) 2 rfl Try.underlying139 info85 rfl (by decide) (by omega) u3 x3_2 (rd [(rd_T89 ((rd_T34 l0 0).f0) (rd x3_1 x5_1)).f2.f0, (rd_T89 ((rd_T34 l0 0).f0) (rd x3_1 x5_1)).f2.f1, (rd_T89 ((rd_T34 l0 0).f0) (rd x3_1 x5_1)).f2.f2] x7_2) [.int .i16 (rd [(rd_T89 ((rd_T34 l0 0).f0) (rd x3_1 x5_1)).f2.f0, (rd_T89 ((rd_T34 l0 0).f0) (rd x3_1 x5_1)).f2.f1, (rd_T89 ((rd_T34 l0 0).f0) (rd x3_1 x5_1)).f2.f2] x7_2)] (fun _ => True) (fun _ => False) rfl rfl ?aP (fun _ hk => hk.elim) ?aF ?aO ?aB ?aS ?aL ?_; (case aP => exact rfl); (case aB => exact z3_1_); (case aF => exact (fun _ _ => trivial)); (case aO => exact z3_2_); (case aS => exact (below_size z3_1_)); (case aL => have := LMc29.out; omega); intro v187 w32 ho hb hg hat; rw [← Ny186.out] at ho; have _ := A_ (Kd.R_over' z3_6_ (Kd.R_typed z3_2_) (by decide) hg); have _ := A_ (hb); have _ := A_ (ho); clear HO_4 HB HO_3; rename_i HO_4 HB HO188; clear ho hb hg hat)); try go_wp2_with (first | (go_at_call 68; (with_reducible refine (spec_l06Ways.calls _ ([rd_T89 ((rd_T34 l0 0).f0) (rd x3_1 x5_1)]).length [rd_T89 ((rd_T34 l0 0).f0) (rd x3_1 x5_1)] t178 _ ?side1 ?side2 A19.out).mono ?_); (case side1 => have hx_ := (Kd.C_below HR177.out HB.out); exact kc_); (case side2 => exact Nat.le_refl _); rintro e w' ⟨rfl, ⟨nd, rfl⟩⟩; (try first | exact ⟨rfl, _, World.drewN_drewN _ _ _⟩ | exact ⟨rfl, _, Eq.trans (World.drewN_drewN _ _ _) (congrArg (World.drewN _) (Nat.add_assoc _ _ _))⟩); have q179 : 0 < ([rd_T89 ((rd_T34 l0 0).f0) (rd x3_1 x5_1)].length : Int) := of_decide_eq_true (by assumption); obtain ⟨ad179, e179, hx179_0, hx179_1, hx179_2, hx179_3, hx179_4⟩ := rp_T89 HR177.out q179; (try simp only [rd1_T89] at hx179_0 hx179_1 hx179_2 hx179_3 hx179_4); obtain rfl : (Addr.add ad176 ((rd x3_1 x5_1).toNat * 5)) = ad179 := (by injection e179); replace hx179_0 := cel HB.out hx179_0; replace hx179_1 := cel HB.out hx179_1; replace hx179_2 := cel HB.out hx179_2; replace hx179_3 := cel HB.out hx179_3; replace hx179_4 := cel HB.out hx179_4; have p180 : 0 ≤ (x7_2 : Int) := of_decide_eq_true (by assumption); have q180 : (x7_2 : Int) < 3 := of_decide_eq_true (by assumption); have hx180_0 := cell_arr3 hx179_2 hx179_3 hx179_4 x7_2 p180 q180; (try simp only [Nat.zero_add, Nat.add_zero] at hx180_0); replace p180 := eq_true p180; replace q180 := eq_true q180; have p181 : 0 ≤ ((rd [(rd_T89 ((rd_T34 l0 0).f0) (rd x3_1 x5_1)).f2.f0, (rd_T89 ((rd_T34 l0 0).f0) (rd x3_1 x5_1)).f2.f1, (rd_T89 ((rd_T34 l0 0).f0) (rd x3_1 x5_1)).f2.f2] x7_2) : Int) := of_decide_eq_true (by assumption); have q181 : (rd [(rd_T89 ((rd_T34 l0 0).f0) (rd x3_1 x5_1)).f2.f0, (rd_T89 ((rd_T34 l0 0).f0) (rd x3_1 x5_1)).f2.f1, (rd_T89 ((rd_T34 l0 0).f0) (rd x3_1 x5_1)).f2.f2] x7_2) < (x4_2.length : Int) := of_decide_eq_true (by assumption); obtain ⟨ad181, e181, hx181_0⟩ := Kd.at_bool (Kd.R_reads' HO_4.out).2.2 (rd [(rd_T89 ((rd_T34 l0 0).f0) (rd x3_1 x5_1)).f2.f0, (rd_T89 ((rd_T34 l0 0).f0) (rd x3_1 x5_1)).f2.f1, (rd_T89 ((rd_T34 l0 0).f0) (rd x3_1 x5_1)).f2.f2] x7_2) p181 q181; (try rw [← Nbq26.out] at hx181_0); obtain rfl : (⟨go6, 0, none⟩ : Addr) = ad181 := (by injection e181); (first | simp only [add_plain] at hx181_0 | simp only [add_at] at hx181_0 | simp only [Addr.add, Nat.zero_add] at hx181_0 | skip); replace p181 := eq_true p181; replace q181 := eq_true q181; have p182 : 0 ≤ (x7_2 : Int) := of_decide_eq_true (by assumption); have q182 : (x7_2 : Int) < 3 := of_decide_eq_true (by assumption); have hx182_0 := cell_arr3 hx179_2 hx179_3 hx179_4 x7_2 p182 q182; (try simp only [Nat.zero_add, Nat.add_zero] at hx182_0); replace p182 := eq_true p182; replace q182 := eq_true q182; have p28 : 0 ≤ ((rd [(rd_T89 ((rd_T34 l0 0).f0) (rd x3_1 x5_1)).f2.f0, (rd_T89 ((rd_T34 l0 0).f0) (rd x3_1 x5_1)).f2.f1, (rd_T89 ((rd_T34 l0 0).f0) (rd x3_1 x5_1)).f2.f2] x7_2) : Int) := of_decide_eq_true (by assumption); have q28 : ((rd [(rd_T89 ((rd_T34 l0 0).f0) (rd x3_1 x5_1)).f2.f0, (rd_T89 ((rd_T34 l0 0).f0) (rd x3_1 x5_1)).f2.f1, (rd_T89 ((rd_T34 l0 0).f0) (rd x3_1 x5_1)).f2.f2] x7_2) : Int) < ((x4_2.length : Int) : Int) := of_decide_eq_true (by assumption); obtain ⟨hx28_0, hf28_0⟩ := Kd.R_celln false HO_4.out ((rd [(rd_T89 ((rd_T34 l0 0).f0) (rd x3_1 x5_1)).f2.f0, (rd_T89 ((rd_T34 l0 0).f0) (rd x3_1 x5_1)).f2.f1, (rd_T89 ((rd_T34 l0 0).f0) (rd x3_1 x5_1)).f2.f2] x7_2) : Int) p28 q28; replace p28 := eq_true p28; replace q28 := eq_true q28; obtain ⟨hy30_, hz30_⟩ := Kd.R_celln false HO_4.out ((rd [(rd_T89 ((rd_T34 l0 0).f0) (rd x3_1 x5_1)).f2.f0, (rd_T89 ((rd_T34 l0 0).f0) (rd x3_1 x5_1)).f2.f1, (rd_T89 ((rd_T34 l0 0).f0) (rd x3_1 x5_1)).f2.f2] x7_2) : Int) (of_decide_eq_true (by assumption)) (of_decide_eq_true (by assumption)); have HP30 := Kd.R_putg HO_4.out ((rd [(rd_T89 ((rd_T34 l0 0).f0) (rd x3_1 x5_1)).f2.f0, (rd_T89 ((rd_T34 l0 0).f0) (rd x3_1 x5_1)).f2.f1, (rd_T89 ((rd_T34 l0 0).f0) (rd x3_1 x5_1)).f2.f2] x7_2) : Int) true) | ((with_reducible refine gate_store (t := 4) (p := 55) rfl ?_); (try (rw [drewN_self wr]; generalize hq_ : World.drewN wr _ = wr; have _ := A_ (Kd.R_at hq_ HO_3.out); have _ := A_ (Kd.R_at hq_ HO_4.out); have _ := A_ (below_at hq_ HB.out); clear hq_ HO_3 HO_4 HB; rename_i HO_3 HO_4 HB; (try (obtain ⟨hy30_, hz30_⟩ := Kd.R_celln false HO_4.out ((rd [(rd_T89 ((rd_T34 l0 0).f0) (rd x3_1 x5_1)).f2.f0, (rd_T89 ((rd_T34 l0 0).f0) (rd x3_1 x5_1)).f2.f1, (rd_T89 ((rd_T34 l0 0).f0) (rd x3_1 x5_1)).f2.f2] x7_2) : Int) (of_decide_eq_true (by assumption)) (of_decide_eq_true (by assumption)))); (try (have HP30 := Kd.R_putg HO_4.out ((rd [(rd_T89 ((rd_T34 l0 0).f0) (rd x3_1 x5_1)).f2.f0, (rd_T89 ((rd_T34 l0 0).f0) (rd x3_1 x5_1)).f2.f1, (rd_T89 ((rd_T34 l0 0).f0) (rd x3_1 x5_1)).f2.f2] x7_2) : Int) true)))); refine store_event (t := 4) (p := 55) (v := ?vo_w31) (w1 := (wr.setCell ⟨go6, ((rd [(rd_T89 ((rd_T34 l0 0).f0) (rd x3_1 x5_1)).f2.f0, (rd_T89 ((rd_T34 l0 0).f0) (rd x3_1 x5_1)).f2.f1, (rd_T89 ((rd_T34 l0 0).f0) (rd x3_1 x5_1)).f2.f2] x7_2) : Int).toNat, none⟩ (.bool true))) ?hg ?ho ?hn ?hr ?_; (case ho => rfl); (case hg => rfl); (case hn => rfl); (case hr => first | (go_simp; done) | (go_simp; rfl)); intro w31 hw; have hg : wr.grownBy w31 (some go6) := (by rw [hw]; exact HP30.2); have hp_ : Kd.R Kd.bool 4 w31 w.heap.size (fun _ => True) (.slice (some ⟨go6, 0, none⟩) x4_2.length co6) y183 := (by rw [hw, Ny183.out]; exact HP30.1); clear HP30; have _ := A_ (Kd.R_over' (v := (.slice (some ⟨go6, 0, none⟩) x4_2.length co6)) z3_2_ (Kd.R_typed HO_4.out) (by decide) hg); have _ := A_ (hp_); have _ := A_ ((by rw [hw]; exact below_set (HB.out) GB6.out : Below w.heap.size w w31)); clear HO_3 HO_4 HB; rename_i HO_3 HO_4 HB; clear hg hw hp_; have q184 : 0 < ([rd_T89 ((rd_T34 l0 0).f0) (rd x3_1 x5_1)].length : Int) := of_decide_eq_true (by assumption); obtain ⟨ad184, e184, hx184_0, hx184_1, hx184_2, hx184_3, hx184_4⟩ := rp_T89 HR177.out q184; (try simp only [rd1_T89] at hx184_0 hx184_1 hx184_2 hx184_3 hx184_4); obtain rfl : (Addr.add ad176 ((rd x3_1 x5_1).toNat * 5)) = ad184 := (by injection e184); replace hx184_0 := cel HB.out hx184_0; replace hx184_1 := cel HB.out hx184_1; replace hx184_2 := cel HB.out hx184_2; replace hx184_3 := cel HB.out hx184_3; replace hx184_4 := cel HB.out hx184_4; have p185 : 0 ≤ (x7_2 : Int) := of_decide_eq_true (by assumption); have q185 : (x7_2 : Int) < 3 := of_decide_eq_true (by assumption); have hx185_0 := cell_arr3 hx184_2 hx184_3 hx184_4 x7_2 p185 q185; (try simp only [Nat.zero_add, Nat.add_zero] at hx185_0); replace p185 := eq_true p185; replace q185 := eq_true q185) | ((with_reducible refine gate_builtin (b := .append) (xs := #[.tmp 56, .tmp 63]) rfl ?_); at_builtin; refine Kd.R_append (Kd.int .i16) (w0 := w) w.heap.size rfl (.tmp 56) (.tmp 63) 139 85 (.int .i16 0) 2 rfl Try.underlying139 info85 rfl (by decide) (by omega) u3 x3_2 (rd [(rd_T89 ((rd_T34 l0 0).f0) (rd x3_1 x5_1)).f2.f0, (rd_T89 ((rd_T34 l0 0).f0) (rd x3_1 x5_1)).f2.f1, (rd_T89 ((rd_T34 l0 0).f0) (rd x3_1 x5_1)).f2.f2] x7_2) [.int .i16 (rd [(rd_T89 ((rd_T34 l0 0).f0) (rd x3_1 x5_1)).f2.f0, (rd_T89 ((rd_T34 l0 0).f0) (rd x3_1 x5_1)).f2.f1, (rd_T89 ((rd_T34 l0 0).f0) (rd x3_1 x5_1)).f2.f2] x7_2)] (fun _ => True) (fun _ => False) rfl rfl ?aP (fun _ hk => hk.elim) ?aF ?aO ?aB ?aS ?aL ?_; (case aP => exact rfl); (case aB => exact z3_1_); (case aF => exact (fun _ _ => trivial)); (case aO => exact z3_2_); (case aS => exact (below_size z3_1_)); (case aL => have := LMc29.out; omega); intro v187 w32 ho hb hg hat; rw [← Ny186.out] at ho; have _ := A_ (Kd.R_over' z3_6_ (Kd.R_typed z3_2_) (by decide) hg); have _ := A_ (hb); have _ := A_ (ho); clear HO_4 HB HO_3; rename_i HO_4 HB HO188; clear ho hb hg hat)))
                      (try simp only [← hl4_2])
                      go_roundg k2
                      case measure => have := HK1.out; have := HK2.out; omega
                      case rel => exact ⟨(y186), (y183), (wrap64 (x7_2 + 1)), z3_5_, H', ⟨(by have := HK1.out; have := HK2.out; omega)⟩, ⟨(by (try simp only [hl4_1]); (try simp only [hl4_2]); (with_reducible repeat (first | apply Kd.R_alloc | apply Kd.R_drewN | apply Kd.R_drew)); exact HO188.out)⟩, ⟨z3_4_⟩, ⟨z3_1_⟩⟩
                     ·
                      rw [if_neg c29] at H
                      exact absurd H (by simp)
                   ·
                    rw [if_neg c25] at H
                    exact absurd H (by simp)
                  ·
                   rw [if_neg c24] at H
                   exact absurd H (by simp)
                 ·
                  rw [if_neg c23] at H
                  exact absurd H (by simp)
                ·
                 rw [if_neg c22] at H
                 exact absurd H (by simp)
               ·
                rw [if_neg c21] at H
                exact absurd H (by simp)
              ·
               rw [if_neg c20] at H
               have c20b0 := decide_eq_false c20
               clear c20
               have H' := A_ H
               clear H
               go_wp2_with (first | (go_at_call 68; (with_reducible refine (spec_l06Ways.calls _ ([rd_T89 ((rd_T34 l0 0).f0) (rd x3_1 x5_1)]).length [rd_T89 ((rd_T34 l0 0).f0) (rd x3_1 x5_1)] t178 _ ?side1 ?side2 A19.out).mono ?_); (case side1 => have hx_ := (Kd.C_below HR177.out HB.out); exact kc_); (case side2 => exact Nat.le_refl _); rintro e w' ⟨rfl, ⟨nd, rfl⟩⟩; (try first | exact ⟨rfl, _, World.drewN_drewN _ _ _⟩ | exact ⟨rfl, _, Eq.trans (World.drewN_drewN _ _ _) (congrArg (World.drewN _) (Nat.add_assoc _ _ _))⟩)))
               repeat (go_quiet (first | (go_at_call 68; (with_reducible refine (spec_l06Ways.calls _ ([rd_T89 ((rd_T34 l0 0).f0) (rd x3_1 x5_1)]).length [rd_T89 ((rd_T34 l0 0).f0) (rd x3_1 x5_1)] t178 _ ?side1 ?side2 A19.out).mono ?_); (case side1 => have hx_ := (Kd.C_below HR177.out HB.out); exact kc_); (case side2 => exact Nat.le_refl _); rintro e w' ⟨rfl, ⟨nd, rfl⟩⟩; (try first | exact ⟨rfl, _, World.drewN_drewN _ _ _⟩ | exact ⟨rfl, _, Eq.trans (World.drewN_drewN _ _ _) (congrArg (World.drewN _) (Nat.add_assoc _ _ _))⟩))); try go_wp2_with (first | (go_at_call 68; (with_reducible refine (spec_l06Ways.calls _ ([rd_T89 ((rd_T34 l0 0).f0) (rd x3_1 x5_1)]).length [rd_T89 ((rd_T34 l0 0).f0) (rd x3_1 x5_1)] t178 _ ?side1 ?side2 A19.out).mono ?_); (case side1 => have hx_ := (Kd.C_below HR177.out HB.out); exact kc_); (case side2 => exact Nat.le_refl _); rintro e w' ⟨rfl, ⟨nd, rfl⟩⟩; (try first | exact ⟨rfl, _, World.drewN_drewN _ _ _⟩ | exact ⟨rfl, _, Eq.trans (World.drewN_drewN _ _ _) (congrArg (World.drewN _) (Nat.add_assoc _ _ _))⟩))))
               (try simp only [← hl4_1, ← hl4_2])
               go_roundg k2
               case measure => have := HK1.out; have := HK2.out; omega
               case rel => exact ⟨(x3_2), (x4_2), (wrap64 (x5_1 + 1)), z3_5_, H', ⟨(by have := HK1.out; have := HK2.out; omega)⟩, ⟨z3_7_⟩, ⟨z3_4_⟩, ⟨z3_1_⟩⟩
           ·
            rw [if_neg c17] at H
            exact absurd H (by simp)
          ·
           rw [if_neg c16] at H
           exact absurd H (by simp)
         ·
          rw [if_neg c15] at H
          exact absurd H (by simp)
        ·
         rw [if_neg c14] at H
         exact absurd H (by simp)
       ·
        rw [if_neg c13] at H
        have c13b0 := decide_eq_false c13
        clear c13
        obtain rfl := Option.some.inj H
        obtain ⟨Ao33, co33, eo33⟩ := Kd.R_slice HO_3.out
        subst eo33
        go_wp2
        repeat (go_quiet (fail); try go_wp2)
        go_ret
        exact ⟨_, (by first | rfl | (simp [errW_none, errW_some] <;> rfl) | (simp [*, errW_none, errW_some] <;> rfl)), z3_2_, z3_1_⟩
    ·
     rw [if_neg c5] at H
     exact absurd H (by simp)
   ·
    rw [if_neg c4] at H
    exact absurd H (by simp)
  ·
   rw [if_neg c3] at H
   exact absurd H (by simp)
 ·
  rw [if_neg c2] at H
  exact absurd H (by simp)
end Go.Proofs.Ytpfnohdnaocpdaa.PT

-- Written by a program (xprint.py) out of the translation's own print; Lean checks it.
import Derived.Test.YtenhgmddpkiliaaPBx0
import Derived.Test.YtenhgmddpkiliaaPBx1
import Derived.Test.YtenhgmddpkiliaaPBx4
import Derived.Test.YtenhgmddpkiliaaPBx5
import Derived.Test.YtenhgmddpkiliaaPBx6
import Derived.Test.YtenhgmddpkiliaaPBlineOf
namespace Go.Proofs.Ytenhgmddpkiliaa.PB
open Go.RowKit Go.Proofs.YtenhgmddpkiliaaW.PrintWords Go.Proofs.YtenhgmddpkiliaaW.PrintLast Go.Proofs.YtenhgmddpkiliaaW.PrintMore Go.Proofs.YtenhgmddpkiliaaRP
attribute [local go_sem] max2_int min2_int max_two min_two max_three min_three max_four min_four Go.Proofs.YtenhgmddpkiliaaRP.max_eight   -- for this text's walks alone
set_option linter.unusedVariables false
set_option linter.unusedSimpArgs false
/-! ### impl_needs: function 66 -/
mutual
def impl_needs.l0 : Nat → List (S45) → List Bool → List Int → Option (List Bool)
 | 0, _, _, _ => none
 | k + 1, x0, x5, x6 => if (x6.length : Int) > 0 then (if 0 < (x6.length : Int) then (if 0 ≤ (rd x6 0) then (if (rd x6 0) < (x0.length : Int) then (if 1 ≤ (x6.length : Int) then ((impl_Line_used.f k [rd_T45 x0 (rd x6 0)]).bind fun t223 => (impl_needs.l1 k x0 x5 (x6.drop (1 : Int).toNat) t223 (t223.length : Int) 0)) else (none)) else (none)) else (none)) else (none)) else (some x5)
def impl_needs.l1 : Nat → List (S45) → List Bool → List Int → List ByteArray → Int → Int → Option (List Bool)
 | 0, _, _, _, _, _, _ => none
 | k + 1, x0, x5, x6, x27, x28, x29 => if x29 < x28 then (if 0 ≤ x29 then (if x29 < (x27.length : Int) then ((impl_lineOf.f x0 (rdOf ByteArray.empty x27 x29)).bind fun t227 => (if 0 ≤ t227 then (if t227 < (x5.length : Int) then (if rdOf false x5 t227 = true then (impl_needs.l1 k x0 x5 x6 x27 x28 (wrap64 (x29 + 1))) else (if x6.length < 17592186044416 then (impl_needs.l1 k x0 (x5.set (t227 : Int).toNat true) (x6 ++ [t227]) x27 x28 (wrap64 (x29 + 1))) else (none))) else (none)) else (none))) else (none)) else (none)) else (impl_needs.l0 k x0 x5 x6)
end
def impl_needs.f (k : Nat) (l0 : List (S45)) (a1 : Int) : Option (List Bool) := if 0 ≤ (l0.length : Int) then (if ((l0.length : Int) : Int).toNat ≤ 281474976710656 then (impl_needs.l0 k l0 (List.replicate ((l0.length : Int) : Int).toNat false) (([a1] : List Int))) else (none)) else (none)
theorem impl_needs.mono_l : ∀ k, (∀ y0 y1 y2, LeO (impl_needs.l0 k y0 y1 y2) (impl_needs.l0 (k + 1) y0 y1 y2)) ∧ (∀ y0 y1 y2 y3 y4 y5, LeO (impl_needs.l1 k y0 y1 y2 y3 y4 y5) (impl_needs.l1 (k + 1) y0 y1 y2 y3 y4 y5))
 | 0 => ⟨fun _ _ _ r h => by simp [impl_needs.l0] at h, fun _ _ _ _ _ _ r h => by simp [impl_needs.l1] at h⟩
 | k + 1 => by
  obtain ⟨ih0, ih1⟩ := impl_needs.mono_l k
  refine ⟨?_, ?_⟩
  ·
   intro y0 y1 y2
   unfold impl_needs.l0
   repeat' first
   | (with_reducible exact ih0 _ _ _)
   | (with_reducible exact ih1 _ _ _ _ _ _)
   | (with_reducible exact impl_Line_used.mono _ _)
   | (with_reducible exact LeO.refl _)
   | (with_reducible exact LeO.none _)
   | (with_reducible refine LeO.ite ?_ ?_)
   | (with_reducible refine LeO.bind ?_ (fun _ => ?_))
   | exact ih0 _ _ _
   | exact ih1 _ _ _ _ _ _
   | exact LeO.none _
   | refine LeO.ite ?_ ?_
   | refine LeO.bind ?_ (fun _ => ?_)
  ·
   intro y0 y1 y2 y3 y4 y5
   unfold impl_needs.l1
   repeat' first
   | (with_reducible exact ih0 _ _ _)
   | (with_reducible exact ih1 _ _ _ _ _ _)
   | (with_reducible exact impl_Line_used.mono _ _)
   | (with_reducible exact LeO.refl _)
   | (with_reducible exact LeO.none _)
   | (with_reducible refine LeO.ite ?_ ?_)
   | (with_reducible refine LeO.bind ?_ (fun _ => ?_))
   | exact ih0 _ _ _
   | exact ih1 _ _ _ _ _ _
   | exact LeO.none _
   | refine LeO.ite ?_ ?_
   | refine LeO.bind ?_ (fun _ => ?_)
theorem impl_needs.mono : ∀ a0 a1 k, LeO (impl_needs.f k a0 a1) (impl_needs.f (k + 1) a0 a1) := by
 intro a0 a1 k
 obtain ⟨ih0, ih1⟩ := impl_needs.mono_l k
 unfold impl_needs.f
 repeat' first
   | (with_reducible exact ih0 _ _ _)
   | (with_reducible exact ih1 _ _ _ _ _ _)
   | (with_reducible exact impl_Line_used.mono _ _)
   | (with_reducible exact LeO.refl _)
   | (with_reducible exact LeO.none _)
   | (with_reducible refine LeO.ite ?_ ?_)
   | (with_reducible refine LeO.bind ?_ (fun _ => ?_))
   | exact ih0 _ _ _
   | exact ih1 _ _ _ _ _ _
   | exact LeO.none _
   | refine LeO.ite ?_ ?_
   | refine LeO.bind ?_ (fun _ => ?_)
set_option maxHeartbeats 8000000 in
set_option maxRecDepth 100000 in
theorem impl_needs.calls (k : Nat) (A0 : Option Addr) (c0 : Nat) (l0 : List (S45)) (a1 : Int) (r : List Bool) (w : World) (hr0 : Kd.C k45 w A0 l0.length l0) (hc0 : l0.length ≤ c0) (h : impl_needs.f k l0 a1 = some r) :
  Calls Try.prog 66 #[.slice A0 l0.length c0, .int .i64 a1] w fun e w' => ∃ v0_ : Value, e = .returned (v0_) ∧ Kd.R Kd.bool 4 w' w.heap.size (fun _ => True) v0_ r ∧ Below w.heap.size w w' := by
 have HR0 := Aside0.mk hr0
 have HC0 := Aside0.mk hc0
 clear hr0 hc0
 have HB := Aside0.mk (Below.refl w.heap.size w)
 have H : (if 0 ≤ (l0.length : Int) then (if ((l0.length : Int) : Int).toNat ≤ 281474976710656 then (impl_needs.l0 k l0 (List.replicate ((l0.length : Int) : Int).toNat false) (([a1] : List Int))) else (none)) else (none)) = some r := h
 clear h
 by_cases c3 : 0 ≤ (l0.length : Int)
 ·
  rw [if_pos c3] at H
  have c3b0 := eq_true c3
  have c3b1 : decide (0 ≤ (l0.length : Int)) = true := decide_eq_true c3
  clear c3
  by_cases c4 : ((l0.length : Int) : Int).toNat ≤ 281474976710656
  ·
   rw [if_pos c4] at H
   have c4b0 := eq_true c4
   have c4b1 : decide (((l0.length : Int) : Int).toNat ≤ 281474976710656) = true := decide_eq_true c4
   clear c4
   obtain ⟨y211, hy211⟩ : ∃ y_ : List Bool, y_ = (List.replicate ((l0.length : Int) : Int).toNat false) := ⟨_, rfl⟩
   replace H : (impl_needs.l0 k l0 y211 (([a1] : List Int))) = some r := by first | (rw [hy211]; with_reducible exact H) | (have H2_ := (Option.bind_some _ _).symm.trans H; rw [hy211]; with_reducible exact H2_) | (have H2_ := (Option.bind_some _ _).symm.trans H; with_reducible exact H2_) | with_reducible exact H | (rw [hy211]; exact H) | exact H
   have Ny211 := Aside0.mk hy211
   clear hy211
   obtain ⟨y214, hy214⟩ : ∃ y_ : List Int, y_ = (([a1] : List Int)) := ⟨_, rfl⟩
   replace H : (impl_needs.l0 k l0 y211 y214) = some r := by first | (rw [hy214]; with_reducible exact H) | (have H2_ := (Option.bind_some _ _).symm.trans H; rw [hy214]; with_reducible exact H2_) | (have H2_ := (Option.bind_some _ _).symm.trans H; with_reducible exact H2_) | with_reducible exact H | (rw [hy214]; exact H) | exact H
   have Ny214 := Aside0.mk hy214
   clear hy214
   have H' := Aside0.mk H
   clear H
   go_enter Try.func66, Try.ntmps66
   go_wp2_with (first | ((with_reducible refine gate_dst (N := 13) rfl ?_); refine Kd.R_make Kd.bool _ 4 rfl (N := 13) rfl 77 _ _ rfl (l0.length : Int) rfl rfl Try.underlying77 (.bool false) 1 info4 rfl (by decide) (by omega) false (ok := fun _ => True) (okp := fun _ => True) rfl (fun _ hk => hk) trivial (of_decide_eq_true (by assumption)) (Nat.le_trans (Nat.mul_le_mul_right _ (of_decide_eq_true (by assumption) : (l0.length : Int).toNat ≤ 281474976710656)) (by omega)) (Below.refl _ _) (Nat.le_refl _) ?_; intro v212 w5 ho6 hb hg_ hnew_; clear hg_ hnew_; (first | rw [← Ny211.out] at ho6 | (simp only [Int.reduceToNat] at ho6; rw [← Ny211.out] at ho6)); have n0_ := Aside0.mk (Kd.R_lower ho6 (below_size (by repeat (first | (with_reducible first | exact HB.out | apply below_alloc | apply pw_below_drewN | apply below_drew1) | exact HB.out)))); have n1_ := Aside0.mk (below_step (by repeat (first | (with_reducible first | exact HB.out | apply below_alloc | apply pw_below_drewN | apply below_drew1) | exact HB.out)) hb); clear HB; have HO213 := n0_; have HB := n1_; clear n0_ n1_; clear hb ho6) | ((with_reducible refine gate_dst (N := 15) rfl ?_); refine Kd.R_lit (Kd.int .i64) _ 3 ?hg (N := 15) ?hd (xs := ([a1] : List Int)) (inner := [.int .i64 a1]) (ok := fun _ => True) (okp := fun _ => True) ?hr ?hp (fun _ hk => hk) trivial (Below.refl _ _) (Nat.le_refl _) (by simp) ?_; (case hd => rfl); (case hg => rfl); (case hr => first | (go_simp; done) | (go_simp; rfl)); (case hp => exact (Reps.one (show Kd.M (Kd.int .i64) _ _ _ a1 [.int .i64 a1] from rfl) (Reps.none _ _))); intro v215 w7 ho8 hb hg_ hnew_; clear hg_ hnew_; (first | rw [← Ny214.out] at ho8 | (simp only [Int.reduceToNat] at ho8; rw [← Ny214.out] at ho8)); have n0_ := Aside0.mk (Kd.R_below (by (with_reducible repeat (first | apply Kd.R_alloc | apply Kd.R_drewN | apply Kd.R_drew)); exact HO213.out) hb); have n1_ := Aside0.mk (Kd.R_lower ho8 (below_size (by repeat (first | (with_reducible first | exact HB.out | apply below_alloc | apply pw_below_drewN | apply below_drew1) | exact HB.out)))); have n2_ := Aside0.mk (below_step (by repeat (first | (with_reducible first | exact HB.out | apply below_alloc | apply pw_below_drewN | apply below_drew1) | exact HB.out)) hb); clear HO213; clear HB; have HO213 := n0_; have HO216 := n1_; have HB := n2_; clear n0_ n1_ n2_; clear hb ho8))
   go_loopg [6] k (fun kq v6 w' => ∃ (x5_1 : List Bool) (x6_1 : List Int), Aside0 (impl_needs.l0 kq l0 x5_1 x6_1 = some r) ∧ Aside0 (kq ≤ k) ∧ Aside0 (Kd.R Kd.bool 4 w' w.heap.size (fun _ => True) v212 x5_1) ∧ Aside0 (Kd.Q (Kd.int .i64) 3 w' w.heap.size (fun _ => True) v6 x6_1) ∧ Aside0 (Below w.heap.size w w'))
   case atStart => exact ⟨(y211), (y214), H', ⟨Nat.le_refl _⟩, ⟨by (with_reducible repeat (first | apply Kd.R_alloc | apply Kd.R_drewN | apply Kd.R_drew)); exact HO213.out⟩, ⟨Kd.Q_of_R (by (with_reducible repeat (first | apply Kd.R_alloc | apply Kd.R_drewN | apply Kd.R_drew)); exact HO216.out)⟩, ⟨by repeat (first | (with_reducible first | exact HB.out | apply below_alloc | apply pw_below_drewN | apply below_drew1) | exact HB.out)⟩⟩
   case round =>
    clear H'
    try clear p2
    try clear c3
    try clear c3b0
    try clear c3b1
    try clear c4
    try clear c4b0
    try clear c4b1
    try clear c6
    obtain ⟨x5_1, x6_1, HA, HK1, HO_5, HO_6, HB⟩ := hrel
    cases gk with
    | zero => exact absurd HA.out (by simp [impl_needs.l0])
    | succ k1 =>
     have H := HA.out
     clear HA
     simp only [impl_needs.l0] at H
     by_cases c9 : (x6_1.length : Int) > 0
     ·
      rw [if_pos c9] at H
      have c9b0 : decide (0 < (x6_1.length : Int)) = true := decide_eq_true c9
      have c9b1 : decide (0 < x6_1.length) = true := decide_eq_true (by omega)
      clear c9
      by_cases c10 : 0 < (x6_1.length : Int)
      ·
       rw [if_pos c10] at H
       have c10b0 : decide (0 < (x6_1.length : Int)) = true := decide_eq_true c10
       have c10b1 : decide (0 < x6_1.length) = true := decide_eq_true (by omega)
       clear c10
       by_cases c11 : 0 ≤ (rd x6_1 0)
       ·
        rw [if_pos c11] at H
        have c11b0 : decide (0 ≤ (rd x6_1 0)) = true := decide_eq_true c11
        clear c11
        by_cases c12 : (rd x6_1 0) < (l0.length : Int)
        ·
         rw [if_pos c12] at H
         have c12b0 : decide ((rd x6_1 0) < (l0.length : Int)) = true := decide_eq_true c12
         clear c12
         by_cases c13 : 1 ≤ (x6_1.length : Int)
         ·
          rw [if_pos c13] at H
          have c13b0 := eq_true c13
          have c13b1 : decide (1 ≤ (x6_1.length : Int)) = true := decide_eq_true c13
          clear c13
          obtain ⟨y220, hy220⟩ : ∃ y_ : List Int, y_ = (x6_1.drop (1 : Int).toNat) := ⟨_, rfl⟩
          replace H : ((impl_Line_used.f k1 [rd_T45 l0 (rd x6_1 0)]).bind fun t223 => (impl_needs.l1 k1 l0 x5_1 y220 t223 (t223.length : Int) 0)) = some r := by first | (rw [hy220]; with_reducible exact H) | (have H2_ := (Option.bind_some _ _).symm.trans H; rw [hy220]; with_reducible exact H2_) | (have H2_ := (Option.bind_some _ _).symm.trans H; with_reducible exact H2_) | with_reducible exact H | (rw [hy220]; exact H) | exact H
          have Ny220 := Aside0.mk hy220
          clear hy220
          replace H := Option.bind_eq_some_iff.mp H
          obtain ⟨t223, A140, H⟩ := H
          replace H : (impl_needs.l1 k1 l0 x5_1 y220 t223 (t223.length : Int) 0) = some r := H
          have A14 := Aside0.mk A140
          clear A140
          have H' := Aside0.mk H
          clear H
          obtain ⟨Ao15, co15, eo15, _⟩ := Kd.Q_slice HO_6.out
          subst eo15
          have p217 : 0 ≤ (0 : Int) := (by omega)
          have q217 : 0 < (x6_1.length : Int) := of_decide_eq_true (by assumption)
          obtain ⟨ad217, e217, hx217_0⟩ := Kd.at_int (Kd.Q_reads' HO_6.out).2.2 0 p217 q217
          cases e217
          have qi217 : (0 < x6_1.length) = True := eq_true (by omega)
          (try rw [show ((0 : Int)).toNat = 0 from rfl] at hx217_0)
          (try rw [Addr.add_zero'] at hx217_0)
          replace p217 := eq_true p217
          replace q217 := eq_true q217
          have p218 : 0 ≤ ((rd x6_1 0) : Int) := of_decide_eq_true (by assumption)
          have q218 : (rd x6_1 0) < (l0.length : Int) := of_decide_eq_true (by assumption)
          obtain ⟨ad218, e218, hx218_0, hx218_1, hx218_2, hx218_3, hx218_4, hx218_5⟩ := at_T45 HR0.out (rd x6_1 0) p218 q218
          cases e218
          replace hx218_0 := (HB.out.cell (World.block_lt_of_cell? w _ hx218_0)).trans hx218_0
          replace hx218_1 := (HB.out.cell (World.block_lt_of_cell? w _ hx218_1)).trans hx218_1
          replace hx218_2 := (HB.out.cell (World.block_lt_of_cell? w _ hx218_2)).trans hx218_2
          replace hx218_3 := (HB.out.cell (World.block_lt_of_cell? w _ hx218_3)).trans hx218_3
          replace hx218_4 := (HB.out.cell (World.block_lt_of_cell? w _ hx218_4)).trans hx218_4
          replace hx218_5 := (HB.out.cell (World.block_lt_of_cell? w _ hx218_5)).trans hx218_5
          replace p218 := eq_true p218
          replace q218 := eq_true q218
          have HR219 := Aside0.mk (show Kd.C k45 w (some (Addr.add ad218 ((rd x6_1 0).toNat * 6))) [rd_T45 l0 (rd x6_1 0)].length [rd_T45 l0 (rd x6_1 0)] from Kd.C_el k45 z45 HR0.out ((rd x6_1 0) : Int) (of_eq_true p218) (of_eq_true q218))
          have q16 : (1 : Int) ≤ ((x6_1.length : Int) : Int) := of_decide_eq_true (by assumption)
          obtain ⟨i016, hi016, _, hsz16, _⟩ := info_parts info3
          have hcut16 := cut_from (P := Try.prog) 134 3 .i64 Try.underlying134 hi016 1 hsz16 (some ad217) x6_1.length co15 1 (by omega) q16
          have hr16 := Kd.Q_drop (k := (1 : Int).toNat) HO_6.out (by omega)
          obtain ⟨A16, hA16⟩ : ∃ A1, A1 = (if co15 = (1 : Int).toNat then (some ad217) else ((some ad217) : Option Addr).map (·.add ((1 : Int).toNat * 1))) := ⟨_, rfl⟩
          obtain ⟨c16, hc16⟩ : ∃ c1, c1 = co15 - (1 : Int).toNat := ⟨_, rfl⟩
          have hy16 : y220.length = x6_1.length - (1 : Int).toNat := (by rw [Ny220.out, List.length_drop])
          rw [← Ny220.out] at hr16
          rw [← hy16, ← hA16, ← hc16] at hcut16
          replace hr16 : Kd.Q (Kd.int .i64) 3 wr w.heap.size (fun _ => True) (.slice A16 y220.length c16) y220 := (by rw [hA16, hc16, hy16]; exact hr16)
          have HE16 : Aside0 ((Value.slice A16 y220.length c16).ownBlock = (.slice (some ad217) x6_1.length co15 : Value).ownBlock) := ⟨by rw [hA16]; split <;> (cases ((some ad217) : Option Addr) <;> rfl)⟩
          clear hy16 hi016 hsz16 HO_6 hA16 hc16
          have HO222 := Aside0.mk hr16
          clear hr16
          replace q16 := eq_true q16
          go_wp2_with (first | ((with_reducible refine gate_callee (f := 106) rfl ?_); refine goesL_ (some 27) rfl rfl Try.func106 (by kernel_rfl) rfl #[.pointer (some (Addr.add ad218 ((rd x6_1 0).toNat * 6)))] rfl (by (try simp only [List.map_toArray, List.map_cons, List.map_nil]); first | done | rfl | (simp only [List.length_drop, List.length_take]; rfl)) ?_; (with_reducible refine (impl_Line_used.calls k1 _ ([rd_T45 l0 (rd x6_1 0)]).length [rd_T45 l0 (rd x6_1 0)] t223 _ ?side1 ?side2 A14.out).mono ?_); (case side1 => repeat (first | exact (Kd.C_below HR219.out HB.out) | (with_reducible refine Kd.C_alloc ?_ _) | (with_reducible refine Kd.C_drewN ?_ _) | (with_reducible refine Kd.C_drew ?_))); (case side2 => exact Nat.le_refl _); rintro e w17 ⟨v224, rfl, ho0, hb⟩; refine ⟨_, rfl, ?_⟩; have n0_ := Aside0.mk (Kd.R_below (by (with_reducible repeat (first | apply Kd.R_alloc | apply Kd.R_drewN | apply Kd.R_drew)); exact HO_5.out) hb); have n1_ := Aside0.mk (Kd.Q_below (by (with_reducible repeat (first | apply Kd.Q_alloc | apply Kd.Q_drewN | apply Kd.Q_drew)); exact HO222.out) hb); have n2_ := Aside0.mk (Kd.R_lower ho0 (below_size (by repeat (first | (with_reducible first | exact HB.out | apply below_alloc | apply pw_below_drewN | apply below_drew1) | exact HB.out)))); have n3_ := Aside0.mk (below_step (by repeat (first | (with_reducible first | exact HB.out | apply below_alloc | apply pw_below_drewN | apply below_drew1) | exact HB.out)) hb); clear HO_5; clear HO222; clear HB; have HO_5 := n0_; have HO222 := n1_; have HO225 := n2_; have HB := n3_; clear n0_ n1_ n2_ n3_; (try clear hb); (try clear hb2); (try clear hk); (try clear hi); (try clear ho0); obtain ⟨Ao18, co18, eo18⟩ := Kd.R_slice HO225.out; subst eo18))
          go_loopg [6, 29] k1 (fun kq v6 v29 w' => ∃ (x5_2 : List Bool) (x6_2 : List Int) (x29_2 : Int), v29 = .int .i64 x29_2 ∧ Aside0 (impl_needs.l1 kq l0 x5_2 x6_2 t223 (t223.length : Int) x29_2 = some r) ∧ Aside0 (kq ≤ k1) ∧ Aside0 (Kd.R Kd.bool 4 w' w.heap.size (fun _ => True) v212 x5_2) ∧ Aside0 (Kd.Q (Kd.int .i64) 3 w' w.heap.size (fun _ => True) v6 x6_2) ∧ Aside0 (Kd.R Kd.string 9 w' w.heap.size (fun _ => True) (.slice Ao18 t223.length co18) t223) ∧ Aside0 (Below w.heap.size w w'))
          case atStart => exact ⟨(x5_1), (y220), (0), (by first | rfl | (simp; done) | (simp [*]; done) | (simp [isE_]; done)), H', ⟨Nat.le_refl _⟩, ⟨by (with_reducible repeat (first | apply Kd.R_alloc | apply Kd.R_drewN | apply Kd.R_drew)); exact HO_5.out⟩, ⟨by (with_reducible repeat (first | apply Kd.Q_alloc | apply Kd.Q_drewN | apply Kd.Q_drew)); exact HO222.out⟩, ⟨by (with_reducible repeat (first | apply Kd.R_alloc | apply Kd.R_drewN | apply Kd.R_drew)); exact HO225.out⟩, ⟨by repeat (first | (with_reducible first | exact HB.out | apply below_alloc | apply pw_below_drewN | apply below_drew1) | exact HB.out)⟩⟩
          case round =>
           clear H'
           try clear c1
           try clear q1
           try clear p2
           try clear q2
           try clear hx2
           try clear qi2
           try clear c3
           try clear c3b0
           try clear c3b1
           try clear c4
           try clear c4b0
           try clear c4b1
           try clear c6
           try clear c9
           try clear c9b0
           try clear c9b1
           try clear c10
           try clear c10b0
           try clear c10b1
           try clear c11
           try clear c11b0
           try clear c12
           try clear c12b0
           try clear c13
           try clear c13b0
           try clear c13b1
           try clear c16
           try clear q16
           try clear hx217_0
           try clear hx218_0
           try clear hx218_1
           try clear hx218_2
           try clear hx218_3
           try clear hx218_4
           try clear hx218_5
           try clear p2
           try clear p217
           try clear p218
           try clear q16
           try clear q217
           try clear q218
           obtain ⟨x5_2, x6_2, x29_2, rfl, HA, HK2, HO_5, HO_6, HO_27, HB⟩ := hrel
           cases gk with
           | zero => exact absurd HA.out (by simp [impl_needs.l1])
           | succ k2 =>
            have H := HA.out
            clear HA
            simp only [impl_needs.l1] at H
            by_cases c19 : x29_2 < (t223.length : Int)
            ·
             rw [if_pos c19] at H
             have c19b0 : decide (x29_2 < (t223.length : Int)) = true := decide_eq_true c19
             clear c19
             by_cases c20 : 0 ≤ x29_2
             ·
              rw [if_pos c20] at H
              have c20b0 : decide (0 ≤ x29_2) = true := decide_eq_true c20
              clear c20
              by_cases c21 : x29_2 < (t223.length : Int)
              ·
               rw [if_pos c21] at H
               have c21b0 : decide (x29_2 < (t223.length : Int)) = true := decide_eq_true c21
               clear c21
               replace H := Option.bind_eq_some_iff.mp H
               obtain ⟨t227, A220, H⟩ := H
               replace H : (if 0 ≤ t227 then (if t227 < (x5_2.length : Int) then (if rdOf false x5_2 t227 = true then (impl_needs.l1 k2 l0 x5_2 x6_2 t223 (t223.length : Int) (wrap64 (x29_2 + 1))) else (if x6_2.length < 17592186044416 then (impl_needs.l1 k2 l0 (x5_2.set (t227 : Int).toNat true) (x6_2 ++ [t227]) t223 (t223.length : Int) (wrap64 (x29_2 + 1))) else (none))) else (none)) else (none)) = some r := H
               have A22 := Aside0.mk A220
               clear A220
               by_cases c23 : 0 ≤ t227
               ·
                rw [if_pos c23] at H
                have c23b0 : decide (0 ≤ t227) = true := decide_eq_true c23
                clear c23
                by_cases c24 : t227 < (x5_2.length : Int)
                ·
                 rw [if_pos c24] at H
                 have c24b0 : decide (t227 < (x5_2.length : Int)) = true := decide_eq_true c24
                 clear c24
                 obtain ⟨bq25, hbq25⟩ : ∃ b_ : Bool, b_ = (rdOf false x5_2 t227) := ⟨_, rfl⟩
                 replace H : (if bq25 = true then (impl_needs.l1 k2 l0 x5_2 x6_2 t223 (t223.length : Int) (wrap64 (x29_2 + 1))) else (if x6_2.length < 17592186044416 then (impl_needs.l1 k2 l0 (x5_2.set (t227 : Int).toNat true) (x6_2 ++ [t227]) t223 (t223.length : Int) (wrap64 (x29_2 + 1))) else (none))) = some r := by rw [← hbq25] at H; exact H
                 have Nbq25 := Aside0.mk hbq25
                 clear hbq25
                 by_cases c26 : bq25 = true
                 ·
                  subst c26
                  have H1 : (impl_needs.l1 k2 l0 x5_2 x6_2 t223 (t223.length : Int) (wrap64 (x29_2 + 1))) = some r := by first | (rw [if_pos rfl] at H; exact H) | rfl
                  clear H
                  have H := H1
                  clear H1
                  have H' := Aside0.mk H
                  clear H
                  have p226 : 0 ≤ (x29_2 : Int) := of_decide_eq_true (by assumption)
                  have q226 : x29_2 < (t223.length : Int) := of_decide_eq_true (by assumption)
                  obtain ⟨ad226, e226, hx226_0⟩ := Kd.at_string (Kd.R_reads' HO_27.out).2.2 x29_2 p226 q226
                  cases e226
                  replace p226 := eq_true p226
                  replace q226 := eq_true q226
                  go_wp2_with (first | ((with_reducible refine gate_callee (f := 79) rfl ?_); refine goesL_ (some 35) rfl rfl Try.func79 (by kernel_rfl) rfl #[.slice (some ad218) l0.length c0, .string (rdOf ByteArray.empty t223 x29_2)] rfl (by (try simp only [List.map_toArray, List.map_cons, List.map_nil]); first | done | rfl | (simp only [List.length_drop, List.length_take]; rfl)) ?_; (with_reducible refine (impl_lineOf.calls _ _ l0 (rdOf ByteArray.empty t223 x29_2) t227 _ ?side1 ?side2 A22.out).mono ?_); (case side1 => repeat (first | exact (Kd.C_below HR0.out HB.out) | (with_reducible refine Kd.C_alloc ?_ _) | (with_reducible refine Kd.C_drewN ?_ _) | (with_reducible refine Kd.C_drew ?_))); (case side2 => exact HC0.out); rintro e w27 ⟨rfl, hb⟩; refine ⟨_, rfl, ?_⟩; have n0_ := Aside0.mk (Kd.R_below (by (with_reducible repeat (first | apply Kd.R_alloc | apply Kd.R_drewN | apply Kd.R_drew)); exact HO_5.out) hb); have n1_ := Aside0.mk (Kd.Q_below (by (with_reducible repeat (first | apply Kd.Q_alloc | apply Kd.Q_drewN | apply Kd.Q_drew)); exact HO_6.out) hb); have n2_ := Aside0.mk (Kd.R_below (by (with_reducible repeat (first | apply Kd.R_alloc | apply Kd.R_drewN | apply Kd.R_drew)); exact HO_27.out) hb); have n3_ := Aside0.mk (below_step (by repeat (first | (with_reducible first | exact HB.out | apply below_alloc | apply pw_below_drewN | apply below_drew1) | exact HB.out)) hb); clear HO_5; clear HO_6; clear HO_27; clear HB; have HO_5 := n0_; have HO_6 := n1_; have HO_27 := n2_; have HB := n3_; clear n0_ n1_ n2_ n3_; (try clear hb); (try clear hb2); (try clear hk); (try clear hi); obtain ⟨Ao28, co28, eo28⟩ := Kd.R_slice HO_5.out; subst eo28; have p228 : 0 ≤ (t227 : Int) := of_decide_eq_true (by assumption); have q228 : t227 < (x5_2.length : Int) := of_decide_eq_true (by assumption); obtain ⟨ad228, e228, hx228_0⟩ := Kd.at_bool (Kd.R_reads' HO_5.out).2.2 t227 p228 q228; (try rw [← Nbq25.out] at hx228_0); cases e228; replace p228 := eq_true p228; replace q228 := eq_true q228))
                  go_roundg k2
                  case measure => have := HK1.out; have := HK2.out; omega
                  case rel => exact ⟨(x5_2), (x6_2), (wrap64 (x29_2 + 1)), (by first | rfl | (simp; done) | (simp [*]; done) | (simp [isE_]; done)), H', ⟨by have := HK1.out; have := HK2.out; omega⟩, ⟨by (with_reducible repeat (first | apply Kd.R_alloc | apply Kd.R_drewN | apply Kd.R_drew)); exact HO_5.out⟩, ⟨by (with_reducible repeat (first | apply Kd.Q_alloc | apply Kd.Q_drewN | apply Kd.Q_drew)); exact HO_6.out⟩, ⟨by (with_reducible repeat (first | apply Kd.R_alloc | apply Kd.R_drewN | apply Kd.R_drew)); exact HO_27.out⟩, ⟨by repeat (first | (with_reducible first | exact HB.out | apply below_alloc | apply pw_below_drewN | apply below_drew1) | exact HB.out)⟩⟩
                 ·
                  replace c26 := Bool.eq_false_iff.mpr c26
                  subst c26
                  have H1 : (if x6_2.length < 17592186044416 then (impl_needs.l1 k2 l0 (x5_2.set (t227 : Int).toNat true) (x6_2 ++ [t227]) t223 (t223.length : Int) (wrap64 (x29_2 + 1))) else (none)) = some r := by first | (rw [if_neg (show ¬ (false = true) by decide)] at H; exact H) | rfl
                  clear H
                  have H := H1
                  clear H1
                  obtain ⟨y229, hy229⟩ : ∃ y_ : List Bool, y_ = (x5_2.set (t227 : Int).toNat true) := ⟨_, rfl⟩
                  replace H : (if x6_2.length < 17592186044416 then (impl_needs.l1 k2 l0 y229 (x6_2 ++ [t227]) t223 (t223.length : Int) (wrap64 (x29_2 + 1))) else (none)) = some r := by first | (rw [hy229]; with_reducible exact H) | (have H2_ := (Option.bind_some _ _).symm.trans H; rw [hy229]; with_reducible exact H2_) | (have H2_ := (Option.bind_some _ _).symm.trans H; with_reducible exact H2_) | with_reducible exact H | (rw [hy229]; exact H) | exact H
                  have Ny229 := Aside0.mk hy229
                  clear hy229
                  by_cases c30 : x6_2.length < 17592186044416
                  ·
                   rw [if_pos c30] at H
                   have LMc30 := Aside0.mk c30
                   clear c30
                   obtain ⟨y230, hy230⟩ : ∃ y_ : List Int, y_ = (x6_2 ++ [t227]) := ⟨_, rfl⟩
                   replace H : (impl_needs.l1 k2 l0 y229 y230 t223 (t223.length : Int) (wrap64 (x29_2 + 1))) = some r := by first | (rw [hy230]; with_reducible exact H) | (have H2_ := (Option.bind_some _ _).symm.trans H; rw [hy230]; with_reducible exact H2_) | (have H2_ := (Option.bind_some _ _).symm.trans H; with_reducible exact H2_) | with_reducible exact H | (rw [hy230]; exact H) | exact H
                   have Ny230 := Aside0.mk hy230
                   clear hy230
                   have H' := Aside0.mk H
                   clear H
                   have p226 : 0 ≤ (x29_2 : Int) := of_decide_eq_true (by assumption)
                   have q226 : x29_2 < (t223.length : Int) := of_decide_eq_true (by assumption)
                   obtain ⟨ad226, e226, hx226_0⟩ := Kd.at_string (Kd.R_reads' HO_27.out).2.2 x29_2 p226 q226
                   cases e226
                   replace p226 := eq_true p226
                   replace q226 := eq_true q226
                   go_wp2_with (first | ((with_reducible refine gate_callee (f := 79) rfl ?_); refine goesL_ (some 35) rfl rfl Try.func79 (by kernel_rfl) rfl #[.slice (some ad218) l0.length c0, .string (rdOf ByteArray.empty t223 x29_2)] rfl (by (try simp only [List.map_toArray, List.map_cons, List.map_nil]); first | done | rfl | (simp only [List.length_drop, List.length_take]; rfl)) ?_; (with_reducible refine (impl_lineOf.calls _ _ l0 (rdOf ByteArray.empty t223 x29_2) t227 _ ?side1 ?side2 A22.out).mono ?_); (case side1 => repeat (first | exact (Kd.C_below HR0.out HB.out) | (with_reducible refine Kd.C_alloc ?_ _) | (with_reducible refine Kd.C_drewN ?_ _) | (with_reducible refine Kd.C_drew ?_))); (case side2 => exact HC0.out); rintro e w31 ⟨rfl, hb⟩; refine ⟨_, rfl, ?_⟩; have n0_ := Aside0.mk (Kd.R_below (by (with_reducible repeat (first | apply Kd.R_alloc | apply Kd.R_drewN | apply Kd.R_drew)); exact HO_5.out) hb); have n1_ := Aside0.mk (Kd.Q_below (by (with_reducible repeat (first | apply Kd.Q_alloc | apply Kd.Q_drewN | apply Kd.Q_drew)); exact HO_6.out) hb); have n2_ := Aside0.mk (Kd.R_below (by (with_reducible repeat (first | apply Kd.R_alloc | apply Kd.R_drewN | apply Kd.R_drew)); exact HO_27.out) hb); have n3_ := Aside0.mk (below_step (by repeat (first | (with_reducible first | exact HB.out | apply below_alloc | apply pw_below_drewN | apply below_drew1) | exact HB.out)) hb); clear HO_5; clear HO_6; clear HO_27; clear HB; have HO_5 := n0_; have HO_6 := n1_; have HO_27 := n2_; have HB := n3_; clear n0_ n1_ n2_ n3_; (try clear hb); (try clear hb2); (try clear hk); (try clear hi); obtain ⟨Ao32, co32, eo32⟩ := Kd.R_slice HO_5.out; subst eo32; have p228 : 0 ≤ (t227 : Int) := of_decide_eq_true (by assumption); have q228 : t227 < (x5_2.length : Int) := of_decide_eq_true (by assumption); obtain ⟨ad228, e228, hx228_0⟩ := Kd.at_bool (Kd.R_reads' HO_5.out).2.2 t227 p228 q228; (try rw [← Nbq25.out] at hx228_0); cases e228; replace p228 := eq_true p228; replace q228 := eq_true q228; have p29 : 0 ≤ (t227 : Int) := of_decide_eq_true (by assumption); have q29 : (t227 : Int) < ((x5_2.length : Int) : Int) := of_decide_eq_true (by assumption); obtain ⟨go29, co29, eo29, gb29, gl29, cl29, HG29⟩ := Kd.R_form HO_5.out (by omega); (first | cases eo29 | (injection eo29 with ea_ en_ ec_; (first | subst ea_ | (injection ea_ with ea_; subst ea_)); subst ec_; clear en_)); have GB29 := Aside0.mk gb29; have GG29 := Aside0.mk HG29; clear gb29 gl29 HG29; (first | simp only [add_plain] at hx228_0 | skip); obtain ⟨hx29_0, hf29_0⟩ := Kd.R_celln false HO_5.out (t227 : Int) p29 q29; replace p29 := eq_true p29; replace q29 := eq_true q29; obtain ⟨hy33_, hz33_⟩ := Kd.R_celln false HO_5.out (t227 : Int) (of_decide_eq_true (by assumption)) (of_decide_eq_true (by assumption)); have HP33 := Kd.R_putg HO_5.out (t227 : Int) true) | ((with_reducible refine gate_store (t := 4) (p := 43) rfl ?_); refine store_event (t := 4) (p := 43) (v := ?vo_w34) (w1 := (w31.setCell ⟨go29, (t227 : Int).toNat, none⟩ (.bool true))) ?hg ?ho ?hn ?hr ?_; (case ho => rfl); (case hg => rfl); (case hn => rfl); (case hr => first | (go_simp; done) | (go_simp; rfl)); intro w34 hw; have hg : w31.grownBy w34 (some go29) := (by rw [hw]; exact HP33.2); have hp_ : Kd.R Kd.bool 4 w34 w.heap.size (fun _ => True) (.slice (some ⟨go29, 0, none⟩) x5_2.length co32) y229 := (by rw [hw, Ny229.out]; exact HP33.1); clear HP33; have n0_ := Aside0.mk (hp_); have n1_ := Aside0.mk (Kd.Q_over' (v := (.slice (some ⟨go29, 0, none⟩) x5_2.length co32)) (by (with_reducible repeat (first | apply Kd.Q_alloc | apply Kd.Q_drewN | apply Kd.Q_drew)); exact HO_6.out) (Kd.R_typed HO_5.out) (by decide) hg); have n2_ := Aside0.mk (Kd.R_over' (v := (.slice (some ⟨go29, 0, none⟩) x5_2.length co32)) (by (with_reducible repeat (first | apply Kd.R_alloc | apply Kd.R_drewN | apply Kd.R_drew)); exact HO_27.out) (Kd.R_typed HO_5.out) (by decide) hg); have n3_ := Aside0.mk ((by rw [hw]; exact below_set (HB.out) GB29.out : Below w.heap.size w w34)); clear HO_5; clear HO_6; clear HO_27; clear HB; have HO_5 := n0_; have HO_6 := n1_; have HO_27 := n2_; have HB := n3_; clear n0_ n1_ n2_ n3_; clear hg hw hp_) | ((with_reducible refine gate_builtin (b := .append) (xs := #[.tmp 44, .tmp 46]) rfl ?_); at_builtin; refine Kd.Q_append (Kd.int .i64) (w0 := w) w.heap.size rfl (.tmp 44) (.tmp 46) 134 3 (.int .i64 0) 8 rfl Try.underlying134 info3 rfl (by decide) (by omega) u6 x6_2 t227 [.int .i64 t227] (fun _ => True) (fun _ => False) rfl rfl ?aP (fun _ hk => hk.elim) ?aF ?aO ?aB ?aS ?aL ?_; (case aP => exact rfl); (case aB => exact (by repeat (first | (with_reducible first | exact HB.out | apply below_alloc | apply pw_below_drewN | apply below_drew1) | exact HB.out))); (case aF => exact (fun _ _ => trivial)); (case aO => exact (by (with_reducible repeat (first | apply Kd.Q_alloc | apply Kd.Q_drewN | apply Kd.Q_drew)); exact HO_6.out)); (case aS => exact (below_size (by repeat (first | (with_reducible first | exact HB.out | apply below_alloc | apply pw_below_drewN | apply below_drew1) | exact HB.out)))); (case aL => have := LMc30.out; omega); intro v231 w35 ho hb hg hat; rw [← Ny230.out] at ho; have n0_ := Aside0.mk (Kd.R_over' (by (with_reducible repeat (first | apply Kd.R_alloc | apply Kd.R_drewN | apply Kd.R_drew)); exact HO_5.out) (Kd.Q_typed (by (with_reducible repeat (first | apply Kd.Q_alloc | apply Kd.Q_drewN | apply Kd.Q_drew)); exact HO_6.out)) (by decide) hg); have n1_ := Aside0.mk (Kd.R_over' (by (with_reducible repeat (first | apply Kd.R_alloc | apply Kd.R_drewN | apply Kd.R_drew)); exact HO_27.out) (Kd.Q_typed (by (with_reducible repeat (first | apply Kd.Q_alloc | apply Kd.Q_drewN | apply Kd.Q_drew)); exact HO_6.out)) (by decide) hg); have n2_ := Aside0.mk (hb); have n3_ := Aside0.mk (ho); clear HO_5; clear HO_27; clear HB; clear HO_6; have HO_5 := n0_; have HO_27 := n1_; have HB := n2_; have HO232 := n3_; clear n0_ n1_ n2_ n3_; clear ho hb hg hat))
                   go_roundg k2
                   case measure => have := HK1.out; have := HK2.out; omega
                   case rel => exact ⟨(y229), (y230), (wrap64 (x29_2 + 1)), (by first | rfl | (simp; done) | (simp [*]; done) | (simp [isE_]; done)), H', ⟨by have := HK1.out; have := HK2.out; omega⟩, ⟨by (with_reducible repeat (first | apply Kd.R_alloc | apply Kd.R_drewN | apply Kd.R_drew)); exact HO_5.out⟩, ⟨by (with_reducible repeat (first | apply Kd.Q_alloc | apply Kd.Q_drewN | apply Kd.Q_drew)); exact HO232.out⟩, ⟨by (with_reducible repeat (first | apply Kd.R_alloc | apply Kd.R_drewN | apply Kd.R_drew)); exact HO_27.out⟩, ⟨by repeat (first | (with_reducible first | exact HB.out | apply below_alloc | apply pw_below_drewN | apply below_drew1) | exact HB.out)⟩⟩
                  ·
                   rw [if_neg c30] at H
                   exact absurd H (by simp)
                ·
                 rw [if_neg c24] at H
                 exact absurd H (by simp)
               ·
                rw [if_neg c23] at H
                exact absurd H (by simp)
              ·
               rw [if_neg c21] at H
               exact absurd H (by simp)
             ·
              rw [if_neg c20] at H
              exact absurd H (by simp)
            ·
             rw [if_neg c19] at H
             have c19b0 : decide (x29_2 < (t223.length : Int)) = false := decide_eq_false c19
             clear c19
             have H' := Aside0.mk H
             clear H
             go_wp2
             go_roundg k2
             case measure => have := HK1.out; have := HK2.out; omega
             case rel => exact ⟨(x5_2), (x6_2), H', ⟨by have := HK1.out; have := HK2.out; omega⟩, ⟨by (with_reducible repeat (first | apply Kd.R_alloc | apply Kd.R_drewN | apply Kd.R_drew)); exact HO_5.out⟩, ⟨by (with_reducible repeat (first | apply Kd.Q_alloc | apply Kd.Q_drewN | apply Kd.Q_drew)); exact HO_6.out⟩, ⟨by repeat (first | (with_reducible first | exact HB.out | apply below_alloc | apply pw_below_drewN | apply below_drew1) | exact HB.out)⟩⟩
         ·
          rw [if_neg c13] at H
          exact absurd H (by simp)
        ·
         rw [if_neg c12] at H
         exact absurd H (by simp)
       ·
        rw [if_neg c11] at H
        exact absurd H (by simp)
      ·
       rw [if_neg c10] at H
       exact absurd H (by simp)
     ·
      rw [if_neg c9] at H
      have c9b0 : decide (0 < (x6_1.length : Int)) = false := decide_eq_false c9
      have c9b1 : decide (0 < x6_1.length) = false := decide_eq_false (by omega)
      clear c9
      obtain rfl := Option.some.inj H
      obtain ⟨Ao36, co36, eo36, _⟩ := Kd.Q_slice HO_6.out
      subst eo36
      go_wp2
      go_ret
      exact ⟨_, by first | rfl | (simp [errW_none, errW_some] <;> rfl) | (simp [*, errW_none, errW_some] <;> rfl), by (with_reducible repeat (first | apply Kd.R_alloc | apply Kd.R_drewN | apply Kd.R_drew)); exact HO_5.out, by repeat (first | (with_reducible first | exact HB.out | apply below_alloc | apply pw_below_drewN | apply below_drew1) | exact HB.out)⟩
  ·
   rw [if_neg c4] at H
   exact absurd H (by simp)
 ·
  rw [if_neg c3] at H
  exact absurd H (by simp)
/-! ### impl_ValidBook: function 20 -/
mutual
def impl_ValidBook.j0 : Nat → List (S45) → Bool → Option (Bool)
 | 0, _, _ => none
 | k + 1, x0, x11 => if x11 = true then (some false) else (impl_ValidBook.l0 k x0 (x0.length : Int) 0)
def impl_ValidBook.l0 : Nat → List (S45) → Int → Int → Option (Bool)
 | 0, _, _, _ => none
 | k + 1, x0, x13, x14 => if x14 < x13 then ((impl_needs.f k x0 x14).bind fun t234 => (if 0 ≤ x14 then (if x14 < (t234.length : Int) then (if rdOf false t234 x14 = true then (some false) else (impl_ValidBook.l0 k x0 x13 (wrap64 (x14 + 1)))) else (none)) else (none))) else (some true)
end
def impl_ValidBook.f (k : Nat) (l0 : List (S45)) : Option (Bool) := if (l0.length : Int) > 24 then (impl_ValidBook.j0 k l0 true) else ((impl_linesOk.f k l0).bind fun t233 => (impl_ValidBook.j0 k l0 (!t233)))
theorem impl_ValidBook.mono_l : ∀ k, (∀ y0 y1, LeO (impl_ValidBook.j0 k y0 y1) (impl_ValidBook.j0 (k + 1) y0 y1)) ∧ (∀ y0 y1 y2, LeO (impl_ValidBook.l0 k y0 y1 y2) (impl_ValidBook.l0 (k + 1) y0 y1 y2))
 | 0 => ⟨fun _ _ r h => by simp [impl_ValidBook.j0] at h, fun _ _ _ r h => by simp [impl_ValidBook.l0] at h⟩
 | k + 1 => by
  obtain ⟨ih0, ih1⟩ := impl_ValidBook.mono_l k
  refine ⟨?_, ?_⟩
  ·
   intro y0 y1
   unfold impl_ValidBook.j0
   repeat' first
   | (with_reducible exact ih0 _ _)
   | (with_reducible exact ih1 _ _ _)
   | (with_reducible exact impl_linesOk.mono _ _)
   | (with_reducible exact impl_needs.mono _ _ _)
   | (with_reducible exact LeO.refl _)
   | (with_reducible exact LeO.none _)
   | (with_reducible refine LeO.ite ?_ ?_)
   | (with_reducible refine LeO.bind ?_ (fun _ => ?_))
   | exact ih0 _ _
   | exact ih1 _ _ _
   | exact LeO.none _
   | refine LeO.ite ?_ ?_
   | refine LeO.bind ?_ (fun _ => ?_)
  ·
   intro y0 y1 y2
   unfold impl_ValidBook.l0
   repeat' first
   | (with_reducible exact ih0 _ _)
   | (with_reducible exact ih1 _ _ _)
   | (with_reducible exact impl_linesOk.mono _ _)
   | (with_reducible exact impl_needs.mono _ _ _)
   | (with_reducible exact LeO.refl _)
   | (with_reducible exact LeO.none _)
   | (with_reducible refine LeO.ite ?_ ?_)
   | (with_reducible refine LeO.bind ?_ (fun _ => ?_))
   | exact ih0 _ _
   | exact ih1 _ _ _
   | exact LeO.none _
   | refine LeO.ite ?_ ?_
   | refine LeO.bind ?_ (fun _ => ?_)
theorem impl_ValidBook.mono : ∀ a0 k, LeO (impl_ValidBook.f k a0) (impl_ValidBook.f (k + 1) a0) := by
 intro a0 k
 obtain ⟨ih0, ih1⟩ := impl_ValidBook.mono_l k
 unfold impl_ValidBook.f
 repeat' first
   | (with_reducible exact ih0 _ _)
   | (with_reducible exact ih1 _ _ _)
   | (with_reducible exact impl_linesOk.mono _ _)
   | (with_reducible exact impl_needs.mono _ _ _)
   | (with_reducible exact LeO.refl _)
   | (with_reducible exact LeO.none _)
   | (with_reducible refine LeO.ite ?_ ?_)
   | (with_reducible refine LeO.bind ?_ (fun _ => ?_))
   | exact ih0 _ _
   | exact ih1 _ _ _
   | exact LeO.none _
   | refine LeO.ite ?_ ?_
   | refine LeO.bind ?_ (fun _ => ?_)
set_option maxHeartbeats 8000000 in
set_option maxRecDepth 100000 in
theorem impl_ValidBook.calls (k : Nat) (A0 : Option Addr) (c0 : Nat) (l0 : List (S45)) (r : Bool) (w : World) (hr0 : Kd.C k45 w A0 l0.length l0) (hc0 : l0.length ≤ c0) (h : impl_ValidBook.f k l0 = some r) :
  Calls Try.prog 20 #[.slice A0 l0.length c0] w fun e w' => e = .returned (.bool r) ∧ Below w.heap.size w w' := by
 have HR0 := Aside0.mk hr0
 have HC0 := Aside0.mk hc0
 clear hr0 hc0
 have HB := Aside0.mk (Below.refl w.heap.size w)
 have H : (if (l0.length : Int) > 24 then (impl_ValidBook.j0 k l0 true) else ((impl_linesOk.f k l0).bind fun t233 => (impl_ValidBook.j0 k l0 (!t233)))) = some r := h
 clear h
 have HC2 := Aside0.mk H
 clear H
 go_enter Try.func20, Try.ntmps20
 go_upto_region 1 with (fail)
 go_cut [11] (fun v11 wc => ∃ (kq : Nat) (x11_1 : Bool), v11 = .bool x11_1 ∧ Aside0 (impl_ValidBook.j0 kq l0 x11_1 = some r) ∧ Aside0 (kq ≤ k) ∧ Aside0 (Below w.heap.size w wc))
 case first =>
  have H := HC2.out
  clear HC2
  by_cases c3 : (l0.length : Int) > 24
  ·
   rw [if_pos c3] at H
   have c3b0 : decide (24 < (l0.length : Int)) = true := decide_eq_true c3
   have c3b1 : decide (24 < l0.length) = true := decide_eq_true (by omega)
   clear c3
   (first | rw [c3b0] | (simp only [i64_w, i32_w]; rw [c3b0]) | skip)
   have H' := Aside0.mk H
   clear H
   go_wp2
   go_meet
   case rel => exact ⟨_, (true), (by first | rfl | (simp; done) | (simp [*]; done) | (simp [isE_]; done)), H', ⟨by first | omega | exact Nat.le_refl _⟩, ⟨by repeat (first | (with_reducible first | exact HB.out | apply below_alloc | apply pw_below_drewN | apply below_drew1) | exact HB.out)⟩⟩
  ·
   rw [if_neg c3] at H
   have c3b0 : decide (24 < (l0.length : Int)) = false := decide_eq_false c3
   have c3b1 : decide (24 < l0.length) = false := decide_eq_false (by omega)
   clear c3
   (first | rw [c3b0] | (simp only [i64_w, i32_w]; rw [c3b0]) | skip)
   replace H := Option.bind_eq_some_iff.mp H
   obtain ⟨t233, A40, H⟩ := H
   replace H : (impl_ValidBook.j0 k l0 (!t233)) = some r := H
   have A4 := Aside0.mk A40
   clear A40
   have H' := Aside0.mk H
   clear H
   go_wp2_with (first | (go_at_call 65; (with_reducible refine (impl_linesOk.calls k _ _ l0 t233 _ ?side1 ?side2 A4.out).mono ?_); (case side1 => repeat (first | exact (Kd.C_below HR0.out HB.out) | (with_reducible refine Kd.C_alloc ?_ _) | (with_reducible refine Kd.C_drewN ?_ _) | (with_reducible refine Kd.C_drew ?_))); (case side2 => exact HC0.out); rintro e w5 ⟨rfl, hb⟩; have n0_ := Aside0.mk (below_step (by repeat (first | (with_reducible first | exact HB.out | apply below_alloc | apply pw_below_drewN | apply below_drew1) | exact HB.out)) hb); clear HB; have HB := n0_; clear n0_; (try clear hb); (try clear hb2); (try clear hk); (try clear hi)))
   go_meet
   case rel => exact ⟨_, (!t233), (by first | rfl | (simp; done) | (simp [*]; done) | (simp [isE_]; done)), H', ⟨by first | omega | exact Nat.le_refl _⟩, ⟨by repeat (first | (with_reducible first | exact HB.out | apply below_alloc | apply pw_below_drewN | apply below_drew1) | exact HB.out)⟩⟩
 case rest =>
  clear HC2
  try clear c2
  try clear p2
  try clear c3
  try clear c3b0
  try clear c3b1
  obtain ⟨kq, x11_1, rfl, HA, HJ1, HB⟩ := hcut
  cases kq with
  | zero => exact absurd HA.out (by simp [impl_ValidBook.j0])
  | succ kj1 =>
   have H := HA.out
   clear HA
   simp only [impl_ValidBook.j0] at H
   by_cases c6 : x11_1 = true
   ·
    subst c6
    have H1 : (some false) = some r := by first | (rw [if_pos rfl] at H; exact H) | rfl
    clear H
    have H := H1
    clear H1
    obtain rfl := Option.some.inj H
    go_wp2
    go_ret
    exact ⟨by first | rfl | (simp [errW_none, errW_some] <;> rfl) | (simp [*, errW_none, errW_some] <;> rfl), by repeat (first | (with_reducible first | exact HB.out | apply below_alloc | apply pw_below_drewN | apply below_drew1) | exact HB.out)⟩
   ·
    replace c6 := Bool.eq_false_iff.mpr c6
    subst c6
    have H1 : (impl_ValidBook.l0 kj1 l0 (l0.length : Int) 0) = some r := by first | (rw [if_neg (show ¬ (false = true) by decide)] at H; exact H) | rfl
    clear H
    have H := H1
    clear H1
    have H' := Aside0.mk H
    clear H
    go_wp2
    go_loopg [14] kj1 (fun kq v14 w' => ∃ (x14_2 : Int), v14 = .int .i64 x14_2 ∧ Aside0 (impl_ValidBook.l0 kq l0 (l0.length : Int) x14_2 = some r) ∧ Aside0 (kq ≤ kj1) ∧ Aside0 (Below w.heap.size w w'))
    case atStart => exact ⟨(0), (by first | rfl | (simp; done) | (simp [*]; done) | (simp [isE_]; done)), H', ⟨Nat.le_refl _⟩, ⟨by repeat (first | (with_reducible first | exact HB.out | apply below_alloc | apply pw_below_drewN | apply below_drew1) | exact HB.out)⟩⟩
    case round =>
     clear H'
     try clear c2
     try clear p2
     try clear c3
     try clear c3b0
     try clear c3b1
     try clear c6
     try clear p2
     obtain ⟨x14_2, rfl, HA, HK2, HB⟩ := hrel
     cases gk with
     | zero => exact absurd HA.out (by simp [impl_ValidBook.l0])
     | succ k2 =>
      have H := HA.out
      clear HA
      simp only [impl_ValidBook.l0] at H
      by_cases c7 : x14_2 < (l0.length : Int)
      ·
       rw [if_pos c7] at H
       have c7b0 : decide (x14_2 < (l0.length : Int)) = true := decide_eq_true c7
       clear c7
       replace H := Option.bind_eq_some_iff.mp H
       obtain ⟨t234, A80, H⟩ := H
       replace H : (if 0 ≤ x14_2 then (if x14_2 < (t234.length : Int) then (if rdOf false t234 x14_2 = true then (some false) else (impl_ValidBook.l0 k2 l0 (l0.length : Int) (wrap64 (x14_2 + 1)))) else (none)) else (none)) = some r := H
       have A8 := Aside0.mk A80
       clear A80
       by_cases c9 : 0 ≤ x14_2
       ·
        rw [if_pos c9] at H
        have c9b0 : decide (0 ≤ x14_2) = true := decide_eq_true c9
        clear c9
        by_cases c10 : x14_2 < (t234.length : Int)
        ·
         rw [if_pos c10] at H
         have c10b0 : decide (x14_2 < (t234.length : Int)) = true := decide_eq_true c10
         clear c10
         obtain ⟨bq11, hbq11⟩ : ∃ b_ : Bool, b_ = (rdOf false t234 x14_2) := ⟨_, rfl⟩
         replace H : (if bq11 = true then (some false) else (impl_ValidBook.l0 k2 l0 (l0.length : Int) (wrap64 (x14_2 + 1)))) = some r := by rw [← hbq11] at H; exact H
         have Nbq11 := Aside0.mk hbq11
         clear hbq11
         by_cases c12 : bq11 = true
         ·
          subst c12
          have H1 : (some false) = some r := by first | (rw [if_pos rfl] at H; exact H) | rfl
          clear H
          have H := H1
          clear H1
          obtain rfl := Option.some.inj H
          go_wp2_with (first | ((with_reducible refine gate_callee (f := 66) rfl ?_); refine goesL_ (some 19) rfl rfl Try.func66 (by kernel_rfl) rfl #[.slice A0 l0.length c0, .int .i64 x14_2] rfl (by (try simp only [List.map_toArray, List.map_cons, List.map_nil]); first | done | rfl | (simp only [List.length_drop, List.length_take]; rfl)) ?_; (with_reducible refine (impl_needs.calls k2 _ _ l0 x14_2 t234 _ ?side1 ?side2 A8.out).mono ?_); (case side1 => repeat (first | exact (Kd.C_below HR0.out HB.out) | (with_reducible refine Kd.C_alloc ?_ _) | (with_reducible refine Kd.C_drewN ?_ _) | (with_reducible refine Kd.C_drew ?_))); (case side2 => exact HC0.out); rintro e w13 ⟨v235, rfl, ho0, hb⟩; refine ⟨_, rfl, ?_⟩; have n0_ := Aside0.mk (Kd.R_lower ho0 (below_size (by repeat (first | (with_reducible first | exact HB.out | apply below_alloc | apply pw_below_drewN | apply below_drew1) | exact HB.out)))); have n1_ := Aside0.mk (below_step (by repeat (first | (with_reducible first | exact HB.out | apply below_alloc | apply pw_below_drewN | apply below_drew1) | exact HB.out)) hb); clear HB; have HO236 := n0_; have HB := n1_; clear n0_ n1_; (try clear hb); (try clear hb2); (try clear hk); (try clear hi); (try clear ho0); obtain ⟨Ao14, co14, eo14⟩ := Kd.R_slice HO236.out; subst eo14; have p237 : 0 ≤ (x14_2 : Int) := of_decide_eq_true (by assumption); have q237 : x14_2 < (t234.length : Int) := of_decide_eq_true (by assumption); obtain ⟨ad237, e237, hx237_0⟩ := Kd.at_bool (Kd.R_reads' HO236.out).2.2 x14_2 p237 q237; (try rw [← Nbq11.out] at hx237_0); cases e237; replace p237 := eq_true p237; replace q237 := eq_true q237))
          go_ret
          exact ⟨by first | rfl | (simp [errW_none, errW_some] <;> rfl) | (simp [*, errW_none, errW_some] <;> rfl), by repeat (first | (with_reducible first | exact HB.out | apply below_alloc | apply pw_below_drewN | apply below_drew1) | exact HB.out)⟩
         ·
          replace c12 := Bool.eq_false_iff.mpr c12
          subst c12
          have H1 : (impl_ValidBook.l0 k2 l0 (l0.length : Int) (wrap64 (x14_2 + 1))) = some r := by first | (rw [if_neg (show ¬ (false = true) by decide)] at H; exact H) | rfl
          clear H
          have H := H1
          clear H1
          have H' := Aside0.mk H
          clear H
          go_wp2_with (first | ((with_reducible refine gate_callee (f := 66) rfl ?_); refine goesL_ (some 19) rfl rfl Try.func66 (by kernel_rfl) rfl #[.slice A0 l0.length c0, .int .i64 x14_2] rfl (by (try simp only [List.map_toArray, List.map_cons, List.map_nil]); first | done | rfl | (simp only [List.length_drop, List.length_take]; rfl)) ?_; (with_reducible refine (impl_needs.calls k2 _ _ l0 x14_2 t234 _ ?side1 ?side2 A8.out).mono ?_); (case side1 => repeat (first | exact (Kd.C_below HR0.out HB.out) | (with_reducible refine Kd.C_alloc ?_ _) | (with_reducible refine Kd.C_drewN ?_ _) | (with_reducible refine Kd.C_drew ?_))); (case side2 => exact HC0.out); rintro e w15 ⟨v235, rfl, ho0, hb⟩; refine ⟨_, rfl, ?_⟩; have n0_ := Aside0.mk (Kd.R_lower ho0 (below_size (by repeat (first | (with_reducible first | exact HB.out | apply below_alloc | apply pw_below_drewN | apply below_drew1) | exact HB.out)))); have n1_ := Aside0.mk (below_step (by repeat (first | (with_reducible first | exact HB.out | apply below_alloc | apply pw_below_drewN | apply below_drew1) | exact HB.out)) hb); clear HB; have HO236 := n0_; have HB := n1_; clear n0_ n1_; (try clear hb); (try clear hb2); (try clear hk); (try clear hi); (try clear ho0); obtain ⟨Ao16, co16, eo16⟩ := Kd.R_slice HO236.out; subst eo16; have p237 : 0 ≤ (x14_2 : Int) := of_decide_eq_true (by assumption); have q237 : x14_2 < (t234.length : Int) := of_decide_eq_true (by assumption); obtain ⟨ad237, e237, hx237_0⟩ := Kd.at_bool (Kd.R_reads' HO236.out).2.2 x14_2 p237 q237; (try rw [← Nbq11.out] at hx237_0); cases e237; replace p237 := eq_true p237; replace q237 := eq_true q237))
          go_roundg k2
          case measure => have := HJ1.out; have := HK2.out; omega
          case rel => exact ⟨(wrap64 (x14_2 + 1)), (by first | rfl | (simp; done) | (simp [*]; done) | (simp [isE_]; done)), H', ⟨by have := HJ1.out; have := HK2.out; omega⟩, ⟨by repeat (first | (with_reducible first | exact HB.out | apply below_alloc | apply pw_below_drewN | apply below_drew1) | exact HB.out)⟩⟩
        ·
         rw [if_neg c10] at H
         exact absurd H (by simp)
       ·
        rw [if_neg c9] at H
        exact absurd H (by simp)
      ·
       rw [if_neg c7] at H
       have c7b0 : decide (x14_2 < (l0.length : Int)) = false := decide_eq_false c7
       clear c7
       obtain rfl := Option.some.inj H
       go_wp2
       go_ret
       exact ⟨by first | rfl | (simp [errW_none, errW_some] <;> rfl) | (simp [*, errW_none, errW_some] <;> rfl), by repeat (first | (with_reducible first | exact HB.out | apply below_alloc | apply pw_below_drewN | apply below_drew1) | exact HB.out)⟩
/-! ### laws_FnExactValidBook: function 4 -/
def laws_FnExactValidBook.f (k : Nat) (l0 : List (S42)) : Option (Bool) := (laws_szLineS.f k l0 1048576).bind fun t238 => (if t238 < 0 then (some true) else ((laws_toLineS.f k l0).bind fun t239 => ((spec_ValidBook.f k t239).bind fun t242 => ((laws_toLineS.f k l0).bind fun t243 => ((impl_ValidBook.f k t243).bind fun t246 => (if (t246 != t242) = true then (some false) else ((laws_toLineS.f k l0).bind fun t247 => ((laws_eqLineS.f k t243 t247).bind fun t250 => (if t250 = true then (some true) else (some false))))))))))
theorem laws_FnExactValidBook.mono : ∀ a0 k, LeO (laws_FnExactValidBook.f k a0) (laws_FnExactValidBook.f (k + 1) a0) := by
 intro a0 k
 unfold laws_FnExactValidBook.f
 repeat' first
   | (with_reducible exact impl_ValidBook.mono _ _)
   | (with_reducible exact laws_eqLineS.mono _ _ _)
   | (with_reducible exact laws_szLineS.mono _ _ _)
   | (with_reducible exact laws_toLineS.mono _ _)
   | (with_reducible exact spec_ValidBook.mono _ _)
   | (with_reducible exact LeO.refl _)
   | (with_reducible exact LeO.none _)
   | (with_reducible refine LeO.ite ?_ ?_)
   | (with_reducible refine LeO.bind ?_ (fun _ => ?_))
   | exact LeO.none _
   | refine LeO.ite ?_ ?_
   | refine LeO.bind ?_ (fun _ => ?_)
set_option maxHeartbeats 8000000 in
set_option maxRecDepth 100000 in
theorem laws_FnExactValidBook.calls (k : Nat) (A0 : Option Addr) (c0 : Nat) (l0 : List (S42)) (w : World) (hr0 : Kd.C k42 w A0 l0.length l0) (hc0 : l0.length ≤ c0) (h : laws_FnExactValidBook.f k l0 = some true) :
  Calls Try.prog 4 #[.slice A0 l0.length c0] w fun e w' => e = .returned (.bool true) ∧ Below w.heap.size w w' := by
 have HR0 := Aside0.mk hr0
 have HC0 := Aside0.mk hc0
 clear hr0 hc0
 have HB := Aside0.mk (Below.refl w.heap.size w)
 have H : ((laws_szLineS.f k l0 1048576).bind fun t238 => (if t238 < 0 then (some true) else ((laws_toLineS.f k l0).bind fun t239 => ((spec_ValidBook.f k t239).bind fun t242 => ((laws_toLineS.f k l0).bind fun t243 => ((impl_ValidBook.f k t243).bind fun t246 => (if (t246 != t242) = true then (some false) else ((laws_toLineS.f k l0).bind fun t247 => ((laws_eqLineS.f k t243 t247).bind fun t250 => (if t250 = true then (some true) else (some false))))))))))) = some true := h
 clear h
 replace H := Option.bind_eq_some_iff.mp H
 obtain ⟨t238, A20, H⟩ := H
 replace H : (if t238 < 0 then (some true) else ((laws_toLineS.f k l0).bind fun t239 => ((spec_ValidBook.f k t239).bind fun t242 => ((laws_toLineS.f k l0).bind fun t243 => ((impl_ValidBook.f k t243).bind fun t246 => (if (t246 != t242) = true then (some false) else ((laws_toLineS.f k l0).bind fun t247 => ((laws_eqLineS.f k t243 t247).bind fun t250 => (if t250 = true then (some true) else (some false)))))))))) = some true := H
 have A2 := Aside0.mk A20
 clear A20
 by_cases c3 : t238 < 0
 ·
  rw [if_pos c3] at H
  have c3b0 : decide (t238 < 0) = true := decide_eq_true c3
  clear c3
  clear H
  go_enter Try.func4, Try.ntmps4
  go_wp2_with (first | ((with_reducible refine gate_callee (f := 14) rfl ?_); refine goesL_ (some 9) rfl rfl Try.func14 (by kernel_rfl) rfl #[.slice A0 l0.length c0, .int .i64 1048576] rfl (by (try simp only [List.map_toArray, List.map_cons, List.map_nil]); first | done | rfl | (simp only [List.length_drop, List.length_take]; rfl)) ?_; (with_reducible refine (laws_szLineS.calls k _ _ l0 1048576 t238 _ ?side1 ?side2 A2.out).mono ?_); (case side1 => repeat (first | exact HR0.out | (with_reducible refine Kd.C_alloc ?_ _) | (with_reducible refine Kd.C_drewN ?_ _) | (with_reducible refine Kd.C_drew ?_))); (case side2 => exact HC0.out); rintro e w4 ⟨rfl, hb⟩; refine ⟨_, rfl, ?_⟩; have n0_ := Aside0.mk (below_step (by repeat (first | (with_reducible first | exact HB.out | apply below_alloc | apply pw_below_drewN | apply below_drew1) | exact HB.out)) hb); clear HB; have HB := n0_; clear n0_; (try clear hb); (try clear hb2); (try clear hk); (try clear hi)))
  go_ret
  exact ⟨by first | rfl | (simp [errW_none, errW_some] <;> rfl) | (simp [*, errW_none, errW_some] <;> rfl), by repeat (first | (with_reducible first | exact HB.out | apply below_alloc | apply pw_below_drewN | apply below_drew1) | exact HB.out)⟩
 ·
  rw [if_neg c3] at H
  have c3b0 : decide (t238 < 0) = false := decide_eq_false c3
  clear c3
  replace H := Option.bind_eq_some_iff.mp H
  obtain ⟨t239, A50, H⟩ := H
  replace H : ((spec_ValidBook.f k t239).bind fun t242 => ((laws_toLineS.f k l0).bind fun t243 => ((impl_ValidBook.f k t243).bind fun t246 => (if (t246 != t242) = true then (some false) else ((laws_toLineS.f k l0).bind fun t247 => ((laws_eqLineS.f k t243 t247).bind fun t250 => (if t250 = true then (some true) else (some false)))))))) = some true := H
  have A5 := Aside0.mk A50
  clear A50
  replace H := Option.bind_eq_some_iff.mp H
  obtain ⟨t242, A60, H⟩ := H
  replace H : ((laws_toLineS.f k l0).bind fun t243 => ((impl_ValidBook.f k t243).bind fun t246 => (if (t246 != t242) = true then (some false) else ((laws_toLineS.f k l0).bind fun t247 => ((laws_eqLineS.f k t243 t247).bind fun t250 => (if t250 = true then (some true) else (some false))))))) = some true := H
  have A6 := Aside0.mk A60
  clear A60
  replace H := Option.bind_eq_some_iff.mp H
  obtain ⟨t243, A70, H⟩ := H
  replace H : ((impl_ValidBook.f k t243).bind fun t246 => (if (t246 != t242) = true then (some false) else ((laws_toLineS.f k l0).bind fun t247 => ((laws_eqLineS.f k t243 t247).bind fun t250 => (if t250 = true then (some true) else (some false)))))) = some true := H
  have A7 := Aside0.mk A70
  clear A70
  replace H := Option.bind_eq_some_iff.mp H
  obtain ⟨t246, A80, H⟩ := H
  replace H : (if (t246 != t242) = true then (some false) else ((laws_toLineS.f k l0).bind fun t247 => ((laws_eqLineS.f k t243 t247).bind fun t250 => (if t250 = true then (some true) else (some false))))) = some true := H
  have A8 := Aside0.mk A80
  clear A80
  by_cases c9 : (t246 != t242) = true
  ·
   rw [if_pos c9] at H
   have c9b0 : (t246 != t242) = true := c9
   (try (have c9b1 : decide (t246 = t242) = false := by simpa using c9))
   (try (have c9b2 : (t246 == t242) = false := by simpa using c9))
   (try (have c9b3 : ¬ (t246 = t242) := by simpa using c9))
   clear c9
   exact absurd H (by decide)
  ·
   rw [if_neg c9] at H
   have c9b0 : (t246 != t242) = false := by simpa using c9
   (try (have c9b1 : decide (t246 = t242) = true := by simpa using c9))
   (try (have c9b2 : (t246 == t242) = true := by simpa using c9))
   clear c9
   replace H := Option.bind_eq_some_iff.mp H
   obtain ⟨t247, A100, H⟩ := H
   replace H : ((laws_eqLineS.f k t243 t247).bind fun t250 => (if t250 = true then (some true) else (some false))) = some true := H
   have A10 := Aside0.mk A100
   clear A100
   replace H := Option.bind_eq_some_iff.mp H
   obtain ⟨t250, A110, H⟩ := H
   replace H : (if t250 = true then (some true) else (some false)) = some true := H
   have A11 := Aside0.mk A110
   clear A110
   by_cases c12 : t250 = true
   ·
    subst c12
    have H1 : (some true) = some true := by first | (rw [if_pos rfl] at H; exact H) | rfl
    clear H
    have H := H1
    clear H1
    clear H
    go_enter Try.func4, Try.ntmps4
    go_wp2_with (first | ((with_reducible refine gate_callee (f := 14) rfl ?_); refine goesL_ (some 9) rfl rfl Try.func14 (by kernel_rfl) rfl #[.slice A0 l0.length c0, .int .i64 1048576] rfl (by (try simp only [List.map_toArray, List.map_cons, List.map_nil]); first | done | rfl | (simp only [List.length_drop, List.length_take]; rfl)) ?_; (with_reducible refine (laws_szLineS.calls k _ _ l0 1048576 t238 _ ?side1 ?side2 A2.out).mono ?_); (case side1 => repeat (first | exact HR0.out | (with_reducible refine Kd.C_alloc ?_ _) | (with_reducible refine Kd.C_drewN ?_ _) | (with_reducible refine Kd.C_drew ?_))); (case side2 => exact HC0.out); rintro e w13 ⟨rfl, hb⟩; refine ⟨_, rfl, ?_⟩; have n0_ := Aside0.mk (below_step (by repeat (first | (with_reducible first | exact HB.out | apply below_alloc | apply pw_below_drewN | apply below_drew1) | exact HB.out)) hb); clear HB; have HB := n0_; clear n0_; (try clear hb); (try clear hb2); (try clear hk); (try clear hi)) | ((with_reducible refine gate_callee (f := 16) rfl ?_); refine goesL_ (some 13) rfl rfl Try.func16 (by kernel_rfl) rfl #[.slice A0 l0.length c0] rfl (by (try simp only [List.map_toArray, List.map_cons, List.map_nil]); first | done | rfl | (simp only [List.length_drop, List.length_take]; rfl)) ?_; (with_reducible refine (laws_toLineS.calls k _ _ l0 t239 _ ?side1 ?side2 A5.out).mono ?_); (case side1 => repeat (first | exact (Kd.C_below HR0.out HB.out) | (with_reducible refine Kd.C_alloc ?_ _) | (with_reducible refine Kd.C_drewN ?_ _) | (with_reducible refine Kd.C_drew ?_))); (case side2 => exact HC0.out); rintro e w14 ⟨v240, rfl, ho0, hb⟩; refine ⟨_, rfl, ?_⟩; have n0_ := Aside0.mk (Kd.R_lower ho0 (below_size (by repeat (first | (with_reducible first | exact HB.out | apply below_alloc | apply pw_below_drewN | apply below_drew1) | exact HB.out)))); have n1_ := Aside0.mk (below_step (by repeat (first | (with_reducible first | exact HB.out | apply below_alloc | apply pw_below_drewN | apply below_drew1) | exact HB.out)) hb); clear HB; have HO241 := n0_; have HB := n1_; clear n0_ n1_; (try clear hb); (try clear hb2); (try clear hk); (try clear hi); (try clear ho0); obtain ⟨Ao15, co15, eo15⟩ := Kd.R_slice HO241.out; subst eo15) | ((with_reducible refine gate_callee (f := 19) rfl ?_); refine goesL_ (some 14) rfl rfl Try.func19 (by kernel_rfl) rfl #[.slice Ao15 t239.length co15] rfl (by (try simp only [List.map_toArray, List.map_cons, List.map_nil]); first | done | rfl | (simp only [List.length_drop, List.length_take]; rfl)) ?_; (with_reducible refine (spec_ValidBook.calls k _ _ t239 t242 _ ?side1 ?side2 A6.out).mono ?_); (case side1 => repeat (first | exact (Kd.R_reads' HO241.out).2.2 | (with_reducible refine Kd.C_alloc ?_ _) | (with_reducible refine Kd.C_drewN ?_ _) | (with_reducible refine Kd.C_drew ?_))); (case side2 => exact (Kd.R_reads' HO241.out).2.1); rintro e w16 ⟨rfl, hb⟩; refine ⟨_, rfl, ?_⟩; have n0_ := Aside0.mk (Kd.R_below (by (with_reducible repeat (first | apply Kd.R_alloc | apply Kd.R_drewN | apply Kd.R_drew)); exact HO241.out) hb); have n1_ := Aside0.mk (below_step (by repeat (first | (with_reducible first | exact HB.out | apply below_alloc | apply pw_below_drewN | apply below_drew1) | exact HB.out)) hb); clear HO241; clear HB; have HO241 := n0_; have HB := n1_; clear n0_ n1_; (try clear hb); (try clear hb2); (try clear hk); (try clear hi)) | ((with_reducible refine gate_callee (f := 16) rfl ?_); refine goesL_ (some 16) rfl rfl Try.func16 (by kernel_rfl) rfl #[.slice A0 l0.length c0] rfl (by (try simp only [List.map_toArray, List.map_cons, List.map_nil]); first | done | rfl | (simp only [List.length_drop, List.length_take]; rfl)) ?_; (with_reducible refine (laws_toLineS.calls k _ _ l0 t243 _ ?side1 ?side2 A7.out).mono ?_); (case side1 => repeat (first | exact (Kd.C_below HR0.out HB.out) | (with_reducible refine Kd.C_alloc ?_ _) | (with_reducible refine Kd.C_drewN ?_ _) | (with_reducible refine Kd.C_drew ?_))); (case side2 => exact HC0.out); rintro e w17 ⟨v244, rfl, ho0, hb⟩; refine ⟨_, rfl, ?_⟩; have n0_ := Aside0.mk (Kd.R_elder' (by (with_reducible repeat (first | apply Kd.R_alloc | apply Kd.R_drewN | apply Kd.R_drew)); exact HO241.out) (Kd.R_base ho0) hb); have n1_ := Aside0.mk (Kd.R_lower (Kd.R_new' ho0 (Kd.R_lt (by (with_reducible repeat (first | apply Kd.R_alloc | apply Kd.R_drewN | apply Kd.R_drew)); exact HO241.out))) (below_size (by repeat (first | (with_reducible first | exact HB.out | apply below_alloc | apply pw_below_drewN | apply below_drew1) | exact HB.out)))); have n2_ := Aside0.mk (below_step (by repeat (first | (with_reducible first | exact HB.out | apply below_alloc | apply pw_below_drewN | apply below_drew1) | exact HB.out)) hb); clear HO241; clear HB; have HO241 := n0_; have HO245 := n1_; have HB := n2_; clear n0_ n1_ n2_; (try clear hb); (try clear hb2); (try clear hk); (try clear hi); (try clear ho0); obtain ⟨Ao18, co18, eo18⟩ := Kd.R_slice HO245.out; subst eo18) | ((with_reducible refine gate_callee (f := 20) rfl ?_); refine goesL_ (some 18) rfl rfl Try.func20 (by kernel_rfl) rfl #[.slice Ao18 t243.length co18] rfl (by (try simp only [List.map_toArray, List.map_cons, List.map_nil]); first | done | rfl | (simp only [List.length_drop, List.length_take]; rfl)) ?_; (with_reducible refine (impl_ValidBook.calls k _ _ t243 t246 _ ?side1 ?side2 A8.out).mono ?_); (case side1 => repeat (first | exact (Kd.R_reads' HO245.out).2.2 | (with_reducible refine Kd.C_alloc ?_ _) | (with_reducible refine Kd.C_drewN ?_ _) | (with_reducible refine Kd.C_drew ?_))); (case side2 => exact (Kd.R_reads' HO245.out).2.1); rintro e w19 ⟨rfl, hb⟩; refine ⟨_, rfl, ?_⟩; have n0_ := Aside0.mk (Kd.R_below (by (with_reducible repeat (first | apply Kd.R_alloc | apply Kd.R_drewN | apply Kd.R_drew)); exact HO241.out) hb); have n1_ := Aside0.mk (Kd.R_below (by (with_reducible repeat (first | apply Kd.R_alloc | apply Kd.R_drewN | apply Kd.R_drew)); exact HO245.out) hb); have n2_ := Aside0.mk (below_step (by repeat (first | (with_reducible first | exact HB.out | apply below_alloc | apply pw_below_drewN | apply below_drew1) | exact HB.out)) hb); clear HO241; clear HO245; clear HB; have HO241 := n0_; have HO245 := n1_; have HB := n2_; clear n0_ n1_ n2_; (try clear hb); (try clear hb2); (try clear hk); (try clear hi)) | ((with_reducible refine gate_callee (f := 16) rfl ?_); refine goesL_ (some 24) rfl rfl Try.func16 (by kernel_rfl) rfl #[.slice A0 l0.length c0] rfl (by (try simp only [List.map_toArray, List.map_cons, List.map_nil]); first | done | rfl | (simp only [List.length_drop, List.length_take]; rfl)) ?_; (with_reducible refine (laws_toLineS.calls k _ _ l0 t247 _ ?side1 ?side2 A10.out).mono ?_); (case side1 => repeat (first | exact (Kd.C_below HR0.out HB.out) | (with_reducible refine Kd.C_alloc ?_ _) | (with_reducible refine Kd.C_drewN ?_ _) | (with_reducible refine Kd.C_drew ?_))); (case side2 => exact HC0.out); rintro e w20 ⟨v248, rfl, ho0, hb⟩; refine ⟨_, rfl, ?_⟩; have n0_ := Aside0.mk (Kd.R_elder' (by (with_reducible repeat (first | apply Kd.R_alloc | apply Kd.R_drewN | apply Kd.R_drew)); exact HO241.out) (Kd.R_base ho0) hb); have n1_ := Aside0.mk (Kd.R_elder' (by (with_reducible repeat (first | apply Kd.R_alloc | apply Kd.R_drewN | apply Kd.R_drew)); exact HO245.out) (Kd.R_base ho0) hb); have n2_ := Aside0.mk (Kd.R_lower (Kd.R_new' (Kd.R_new' ho0 (Kd.R_lt (by (with_reducible repeat (first | apply Kd.R_alloc | apply Kd.R_drewN | apply Kd.R_drew)); exact HO241.out))) (Kd.R_lt (by (with_reducible repeat (first | apply Kd.R_alloc | apply Kd.R_drewN | apply Kd.R_drew)); exact HO245.out))) (below_size (by repeat (first | (with_reducible first | exact HB.out | apply below_alloc | apply pw_below_drewN | apply below_drew1) | exact HB.out)))); have n3_ := Aside0.mk (below_step (by repeat (first | (with_reducible first | exact HB.out | apply below_alloc | apply pw_below_drewN | apply below_drew1) | exact HB.out)) hb); clear HO241; clear HO245; clear HB; have HO241 := n0_; have HO245 := n1_; have HO249 := n2_; have HB := n3_; clear n0_ n1_ n2_ n3_; (try clear hb); (try clear hb2); (try clear hk); (try clear hi); (try clear ho0); obtain ⟨Ao21, co21, eo21⟩ := Kd.R_slice HO249.out; subst eo21) | ((with_reducible refine gate_callee (f := 18) rfl ?_); refine goesL_ (some 25) rfl rfl Try.func18 (by kernel_rfl) rfl #[.slice Ao18 t243.length co18, .slice Ao21 t247.length co21] rfl (by (try simp only [List.map_toArray, List.map_cons, List.map_nil]); first | done | rfl | (simp only [List.length_drop, List.length_take]; rfl)) ?_; (with_reducible refine (laws_eqLineS.calls k _ _ t243 _ _ t247 true _ ?side1 ?side2 ?side3 ?side4 A11.out).mono ?_); (case side1 => repeat (first | exact (Kd.R_reads' HO245.out).2.2 | (with_reducible refine Kd.C_alloc ?_ _) | (with_reducible refine Kd.C_drewN ?_ _) | (with_reducible refine Kd.C_drew ?_))); (case side2 => exact (Kd.R_reads' HO245.out).2.1); (case side3 => repeat (first | exact (Kd.R_reads' HO249.out).2.2 | (with_reducible refine Kd.C_alloc ?_ _) | (with_reducible refine Kd.C_drewN ?_ _) | (with_reducible refine Kd.C_drew ?_))); (case side4 => exact (Kd.R_reads' HO249.out).2.1); rintro e w22 ⟨rfl, hb⟩; refine ⟨_, rfl, ?_⟩; have n0_ := Aside0.mk (Kd.R_below (by (with_reducible repeat (first | apply Kd.R_alloc | apply Kd.R_drewN | apply Kd.R_drew)); exact HO241.out) hb); have n1_ := Aside0.mk (Kd.R_below (by (with_reducible repeat (first | apply Kd.R_alloc | apply Kd.R_drewN | apply Kd.R_drew)); exact HO245.out) hb); have n2_ := Aside0.mk (Kd.R_below (by (with_reducible repeat (first | apply Kd.R_alloc | apply Kd.R_drewN | apply Kd.R_drew)); exact HO249.out) hb); have n3_ := Aside0.mk (below_step (by repeat (first | (with_reducible first | exact HB.out | apply below_alloc | apply pw_below_drewN | apply below_drew1) | exact HB.out)) hb); clear HO241; clear HO245; clear HO249; clear HB; have HO241 := n0_; have HO245 := n1_; have HO249 := n2_; have HB := n3_; clear n0_ n1_ n2_ n3_; (try clear hb); (try clear hb2); (try clear hk); (try clear hi)))
    go_ret
    exact ⟨by first | rfl | (simp [errW_none, errW_some] <;> rfl) | (simp [*, errW_none, errW_some] <;> rfl), by repeat (first | (with_reducible first | exact HB.out | apply below_alloc | apply pw_below_drewN | apply below_drew1) | exact HB.out)⟩
   ·
    replace c12 := Bool.eq_false_iff.mpr c12
    subst c12
    have H1 : (some false) = some true := by first | (rw [if_neg (show ¬ (false = true) by decide)] at H; exact H) | rfl
    clear H
    have H := H1
    clear H1
    exact absurd H (by decide)
end Go.Proofs.Ytenhgmddpkiliaa.PB

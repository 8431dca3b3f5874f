/- spec.l06Least: printed by xprint.py out of a print in which region 23 draws nothing; that region's walk by hand. -/
import Derived.Test.YtpfnohdnaocpdaaPTx3
import Derived.Test.YtpfnohdnaocpdaaPTx2
import Derived.Deep.RegionWith
namespace Go.Proofs.Ytpfnohdnaocpdaa.PT
open Go.RowKit Go.Proofs.YtpfnohdnaocpdaaW.PrintWords Go.Proofs.YtpfnohdnaocpdaaW.PrintLast Go.Proofs.YtpfnohdnaocpdaaW.PrintMore Go.Proofs.YtpfnohdnaocpdaaRP
attribute [local go_sem] max2_int min2_int max_two min_two max_three min_three max_four min_four Go.Proofs.YtpfnohdnaocpdaaRP.max_eight Go.Proofs.YtpfnohdnaocpdaaRP.tmod_len   -- for this text's walks alone
set_option linter.unusedVariables false
set_option linter.unusedSimpArgs false

theorem infoS3 : (Try.prog.info? 3).map (fun i => (i.zero, i.size, i.bytes)) = some (some (.int .i64 0), 1, 8) := by kernel_rfl
mutual
def spec_l06Least.l0 : Nat → List Int → Int → List (S89) → Option ((List (S89)))
  | 0, _, _, _ => none
  | k + 1, x4, x5, x231000 => if x5 ≤ (x231000.length : Int) then (if 0 ≤ (x4.length : Int) then (if ((x4.length : Int) : Int).toNat ≤ 35184372088832 then (spec_l06Least.l1 k x4 x5 (List.replicate ((x4.length : Int) : Int).toNat 0) 0 x231000) else (none)) else (none)) else (spec_l06Least.l3 k x4 0 x231000)
def spec_l06Least.l1 : Nat → List Int → Int → List Int → Int → List (S89) → Option ((List (S89)))
  | 0, _, _, _, _, _ => none
  | k + 1, x4, x5, x6, x7, x231000 => if x7 < (x4.length : Int) then (if 0 ≤ x7 then (if x7 < (x6.length : Int) then (spec_l06Least.l2 k x4 x5 (x6.set (x7 : Int).toNat x7) x7 0 x231000) else (none)) else (none)) else (spec_l06Least.l0 k x6 (wrap64 (x5 + 1)) x231000)
def spec_l06Least.l2 : Nat → List Int → Int → List Int → Int → Int → List (S89) → Option ((List (S89)))
  | 0, _, _, _, _, _, _ => none
  | k + 1, x4, x5, x6, x7, x8, x231000 => if x8 < x7 then (if 0 ≤ x8 then (if x8 < (x4.length : Int) then (if 0 ≤ x7 then (if x7 < (x4.length : Int) then (if (rd x4 x8) = (rd x4 x7) then ((spec_l06Alike.f k [(⟨x231000⟩ : S34)] x4 x8 x7).bind fun t241 => (if t241 = true then (if x8 < (x6.length : Int) then (if x7 < (x6.length : Int) then (spec_l06Least.l1 k x4 x5 (x6.set (x7 : Int).toNat (rd x6 x8)) (wrap64 (x7 + 1)) x231000) else (none)) else (none)) else (spec_l06Least.l2 k x4 x5 x6 x7 (wrap64 (x8 + 1)) x231000))) else (spec_l06Least.l2 k x4 x5 x6 x7 (wrap64 (x8 + 1)) x231000)) else (none)) else (none)) else (none)) else (none)) else (spec_l06Least.l1 k x4 x5 x6 (wrap64 (x7 + 1)) x231000)
def spec_l06Least.l3 : Nat → List Int → Int → List (S89) → Option ((List (S89)))
  | 0, _, _, _ => none
  | k + 1, x4, x9, x231000 => if x9 < (x231000.length : Int) then (spec_l06Least.l4 k x4 x9 0 x231000) else ((spec_l06Reached.f k [(⟨x231000⟩ : S34)]).bind fun t245 => ((spec_l06Tree.f k [(⟨x231000⟩ : S34)] t245).bind fun t249 => (some t249)))
def spec_l06Least.l4 : Nat → List Int → Int → Int → List (S89) → Option ((List (S89)))
  | 0, _, _, _, _ => none
  | k + 1, x4, x9, x10, x231000 => if 0 ≤ x9 then (if x9 < (x231000.length : Int) then ((spec_l06Ways.f [rd_T89 x231000 x9]).bind fun t254 => (if x10 < t254 then (if 0 ≤ x10 then (if x10 < 3 then (if 0 ≤ (rd [(rd_T89 x231000 x9).f2.f0, (rd_T89 x231000 x9).f2.f1, (rd_T89 x231000 x9).f2.f2] x10) then (if (rd [(rd_T89 x231000 x9).f2.f0, (rd_T89 x231000 x9).f2.f1, (rd_T89 x231000 x9).f2.f2] x10) < (x4.length : Int) then (spec_l06Least.l4 k x4 x9 (wrap64 (x10 + 1)) (x231000.set (x9 : Int).toNat (⟨(rd_T89 x231000 x9).f0, (rd_T89 x231000 x9).f1, (⟨(up 0 x10 (IntKind.i16.wrap (rd x4 (rd [(rd_T89 x231000 x9).f2.f0, (rd_T89 x231000 x9).f2.f1, (rd_T89 x231000 x9).f2.f2] x10))) ((rd_T89 x231000 x9).f2.f0)), (up 1 x10 (IntKind.i16.wrap (rd x4 (rd [(rd_T89 x231000 x9).f2.f0, (rd_T89 x231000 x9).f2.f1, (rd_T89 x231000 x9).f2.f2] x10))) ((rd_T89 x231000 x9).f2.f1)), (up 2 x10 (IntKind.i16.wrap (rd x4 (rd [(rd_T89 x231000 x9).f2.f0, (rd_T89 x231000 x9).f2.f1, (rd_T89 x231000 x9).f2.f2] x10))) ((rd_T89 x231000 x9).f2.f2))⟩ : S87)⟩ : S89))) else (none)) else (none)) else (none)) else (none)) else (spec_l06Least.l3 k x4 (wrap64 (x9 + 1)) x231000))) else (none)) else (none)
end
def spec_l06Least.f (k : Nat) (l0 : List (S34)) : Option ((List (S89))) := (spec_l06Reached.f k l0).bind fun t224 => ((spec_l06Tree.f k l0 t224).bind fun t227 => (if 0 ≤ (t227.length : Int) then (if ((t227.length : Int) : Int).toNat ≤ 35184372088832 then (spec_l06Least.l0 k (List.replicate ((t227.length : Int) : Int).toNat 0) 0 t227) else (none)) else (none)))
theorem spec_l06Least.mono_l : ∀ k, (∀ y0 y1 y2, LeO (spec_l06Least.l0 k y0 y1 y2) (spec_l06Least.l0 (k + 1) y0 y1 y2)) ∧ (∀ y0 y1 y2 y3 y4, LeO (spec_l06Least.l1 k y0 y1 y2 y3 y4) (spec_l06Least.l1 (k + 1) y0 y1 y2 y3 y4)) ∧ (∀ y0 y1 y2 y3 y4 y5, LeO (spec_l06Least.l2 k y0 y1 y2 y3 y4 y5) (spec_l06Least.l2 (k + 1) y0 y1 y2 y3 y4 y5)) ∧ (∀ y0 y1 y2, LeO (spec_l06Least.l3 k y0 y1 y2) (spec_l06Least.l3 (k + 1) y0 y1 y2)) ∧ (∀ y0 y1 y2 y3, LeO (spec_l06Least.l4 k y0 y1 y2 y3) (spec_l06Least.l4 (k + 1) y0 y1 y2 y3))
  | 0 => ⟨fun _ _ _ r h => by simp [spec_l06Least.l0] at h, fun _ _ _ _ _ r h => by simp [spec_l06Least.l1] at h, fun _ _ _ _ _ _ r h => by simp [spec_l06Least.l2] at h, fun _ _ _ r h => by simp [spec_l06Least.l3] at h, fun _ _ _ _ r h => by simp [spec_l06Least.l4] at h⟩
  | k + 1 => by
    obtain ⟨ih0, ih1, ih2, ih3, ih4⟩ := spec_l06Least.mono_l k
    refine ⟨?_, ?_, ?_, ?_, ?_⟩
    · intro y0 y1 y2
      unfold spec_l06Least.l0
      repeat' first
      | (with_reducible exact ih0 _ _ _)
      | (with_reducible exact ih1 _ _ _ _ _)
      | (with_reducible exact ih2 _ _ _ _ _ _)
      | (with_reducible exact ih3 _ _ _)
      | (with_reducible exact ih4 _ _ _ _)
      | (with_reducible exact spec_l06Alike.mono _ _ _ _ _)
      | (with_reducible exact spec_l06Reached.mono _ _)
      | (with_reducible exact spec_l06Tree.mono _ _ _)
      | (with_reducible exact LeO.refl _)
      | (with_reducible exact LeO.none _)
      | (with_reducible refine LeO.ite ?_ ?_)
      | (with_reducible refine LeO.bind ?_ (fun _ => ?_))
      | exact ih0 _ _ _
      | exact ih1 _ _ _ _ _
      | exact ih2 _ _ _ _ _ _
      | exact ih3 _ _ _
      | exact ih4 _ _ _ _
      | exact spec_l06Alike.mono _ _ _ _ _
      | exact spec_l06Reached.mono _ _
      | exact spec_l06Tree.mono _ _ _
      | exact LeO.none _
      | refine LeO.ite ?_ ?_
      | refine LeO.bind ?_ (fun _ => ?_)
    · intro y0 y1 y2 y3 y4
      unfold spec_l06Least.l1
      repeat' first
      | (with_reducible exact ih0 _ _ _)
      | (with_reducible exact ih1 _ _ _ _ _)
      | (with_reducible exact ih2 _ _ _ _ _ _)
      | (with_reducible exact ih3 _ _ _)
      | (with_reducible exact ih4 _ _ _ _)
      | (with_reducible exact spec_l06Alike.mono _ _ _ _ _)
      | (with_reducible exact spec_l06Reached.mono _ _)
      | (with_reducible exact spec_l06Tree.mono _ _ _)
      | (with_reducible exact LeO.refl _)
      | (with_reducible exact LeO.none _)
      | (with_reducible refine LeO.ite ?_ ?_)
      | (with_reducible refine LeO.bind ?_ (fun _ => ?_))
      | exact ih0 _ _ _
      | exact ih1 _ _ _ _ _
      | exact ih2 _ _ _ _ _ _
      | exact ih3 _ _ _
      | exact ih4 _ _ _ _
      | exact spec_l06Alike.mono _ _ _ _ _
      | exact spec_l06Reached.mono _ _
      | exact spec_l06Tree.mono _ _ _
      | exact LeO.none _
      | refine LeO.ite ?_ ?_
      | refine LeO.bind ?_ (fun _ => ?_)
    · intro y0 y1 y2 y3 y4 y5
      unfold spec_l06Least.l2
      repeat' first
      | (with_reducible exact ih0 _ _ _)
      | (with_reducible exact ih1 _ _ _ _ _)
      | (with_reducible exact ih2 _ _ _ _ _ _)
      | (with_reducible exact ih3 _ _ _)
      | (with_reducible exact ih4 _ _ _ _)
      | (with_reducible exact spec_l06Alike.mono _ _ _ _ _)
      | (with_reducible exact spec_l06Reached.mono _ _)
      | (with_reducible exact spec_l06Tree.mono _ _ _)
      | (with_reducible exact LeO.refl _)
      | (with_reducible exact LeO.none _)
      | (with_reducible refine LeO.ite ?_ ?_)
      | (with_reducible refine LeO.bind ?_ (fun _ => ?_))
      | exact ih0 _ _ _
      | exact ih1 _ _ _ _ _
      | exact ih2 _ _ _ _ _ _
      | exact ih3 _ _ _
      | exact ih4 _ _ _ _
      | exact spec_l06Alike.mono _ _ _ _ _
      | exact spec_l06Reached.mono _ _
      | exact spec_l06Tree.mono _ _ _
      | exact LeO.none _
      | refine LeO.ite ?_ ?_
      | refine LeO.bind ?_ (fun _ => ?_)
    · intro y0 y1 y2
      unfold spec_l06Least.l3
      repeat' first
      | (with_reducible exact ih0 _ _ _)
      | (with_reducible exact ih1 _ _ _ _ _)
      | (with_reducible exact ih2 _ _ _ _ _ _)
      | (with_reducible exact ih3 _ _ _)
      | (with_reducible exact ih4 _ _ _ _)
      | (with_reducible exact spec_l06Alike.mono _ _ _ _ _)
      | (with_reducible exact spec_l06Reached.mono _ _)
      | (with_reducible exact spec_l06Tree.mono _ _ _)
      | (with_reducible exact LeO.refl _)
      | (with_reducible exact LeO.none _)
      | (with_reducible refine LeO.ite ?_ ?_)
      | (with_reducible refine LeO.bind ?_ (fun _ => ?_))
      | exact ih0 _ _ _
      | exact ih1 _ _ _ _ _
      | exact ih2 _ _ _ _ _ _
      | exact ih3 _ _ _
      | exact ih4 _ _ _ _
      | exact spec_l06Alike.mono _ _ _ _ _
      | exact spec_l06Reached.mono _ _
      | exact spec_l06Tree.mono _ _ _
      | exact LeO.none _
      | refine LeO.ite ?_ ?_
      | refine LeO.bind ?_ (fun _ => ?_)
    · intro y0 y1 y2 y3
      unfold spec_l06Least.l4
      repeat' first
      | (with_reducible exact ih0 _ _ _)
      | (with_reducible exact ih1 _ _ _ _ _)
      | (with_reducible exact ih2 _ _ _ _ _ _)
      | (with_reducible exact ih3 _ _ _)
      | (with_reducible exact ih4 _ _ _ _)
      | (with_reducible exact spec_l06Alike.mono _ _ _ _ _)
      | (with_reducible exact spec_l06Reached.mono _ _)
      | (with_reducible exact spec_l06Tree.mono _ _ _)
      | (with_reducible exact LeO.refl _)
      | (with_reducible exact LeO.none _)
      | (with_reducible refine LeO.ite ?_ ?_)
      | (with_reducible refine LeO.bind ?_ (fun _ => ?_))
      | exact ih0 _ _ _
      | exact ih1 _ _ _ _ _
      | exact ih2 _ _ _ _ _ _
      | exact ih3 _ _ _
      | exact ih4 _ _ _ _
      | exact spec_l06Alike.mono _ _ _ _ _
      | exact spec_l06Reached.mono _ _
      | exact spec_l06Tree.mono _ _ _
      | exact LeO.none _
      | refine LeO.ite ?_ ?_
      | refine LeO.bind ?_ (fun _ => ?_)
theorem spec_l06Least.mono : ∀ a0 k, LeO (spec_l06Least.f k a0) (spec_l06Least.f (k + 1) a0) := by
  intro a0 k
  obtain ⟨ih0, ih1, ih2, ih3, ih4⟩ := spec_l06Least.mono_l k
  unfold spec_l06Least.f
  repeat' first
      | (with_reducible exact ih0 _ _ _)
      | (with_reducible exact ih1 _ _ _ _ _)
      | (with_reducible exact ih2 _ _ _ _ _ _)
      | (with_reducible exact ih3 _ _ _)
      | (with_reducible exact ih4 _ _ _ _)
      | (with_reducible exact spec_l06Alike.mono _ _ _ _ _)
      | (with_reducible exact spec_l06Reached.mono _ _)
      | (with_reducible exact spec_l06Tree.mono _ _ _)
      | (with_reducible exact LeO.refl _)
      | (with_reducible exact LeO.none _)
      | (with_reducible refine LeO.ite ?_ ?_)
      | (with_reducible refine LeO.bind ?_ (fun _ => ?_))
      | exact ih0 _ _ _
      | exact ih1 _ _ _ _ _
      | exact ih2 _ _ _ _ _ _
      | exact ih3 _ _ _
      | exact ih4 _ _ _ _
      | exact spec_l06Alike.mono _ _ _ _ _
      | exact spec_l06Reached.mono _ _
      | exact spec_l06Tree.mono _ _ _
      | exact LeO.none _
      | refine LeO.ite ?_ ?_
      | refine LeO.bind ?_ (fun _ => ?_)
set_option maxHeartbeats 8000000 in
set_option maxRecDepth 100000 in
theorem spec_l06Least.calls (k : Nat) (A0 : Option Addr) (c0 : Nat) (l0 : List (S34)) (r : List (S89)) (w : World) (hr0 : Kd.C k34 w A0 l0.length l0) (hc0 : l0.length ≤ c0) (h : spec_l06Least.f k l0 = some r) :
    Calls Try.prog 77 #[.pointer A0] w fun e w' => ∃ v0_ : Value, e = .returned (.agg #[v0_]) ∧ Kd.R k89 89 w' w.heap.size (fun _ => True) v0_ r ∧ Below w.heap.size w w' := by
  have hu34 := Try.underlying34
  have HR0 := Aside0.mk hr0
  have HC0 := Aside0.mk hc0
  clear hr0 hc0
  have HB := Aside0.mk (Below.refl w.heap.size w)
  have H : ((spec_l06Reached.f k l0).bind fun t224 => ((spec_l06Tree.f k l0 t224).bind fun t227 => (if 0 ≤ (t227.length : Int) then (if ((t227.length : Int) : Int).toNat ≤ 35184372088832 then (spec_l06Least.l0 k (List.replicate ((t227.length : Int) : Int).toNat 0) 0 t227) else (none)) else (none)))) = some r := h
  clear h
  replace H := Option.bind_eq_some_iff.mp H
  obtain ⟨t224, A20, H⟩ := H
  replace H : ((spec_l06Tree.f k l0 t224).bind fun t227 => (if 0 ≤ (t227.length : Int) then (if ((t227.length : Int) : Int).toNat ≤ 35184372088832 then (spec_l06Least.l0 k (List.replicate ((t227.length : Int) : Int).toNat 0) 0 t227) else (none)) else (none))) = some r := H
  have A2 := Aside0.mk A20
  clear A20
  replace H := Option.bind_eq_some_iff.mp H
  obtain ⟨t227, A30, H⟩ := H
  replace H : (if 0 ≤ (t227.length : Int) then (if ((t227.length : Int) : Int).toNat ≤ 35184372088832 then (spec_l06Least.l0 k (List.replicate ((t227.length : Int) : Int).toNat 0) 0 t227) else (none)) else (none)) = some r := H
  have A3 := Aside0.mk A30
  clear A30
  by_cases c4 : 0 ≤ (t227.length : Int)
  · rw [if_pos c4] at H
    have c4b0 := eq_true c4
    have c4b1 : decide (0 ≤ (t227.length : Int)) = true := decide_eq_true c4
    clear c4
    by_cases c5 : ((t227.length : Int) : Int).toNat ≤ 35184372088832
    · rw [if_pos c5] at H
      have c5b0 := eq_true c5
      have c5b1 : decide (((t227.length : Int) : Int).toNat ≤ 35184372088832) = true := decide_eq_true c5
      clear c5
      obtain ⟨y231, hy231⟩ : ∃ y_ : List Int, y_ = (List.replicate ((t227.length : Int) : Int).toNat 0) := ⟨_, rfl⟩
      replace H : (spec_l06Least.l0 k y231 0 t227) = some r := by first | (rw [hy231]; with_reducible exact H) | (have H2_ := (Option.bind_some _ _).symm.trans H; rw [hy231]; with_reducible exact H2_) | (have H2_ := (Option.bind_some _ _).symm.trans H; with_reducible exact H2_) | with_reducible exact H | (rw [hy231]; exact H) | exact H
      have Ny231 := Aside0.mk hy231
      clear hy231
      have H' := Aside0.mk H
      clear H
      go_enter Try.func77, Try.ntmps77
      go_wp2_with (first | ((with_reducible refine gate_dst (N := 2) rfl ?_); refine box_event ?hg (N := 2) ?hd (cs := #[.slice none 0 0]) (t := 34) ?hr ?_; (case hd => rfl); (case hg => rfl); (case hr => first | (go_simp; done) | (go_simp; rfl)); intro gb223 hg w6 hbox hb; have n0_ := Aside0.mk (below_step (by repeat (first | (with_reducible first | exact HB.out | apply below_alloc | apply pw_below_drewN | apply below_drew1) | exact HB.out)) hb); have n1_ := Aside0.mk (hbox); have n2_ := Aside0.mk ((by rw [hg]; exact (below_size (by repeat (first | (with_reducible first | exact HB.out | apply below_alloc | apply pw_below_drewN | apply below_drew1) | exact HB.out))) : w.heap.size ≤ gb223)); have n3_ := Aside0.mk ((by rw [hg]; exact (below_size (by repeat (first | (with_reducible first | exact HB.out | apply below_alloc | apply pw_below_drewN | apply below_drew1) | exact HB.out))) : w.heap.size ≤ gb223)); clear HB; have HB := n0_; have BK223 := n1_; have GW223 := n2_; have GE223 := n3_; clear n0_ n1_ n2_ n3_; clear hb hbox hg) | (go_at_call 95; (with_reducible refine (spec_l06Reached.calls k _ (l0).length l0 t224 _ ?side1 ?side2 A2.out).mono ?_); (case side1 => repeat (first | exact (Kd.C_below HR0.out HB.out) | (with_reducible refine Kd.C_alloc ?_ _) | (with_reducible refine Kd.C_drewN ?_ _) | (with_reducible refine Kd.C_drew ?_))); (case side2 => exact Nat.le_refl _); rintro e w7 ⟨v225, rfl, ho0, hb⟩; have n0_ := Aside0.mk (Kd.R_lower ho0 (below_size (by repeat (first | (with_reducible first | exact HB.out | apply below_alloc | apply pw_below_drewN | apply below_drew1 | refine below_set ?_ GE223.out) | exact HB.out)))); have n1_ := Aside0.mk (blk_below (g := gb223) (o := .cells #[.slice none 0 0] 34 (0, 0)) (by (with_reducible repeat (first | refine blk_drewN ?_ _ | refine blk_drew ?_ | refine blk_alloc ?_ _)); exact BK223.out) hb); have n2_ := Aside0.mk (below_step (by repeat (first | (with_reducible first | exact HB.out | apply below_alloc | apply pw_below_drewN | apply below_drew1 | refine below_set ?_ GE223.out) | exact HB.out)) hb); clear BK223; clear HB; have HO226 := n0_; have BK223 := n1_; have HB := n2_; clear n0_ n1_ n2_; (try clear hb); (try clear hb2); (try clear hk); (try clear hi); (try clear ho0); obtain ⟨Ao8, co8, eo8⟩ := Kd.R_slice HO226.out; subst eo8) | (go_at_call 96; (with_reducible refine (spec_l06Tree.calls k _ (l0).length l0 _ _ t224 t227 _ ?side1 ?side2 ?side3 ?side4 A3.out).mono ?_); (case side1 => repeat (first | exact (Kd.C_below HR0.out HB.out) | (with_reducible refine Kd.C_alloc ?_ _) | (with_reducible refine Kd.C_drewN ?_ _) | (with_reducible refine Kd.C_drew ?_))); (case side2 => exact Nat.le_refl _); (case side3 => repeat (first | exact (Kd.R_reads' HO226.out).2.2 | (with_reducible refine Kd.C_alloc ?_ _) | (with_reducible refine Kd.C_drewN ?_ _) | (with_reducible refine Kd.C_drew ?_))); (case side4 => exact (Kd.R_reads' HO226.out).2.1); rintro e w9 ⟨v228, rfl, ho0, hb⟩; have n0_ := Aside0.mk (Kd.R_below (by (with_reducible repeat (first | apply Kd.R_alloc | apply Kd.R_drewN | apply Kd.R_drew)); exact HO226.out) hb); have n1_ := Aside0.mk (Kd.R_lower ho0 (below_size (by repeat (first | (with_reducible first | exact HB.out | apply below_alloc | apply pw_below_drewN | apply below_drew1 | refine below_set ?_ GE223.out) | exact HB.out)))); have n2_ := Aside0.mk (blk_below (g := gb223) (o := .cells #[.slice none 0 0] 34 (0, 0)) (by (with_reducible repeat (first | refine blk_drewN ?_ _ | refine blk_drew ?_ | refine blk_alloc ?_ _)); exact BK223.out) hb); have n3_ := Aside0.mk (below_step (by repeat (first | (with_reducible first | exact HB.out | apply below_alloc | apply pw_below_drewN | apply below_drew1 | refine below_set ?_ GE223.out) | exact HB.out)) hb); clear HO226; clear BK223; clear HB; have HO226 := n0_; have HO229 := n1_; have BK223 := n2_; have HB := n3_; clear n0_ n1_ n2_ n3_; (try clear hb); (try clear hb2); (try clear hk); (try clear hi); (try clear ho0)) | ((with_reducible refine gate_dst (N := 3) rfl ?_); refine box_event ?hg (N := 3) ?hd (cs := #[.slice none 0 0]) (t := 34) ?hr ?_; (case hd => rfl); (case hg => rfl); (case hr => first | (go_simp; done) | (go_simp; rfl)); intro gb230 hg w10 hbox hb; have n0_ := Aside0.mk (Kd.R_below (by (with_reducible repeat (first | apply Kd.R_alloc | apply Kd.R_drewN | apply Kd.R_drew)); exact HO226.out) hb); have n1_ := Aside0.mk (Kd.R_below (by (with_reducible repeat (first | apply Kd.R_alloc | apply Kd.R_drewN | apply Kd.R_drew)); exact HO229.out) hb); have n2_ := Aside0.mk (blk_below (g := gb223) (o := .cells #[.slice none 0 0] 34 (0, 0)) (by (with_reducible repeat (first | refine blk_drewN ?_ _ | refine blk_drew ?_ | refine blk_alloc ?_ _)); exact BK223.out) hb); have n3_ := Aside0.mk (below_step (by repeat (first | (with_reducible first | exact HB.out | apply below_alloc | apply pw_below_drewN | apply below_drew1 | refine below_set ?_ GE223.out) | exact HB.out)) hb); have n4_ := Aside0.mk (hbox); have n5_ := Aside0.mk ((by rw [hg]; exact (below_size (by repeat (first | (with_reducible first | exact HB.out | apply below_alloc | apply pw_below_drewN | apply below_drew1 | refine below_set ?_ GE223.out) | exact HB.out))) : w.heap.size ≤ gb230)); have n6_ := Aside0.mk ((by rw [hg]; exact (below_size (by repeat (first | (with_reducible first | exact HB.out | apply below_alloc | apply pw_below_drewN | apply below_drew1 | refine below_set ?_ GE223.out) | exact HB.out))) : w.heap.size ≤ gb230)); have n7_ := Aside0.mk ((by rw [hg]; exact Nat.ne_of_lt (blk_lt (g := gb223) (o := .cells #[.slice none 0 0] 34 (0, 0)) (by (with_reducible repeat (first | refine blk_drewN ?_ _ | refine blk_drew ?_ | refine blk_alloc ?_ _)); exact BK223.out)) : gb223 ≠ gb230)); have n8_ := Aside0.mk ((by rw [hg]; exact Nat.ne_of_gt (blk_lt (g := gb223) (o := .cells #[.slice none 0 0] 34 (0, 0)) (by (with_reducible repeat (first | refine blk_drewN ?_ _ | refine blk_drew ?_ | refine blk_alloc ?_ _)); exact BK223.out)) : gb230 ≠ gb223)); clear HO226; clear HO229; clear BK223; clear HB; have HO226 := n0_; have HO229 := n1_; have BK223 := n2_; have HB := n3_; have BK230 := n4_; have GW230 := n5_; have GE230 := n6_; have NB223_230 := n7_; have NB230_223 := n8_; clear n0_ n1_ n2_ n3_ n4_ n5_ n6_ n7_ n8_; clear hb hbox hg; obtain ⟨Ao11, co11, eo11⟩ := Kd.R_slice HO229.out; subst eo11; have hnb12 := NB230_223.out; have hnc12 := NB223_230.out; have hcz13_0 : w10.cell? ⟨gb230, 0, none⟩ = some (.slice none 0 0) := (blk_cell BK230.out 0).trans rfl; have hfz13_0 := blk_frozen BK230.out 0) | ((with_reducible refine gate_dst (N := 18) rfl ?_); refine Kd.R_make (Kd.int .i64) _ 3 rfl (N := 18) rfl 172 _ _ rfl (t227.length : Int) rfl rfl Try.underlying172 (.int .i64 0) 8 infoS3 rfl (by decide) (by omega) 0 (ok := fun _ => True) (okp := fun _ => True) rfl (fun _ hk => hk) trivial (of_decide_eq_true (by first | (with_reducible assumption) | assumption)) (Nat.le_trans (Nat.mul_le_mul_right _ (of_decide_eq_true (by first | (with_reducible assumption) | assumption) : (t227.length : Int).toNat ≤ 35184372088832)) (by omega)) (Below.refl _ _) (Nat.le_refl _) ?_; intro v232 w14 ho15 hb hg_ hnew_; clear hg_ hnew_; (first | rw [← Ny231.out] at ho15 | (simp only [Int.reduceToNat] at ho15; rw [← Ny231.out] at ho15)); have n0_ := Aside0.mk (Kd.R_below (by (with_reducible repeat (first | apply Kd.R_alloc | apply Kd.R_drewN | apply Kd.R_drew)); exact (Kd.R_mono (Kd.R_far (p := ⟨gb230, 0, none⟩) (Kd.R_types HO226.out BK230.out (by decide)) (fun _ hk => hk.2) (.slice Ao11 t227.length co11)) (fun _ h_ => h_.1))) hb); have n1_ := Aside0.mk (Kd.R_below (by (with_reducible repeat (first | apply Kd.R_alloc | apply Kd.R_drewN | apply Kd.R_drew)); exact (Kd.R_mono (Kd.R_far (p := ⟨gb230, 0, none⟩) (Kd.R_types HO229.out BK230.out (by decide)) (fun _ hk => hk.2) (.slice Ao11 t227.length co11)) (fun _ h_ => h_.1))) hb); have n2_ := Aside0.mk (Kd.R_lower ho15 (below_size (by repeat (first | (with_reducible first | exact HB.out | apply below_alloc | apply pw_below_drewN | apply below_drew1 | refine below_set ?_ GE223.out | refine below_set ?_ GE230.out) | exact HB.out)))); have n3_ := Aside0.mk (blk_below (g := gb223) (o := .cells #[.slice none 0 0] 34 (0, 0)) (by (with_reducible repeat (first | refine blk_drewN ?_ _ | refine blk_drew ?_ | refine blk_alloc ?_ _)); refine blk_far ?_ NB223_230.out _; (with_reducible repeat (first | refine blk_drewN ?_ _ | refine blk_drew ?_ | refine blk_alloc ?_ _)); exact BK223.out) hb); have n4_ := Aside0.mk (blk_below (g := gb230) (o := .cells #[.slice Ao11 t227.length co11] 34 (0, 0)) (by (with_reducible repeat (first | refine blk_drewN ?_ _ | refine blk_drew ?_ | refine blk_alloc ?_ _)); refine blk_put (cs := #[.slice none 0 0]) ?_ 0 _ rfl; (with_reducible repeat (first | refine blk_drewN ?_ _ | refine blk_drew ?_ | refine blk_alloc ?_ _)); exact BK230.out) hb); have n5_ := Aside0.mk (below_step (by repeat (first | (with_reducible first | exact HB.out | apply below_alloc | apply pw_below_drewN | apply below_drew1 | refine below_set ?_ GE223.out | refine below_set ?_ GE230.out) | exact HB.out)) hb); clear HO226; clear HO229; clear BK223; clear BK230; clear HB; have HO226 := n0_; have HO229 := n1_; have HO233 := n2_; have BK223 := n3_; have BK230 := n4_; have HB := n5_; clear n0_ n1_ n2_ n3_ n4_ n5_; clear hb ho15))
      repeat (go_quiet (first | ((with_reducible refine gate_dst (N := 2) rfl ?_); refine box_event ?hg (N := 2) ?hd (cs := #[.slice none 0 0]) (t := 34) ?hr ?_; (case hd => rfl); (case hg => rfl); (case hr => first | (go_simp; done) | (go_simp; rfl)); intro gb223 hg w6 hbox hb; have n0_ := Aside0.mk (below_step (by repeat (first | (with_reducible first | exact HB.out | apply below_alloc | apply pw_below_drewN | apply below_drew1) | exact HB.out)) hb); have n1_ := Aside0.mk (hbox); have n2_ := Aside0.mk ((by rw [hg]; exact (below_size (by repeat (first | (with_reducible first | exact HB.out | apply below_alloc | apply pw_below_drewN | apply below_drew1) | exact HB.out))) : w.heap.size ≤ gb223)); have n3_ := Aside0.mk ((by rw [hg]; exact (below_size (by repeat (first | (with_reducible first | exact HB.out | apply below_alloc | apply pw_below_drewN | apply below_drew1) | exact HB.out))) : w.heap.size ≤ gb223)); clear HB; have HB := n0_; have BK223 := n1_; have GW223 := n2_; have GE223 := n3_; clear n0_ n1_ n2_ n3_; clear hb hbox hg) | (go_at_call 95; (with_reducible refine (spec_l06Reached.calls k _ (l0).length l0 t224 _ ?side1 ?side2 A2.out).mono ?_); (case side1 => repeat (first | exact (Kd.C_below HR0.out HB.out) | (with_reducible refine Kd.C_alloc ?_ _) | (with_reducible refine Kd.C_drewN ?_ _) | (with_reducible refine Kd.C_drew ?_))); (case side2 => exact Nat.le_refl _); rintro e w7 ⟨v225, rfl, ho0, hb⟩; have n0_ := Aside0.mk (Kd.R_lower ho0 (below_size (by repeat (first | (with_reducible first | exact HB.out | apply below_alloc | apply pw_below_drewN | apply below_drew1 | refine below_set ?_ GE223.out) | exact HB.out)))); have n1_ := Aside0.mk (blk_below (g := gb223) (o := .cells #[.slice none 0 0] 34 (0, 0)) (by (with_reducible repeat (first | refine blk_drewN ?_ _ | refine blk_drew ?_ | refine blk_alloc ?_ _)); exact BK223.out) hb); have n2_ := Aside0.mk (below_step (by repeat (first | (with_reducible first | exact HB.out | apply below_alloc | apply pw_below_drewN | apply below_drew1 | refine below_set ?_ GE223.out) | exact HB.out)) hb); clear BK223; clear HB; have HO226 := n0_; have BK223 := n1_; have HB := n2_; clear n0_ n1_ n2_; (try clear hb); (try clear hb2); (try clear hk); (try clear hi); (try clear ho0); obtain ⟨Ao8, co8, eo8⟩ := Kd.R_slice HO226.out; subst eo8) | (go_at_call 96; (with_reducible refine (spec_l06Tree.calls k _ (l0).length l0 _ _ t224 t227 _ ?side1 ?side2 ?side3 ?side4 A3.out).mono ?_); (case side1 => repeat (first | exact (Kd.C_below HR0.out HB.out) | (with_reducible refine Kd.C_alloc ?_ _) | (with_reducible refine Kd.C_drewN ?_ _) | (with_reducible refine Kd.C_drew ?_))); (case side2 => exact Nat.le_refl _); (case side3 => repeat (first | exact (Kd.R_reads' HO226.out).2.2 | (with_reducible refine Kd.C_alloc ?_ _) | (with_reducible refine Kd.C_drewN ?_ _) | (with_reducible refine Kd.C_drew ?_))); (case side4 => exact (Kd.R_reads' HO226.out).2.1); rintro e w9 ⟨v228, rfl, ho0, hb⟩; have n0_ := Aside0.mk (Kd.R_below (by (with_reducible repeat (first | apply Kd.R_alloc | apply Kd.R_drewN | apply Kd.R_drew)); exact HO226.out) hb); have n1_ := Aside0.mk (Kd.R_lower ho0 (below_size (by repeat (first | (with_reducible first | exact HB.out | apply below_alloc | apply pw_below_drewN | apply below_drew1 | refine below_set ?_ GE223.out) | exact HB.out)))); have n2_ := Aside0.mk (blk_below (g := gb223) (o := .cells #[.slice none 0 0] 34 (0, 0)) (by (with_reducible repeat (first | refine blk_drewN ?_ _ | refine blk_drew ?_ | refine blk_alloc ?_ _)); exact BK223.out) hb); have n3_ := Aside0.mk (below_step (by repeat (first | (with_reducible first | exact HB.out | apply below_alloc | apply pw_below_drewN | apply below_drew1 | refine below_set ?_ GE223.out) | exact HB.out)) hb); clear HO226; clear BK223; clear HB; have HO226 := n0_; have HO229 := n1_; have BK223 := n2_; have HB := n3_; clear n0_ n1_ n2_ n3_; (try clear hb); (try clear hb2); (try clear hk); (try clear hi); (try clear ho0)) | ((with_reducible refine gate_dst (N := 3) rfl ?_); refine box_event ?hg (N := 3) ?hd (cs := #[.slice none 0 0]) (t := 34) ?hr ?_; (case hd => rfl); (case hg => rfl); (case hr => first | (go_simp; done) | (go_simp; rfl)); intro gb230 hg w10 hbox hb; have n0_ := Aside0.mk (Kd.R_below (by (with_reducible repeat (first | apply Kd.R_alloc | apply Kd.R_drewN | apply Kd.R_drew)); exact HO226.out) hb); have n1_ := Aside0.mk (Kd.R_below (by (with_reducible repeat (first | apply Kd.R_alloc | apply Kd.R_drewN | apply Kd.R_drew)); exact HO229.out) hb); have n2_ := Aside0.mk (blk_below (g := gb223) (o := .cells #[.slice none 0 0] 34 (0, 0)) (by (with_reducible repeat (first | refine blk_drewN ?_ _ | refine blk_drew ?_ | refine blk_alloc ?_ _)); exact BK223.out) hb); have n3_ := Aside0.mk (below_step (by repeat (first | (with_reducible first | exact HB.out | apply below_alloc | apply pw_below_drewN | apply below_drew1 | refine below_set ?_ GE223.out) | exact HB.out)) hb); have n4_ := Aside0.mk (hbox); have n5_ := Aside0.mk ((by rw [hg]; exact (below_size (by repeat (first | (with_reducible first | exact HB.out | apply below_alloc | apply pw_below_drewN | apply below_drew1 | refine below_set ?_ GE223.out) | exact HB.out))) : w.heap.size ≤ gb230)); have n6_ := Aside0.mk ((by rw [hg]; exact (below_size (by repeat (first | (with_reducible first | exact HB.out | apply below_alloc | apply pw_below_drewN | apply below_drew1 | refine below_set ?_ GE223.out) | exact HB.out))) : w.heap.size ≤ gb230)); have n7_ := Aside0.mk ((by rw [hg]; exact Nat.ne_of_lt (blk_lt (g := gb223) (o := .cells #[.slice none 0 0] 34 (0, 0)) (by (with_reducible repeat (first | refine blk_drewN ?_ _ | refine blk_drew ?_ | refine blk_alloc ?_ _)); exact BK223.out)) : gb223 ≠ gb230)); have n8_ := Aside0.mk ((by rw [hg]; exact Nat.ne_of_gt (blk_lt (g := gb223) (o := .cells #[.slice none 0 0] 34 (0, 0)) (by (with_reducible repeat (first | refine blk_drewN ?_ _ | refine blk_drew ?_ | refine blk_alloc ?_ _)); exact BK223.out)) : gb230 ≠ gb223)); clear HO226; clear HO229; clear BK223; clear HB; have HO226 := n0_; have HO229 := n1_; have BK223 := n2_; have HB := n3_; have BK230 := n4_; have GW230 := n5_; have GE230 := n6_; have NB223_230 := n7_; have NB230_223 := n8_; clear n0_ n1_ n2_ n3_ n4_ n5_ n6_ n7_ n8_; clear hb hbox hg; obtain ⟨Ao11, co11, eo11⟩ := Kd.R_slice HO229.out; subst eo11; have hnb12 := NB230_223.out; have hnc12 := NB223_230.out; have hcz13_0 : w10.cell? ⟨gb230, 0, none⟩ = some (.slice none 0 0) := (blk_cell BK230.out 0).trans rfl; have hfz13_0 := blk_frozen BK230.out 0) | ((with_reducible refine gate_dst (N := 18) rfl ?_); refine Kd.R_make (Kd.int .i64) _ 3 rfl (N := 18) rfl 172 _ _ rfl (t227.length : Int) rfl rfl Try.underlying172 (.int .i64 0) 8 infoS3 rfl (by decide) (by omega) 0 (ok := fun _ => True) (okp := fun _ => True) rfl (fun _ hk => hk) trivial (of_decide_eq_true (by first | (with_reducible assumption) | assumption)) (Nat.le_trans (Nat.mul_le_mul_right _ (of_decide_eq_true (by first | (with_reducible assumption) | assumption) : (t227.length : Int).toNat ≤ 35184372088832)) (by omega)) (Below.refl _ _) (Nat.le_refl _) ?_; intro v232 w14 ho15 hb hg_ hnew_; clear hg_ hnew_; (first | rw [← Ny231.out] at ho15 | (simp only [Int.reduceToNat] at ho15; rw [← Ny231.out] at ho15)); have n0_ := Aside0.mk (Kd.R_below (by (with_reducible repeat (first | apply Kd.R_alloc | apply Kd.R_drewN | apply Kd.R_drew)); exact (Kd.R_mono (Kd.R_far (p := ⟨gb230, 0, none⟩) (Kd.R_types HO226.out BK230.out (by decide)) (fun _ hk => hk.2) (.slice Ao11 t227.length co11)) (fun _ h_ => h_.1))) hb); have n1_ := Aside0.mk (Kd.R_below (by (with_reducible repeat (first | apply Kd.R_alloc | apply Kd.R_drewN | apply Kd.R_drew)); exact (Kd.R_mono (Kd.R_far (p := ⟨gb230, 0, none⟩) (Kd.R_types HO229.out BK230.out (by decide)) (fun _ hk => hk.2) (.slice Ao11 t227.length co11)) (fun _ h_ => h_.1))) hb); have n2_ := Aside0.mk (Kd.R_lower ho15 (below_size (by repeat (first | (with_reducible first | exact HB.out | apply below_alloc | apply pw_below_drewN | apply below_drew1 | refine below_set ?_ GE223.out | refine below_set ?_ GE230.out) | exact HB.out)))); have n3_ := Aside0.mk (blk_below (g := gb223) (o := .cells #[.slice none 0 0] 34 (0, 0)) (by (with_reducible repeat (first | refine blk_drewN ?_ _ | refine blk_drew ?_ | refine blk_alloc ?_ _)); refine blk_far ?_ NB223_230.out _; (with_reducible repeat (first | refine blk_drewN ?_ _ | refine blk_drew ?_ | refine blk_alloc ?_ _)); exact BK223.out) hb); have n4_ := Aside0.mk (blk_below (g := gb230) (o := .cells #[.slice Ao11 t227.length co11] 34 (0, 0)) (by (with_reducible repeat (first | refine blk_drewN ?_ _ | refine blk_drew ?_ | refine blk_alloc ?_ _)); refine blk_put (cs := #[.slice none 0 0]) ?_ 0 _ rfl; (with_reducible repeat (first | refine blk_drewN ?_ _ | refine blk_drew ?_ | refine blk_alloc ?_ _)); exact BK230.out) hb); have n5_ := Aside0.mk (below_step (by repeat (first | (with_reducible first | exact HB.out | apply below_alloc | apply pw_below_drewN | apply below_drew1 | refine below_set ?_ GE223.out | refine below_set ?_ GE230.out) | exact HB.out)) hb); clear HO226; clear HO229; clear BK223; clear BK230; clear HB; have HO226 := n0_; have HO229 := n1_; have HO233 := n2_; have BK223 := n3_; have BK230 := n4_; have HB := n5_; clear n0_ n1_ n2_ n3_ n4_ n5_; clear hb ho15)); try go_wp2_with (first | ((with_reducible refine gate_dst (N := 2) rfl ?_); refine box_event ?hg (N := 2) ?hd (cs := #[.slice none 0 0]) (t := 34) ?hr ?_; (case hd => rfl); (case hg => rfl); (case hr => first | (go_simp; done) | (go_simp; rfl)); intro gb223 hg w6 hbox hb; have n0_ := Aside0.mk (below_step (by repeat (first | (with_reducible first | exact HB.out | apply below_alloc | apply pw_below_drewN | apply below_drew1) | exact HB.out)) hb); have n1_ := Aside0.mk (hbox); have n2_ := Aside0.mk ((by rw [hg]; exact (below_size (by repeat (first | (with_reducible first | exact HB.out | apply below_alloc | apply pw_below_drewN | apply below_drew1) | exact HB.out))) : w.heap.size ≤ gb223)); have n3_ := Aside0.mk ((by rw [hg]; exact (below_size (by repeat (first | (with_reducible first | exact HB.out | apply below_alloc | apply pw_below_drewN | apply below_drew1) | exact HB.out))) : w.heap.size ≤ gb223)); clear HB; have HB := n0_; have BK223 := n1_; have GW223 := n2_; have GE223 := n3_; clear n0_ n1_ n2_ n3_; clear hb hbox hg) | (go_at_call 95; (with_reducible refine (spec_l06Reached.calls k _ (l0).length l0 t224 _ ?side1 ?side2 A2.out).mono ?_); (case side1 => repeat (first | exact (Kd.C_below HR0.out HB.out) | (with_reducible refine Kd.C_alloc ?_ _) | (with_reducible refine Kd.C_drewN ?_ _) | (with_reducible refine Kd.C_drew ?_))); (case side2 => exact Nat.le_refl _); rintro e w7 ⟨v225, rfl, ho0, hb⟩; have n0_ := Aside0.mk (Kd.R_lower ho0 (below_size (by repeat (first | (with_reducible first | exact HB.out | apply below_alloc | apply pw_below_drewN | apply below_drew1 | refine below_set ?_ GE223.out) | exact HB.out)))); have n1_ := Aside0.mk (blk_below (g := gb223) (o := .cells #[.slice none 0 0] 34 (0, 0)) (by (with_reducible repeat (first | refine blk_drewN ?_ _ | refine blk_drew ?_ | refine blk_alloc ?_ _)); exact BK223.out) hb); have n2_ := Aside0.mk (below_step (by repeat (first | (with_reducible first | exact HB.out | apply below_alloc | apply pw_below_drewN | apply below_drew1 | refine below_set ?_ GE223.out) | exact HB.out)) hb); clear BK223; clear HB; have HO226 := n0_; have BK223 := n1_; have HB := n2_; clear n0_ n1_ n2_; (try clear hb); (try clear hb2); (try clear hk); (try clear hi); (try clear ho0); obtain ⟨Ao8, co8, eo8⟩ := Kd.R_slice HO226.out; subst eo8) | (go_at_call 96; (with_reducible refine (spec_l06Tree.calls k _ (l0).length l0 _ _ t224 t227 _ ?side1 ?side2 ?side3 ?side4 A3.out).mono ?_); (case side1 => repeat (first | exact (Kd.C_below HR0.out HB.out) | (with_reducible refine Kd.C_alloc ?_ _) | (with_reducible refine Kd.C_drewN ?_ _) | (with_reducible refine Kd.C_drew ?_))); (case side2 => exact Nat.le_refl _); (case side3 => repeat (first | exact (Kd.R_reads' HO226.out).2.2 | (with_reducible refine Kd.C_alloc ?_ _) | (with_reducible refine Kd.C_drewN ?_ _) | (with_reducible refine Kd.C_drew ?_))); (case side4 => exact (Kd.R_reads' HO226.out).2.1); rintro e w9 ⟨v228, rfl, ho0, hb⟩; have n0_ := Aside0.mk (Kd.R_below (by (with_reducible repeat (first | apply Kd.R_alloc | apply Kd.R_drewN | apply Kd.R_drew)); exact HO226.out) hb); have n1_ := Aside0.mk (Kd.R_lower ho0 (below_size (by repeat (first | (with_reducible first | exact HB.out | apply below_alloc | apply pw_below_drewN | apply below_drew1 | refine below_set ?_ GE223.out) | exact HB.out)))); have n2_ := Aside0.mk (blk_below (g := gb223) (o := .cells #[.slice none 0 0] 34 (0, 0)) (by (with_reducible repeat (first | refine blk_drewN ?_ _ | refine blk_drew ?_ | refine blk_alloc ?_ _)); exact BK223.out) hb); have n3_ := Aside0.mk (below_step (by repeat (first | (with_reducible first | exact HB.out | apply below_alloc | apply pw_below_drewN | apply below_drew1 | refine below_set ?_ GE223.out) | exact HB.out)) hb); clear HO226; clear BK223; clear HB; have HO226 := n0_; have HO229 := n1_; have BK223 := n2_; have HB := n3_; clear n0_ n1_ n2_ n3_; (try clear hb); (try clear hb2); (try clear hk); (try clear hi); (try clear ho0)) | ((with_reducible refine gate_dst (N := 3) rfl ?_); refine box_event ?hg (N := 3) ?hd (cs := #[.slice none 0 0]) (t := 34) ?hr ?_; (case hd => rfl); (case hg => rfl); (case hr => first | (go_simp; done) | (go_simp; rfl)); intro gb230 hg w10 hbox hb; have n0_ := Aside0.mk (Kd.R_below (by (with_reducible repeat (first | apply Kd.R_alloc | apply Kd.R_drewN | apply Kd.R_drew)); exact HO226.out) hb); have n1_ := Aside0.mk (Kd.R_below (by (with_reducible repeat (first | apply Kd.R_alloc | apply Kd.R_drewN | apply Kd.R_drew)); exact HO229.out) hb); have n2_ := Aside0.mk (blk_below (g := gb223) (o := .cells #[.slice none 0 0] 34 (0, 0)) (by (with_reducible repeat (first | refine blk_drewN ?_ _ | refine blk_drew ?_ | refine blk_alloc ?_ _)); exact BK223.out) hb); have n3_ := Aside0.mk (below_step (by repeat (first | (with_reducible first | exact HB.out | apply below_alloc | apply pw_below_drewN | apply below_drew1 | refine below_set ?_ GE223.out) | exact HB.out)) hb); have n4_ := Aside0.mk (hbox); have n5_ := Aside0.mk ((by rw [hg]; exact (below_size (by repeat (first | (with_reducible first | exact HB.out | apply below_alloc | apply pw_below_drewN | apply below_drew1 | refine below_set ?_ GE223.out) | exact HB.out))) : w.heap.size ≤ gb230)); have n6_ := Aside0.mk ((by rw [hg]; exact (below_size (by repeat (first | (with_reducible first | exact HB.out | apply below_alloc | apply pw_below_drewN | apply below_drew1 | refine below_set ?_ GE223.out) | exact HB.out))) : w.heap.size ≤ gb230)); have n7_ := Aside0.mk ((by rw [hg]; exact Nat.ne_of_lt (blk_lt (g := gb223) (o := .cells #[.slice none 0 0] 34 (0, 0)) (by (with_reducible repeat (first | refine blk_drewN ?_ _ | refine blk_drew ?_ | refine blk_alloc ?_ _)); exact BK223.out)) : gb223 ≠ gb230)); have n8_ := Aside0.mk ((by rw [hg]; exact Nat.ne_of_gt (blk_lt (g := gb223) (o := .cells #[.slice none 0 0] 34 (0, 0)) (by (with_reducible repeat (first | refine blk_drewN ?_ _ | refine blk_drew ?_ | refine blk_alloc ?_ _)); exact BK223.out)) : gb230 ≠ gb223)); clear HO226; clear HO229; clear BK223; clear HB; have HO226 := n0_; have HO229 := n1_; have BK223 := n2_; have HB := n3_; have BK230 := n4_; have GW230 := n5_; have GE230 := n6_; have NB223_230 := n7_; have NB230_223 := n8_; clear n0_ n1_ n2_ n3_ n4_ n5_ n6_ n7_ n8_; clear hb hbox hg; obtain ⟨Ao11, co11, eo11⟩ := Kd.R_slice HO229.out; subst eo11; have hnb12 := NB230_223.out; have hnc12 := NB223_230.out; have hcz13_0 : w10.cell? ⟨gb230, 0, none⟩ = some (.slice none 0 0) := (blk_cell BK230.out 0).trans rfl; have hfz13_0 := blk_frozen BK230.out 0) | ((with_reducible refine gate_dst (N := 18) rfl ?_); refine Kd.R_make (Kd.int .i64) _ 3 rfl (N := 18) rfl 172 _ _ rfl (t227.length : Int) rfl rfl Try.underlying172 (.int .i64 0) 8 infoS3 rfl (by decide) (by omega) 0 (ok := fun _ => True) (okp := fun _ => True) rfl (fun _ hk => hk) trivial (of_decide_eq_true (by first | (with_reducible assumption) | assumption)) (Nat.le_trans (Nat.mul_le_mul_right _ (of_decide_eq_true (by first | (with_reducible assumption) | assumption) : (t227.length : Int).toNat ≤ 35184372088832)) (by omega)) (Below.refl _ _) (Nat.le_refl _) ?_; intro v232 w14 ho15 hb hg_ hnew_; clear hg_ hnew_; (first | rw [← Ny231.out] at ho15 | (simp only [Int.reduceToNat] at ho15; rw [← Ny231.out] at ho15)); have n0_ := Aside0.mk (Kd.R_below (by (with_reducible repeat (first | apply Kd.R_alloc | apply Kd.R_drewN | apply Kd.R_drew)); exact (Kd.R_mono (Kd.R_far (p := ⟨gb230, 0, none⟩) (Kd.R_types HO226.out BK230.out (by decide)) (fun _ hk => hk.2) (.slice Ao11 t227.length co11)) (fun _ h_ => h_.1))) hb); have n1_ := Aside0.mk (Kd.R_below (by (with_reducible repeat (first | apply Kd.R_alloc | apply Kd.R_drewN | apply Kd.R_drew)); exact (Kd.R_mono (Kd.R_far (p := ⟨gb230, 0, none⟩) (Kd.R_types HO229.out BK230.out (by decide)) (fun _ hk => hk.2) (.slice Ao11 t227.length co11)) (fun _ h_ => h_.1))) hb); have n2_ := Aside0.mk (Kd.R_lower ho15 (below_size (by repeat (first | (with_reducible first | exact HB.out | apply below_alloc | apply pw_below_drewN | apply below_drew1 | refine below_set ?_ GE223.out | refine below_set ?_ GE230.out) | exact HB.out)))); have n3_ := Aside0.mk (blk_below (g := gb223) (o := .cells #[.slice none 0 0] 34 (0, 0)) (by (with_reducible repeat (first | refine blk_drewN ?_ _ | refine blk_drew ?_ | refine blk_alloc ?_ _)); refine blk_far ?_ NB223_230.out _; (with_reducible repeat (first | refine blk_drewN ?_ _ | refine blk_drew ?_ | refine blk_alloc ?_ _)); exact BK223.out) hb); have n4_ := Aside0.mk (blk_below (g := gb230) (o := .cells #[.slice Ao11 t227.length co11] 34 (0, 0)) (by (with_reducible repeat (first | refine blk_drewN ?_ _ | refine blk_drew ?_ | refine blk_alloc ?_ _)); refine blk_put (cs := #[.slice none 0 0]) ?_ 0 _ rfl; (with_reducible repeat (first | refine blk_drewN ?_ _ | refine blk_drew ?_ | refine blk_alloc ?_ _)); exact BK230.out) hb); have n5_ := Aside0.mk (below_step (by repeat (first | (with_reducible first | exact HB.out | apply below_alloc | apply pw_below_drewN | apply below_drew1 | refine below_set ?_ GE223.out | refine below_set ?_ GE230.out) | exact HB.out)) hb); clear HO226; clear HO229; clear BK223; clear BK230; clear HB; have HO226 := n0_; have HO229 := n1_; have HO233 := n2_; have BK223 := n3_; have BK230 := n4_; have HB := n5_; clear n0_ n1_ n2_ n3_ n4_ n5_; clear hb ho15)))
      go_loopg [4, 5] k (fun kq v4 v5 w' => ∃ (x4_1 : List Int) (x5_1 : Int), v5 = .int .i64 x5_1 ∧ Aside0 (spec_l06Least.l0 kq x4_1 x5_1 t227 = some r) ∧ Aside0 (kq ≤ k) ∧ Aside0 (Kd.R (Kd.int .i64) 3 w' w.heap.size (fun _ => True) v4 x4_1) ∧ Aside0 (Kd.R k89 89 w' w.heap.size (fun _ => True) (.slice Ao11 t227.length co11) t227) ∧ Aside0 (w'.heap[gb223]? = some (.cells #[(.slice none 0 0)] 34 (0, 0))) ∧ Aside0 (w'.heap[gb230]? = some (.cells #[(.slice Ao11 t227.length co11)] 34 (0, 0))) ∧ Aside0 (Below w.heap.size w w'))
      case atStart => exact ⟨(y231), (0), (by first | rfl | (simp; done) | (simp [*]; done) | (simp [isE_]; done)), H', ⟨Nat.le_refl _⟩, ⟨by (with_reducible repeat (first | apply Kd.R_alloc | apply Kd.R_drewN | apply Kd.R_drew)); exact HO233.out⟩, ⟨by (with_reducible repeat (first | apply Kd.R_alloc | apply Kd.R_drewN | apply Kd.R_drew)); exact HO229.out⟩, ⟨by (with_reducible repeat (first | refine blk_drewN ?_ _ | refine blk_drew ?_ | refine blk_alloc ?_ _)); exact BK223.out⟩, ⟨by (with_reducible repeat (first | refine blk_drewN ?_ _ | refine blk_drew ?_ | refine blk_alloc ?_ _)); exact BK230.out⟩, ⟨by repeat (first | (with_reducible first | exact HB.out | apply below_alloc | apply pw_below_drewN | apply below_drew1 | refine below_set ?_ GE223.out | refine below_set ?_ GE230.out) | exact HB.out)⟩⟩
      case round =>
        clear H'
        try clear c1
        try clear p2
        try clear c4
        try clear c4b0
        try clear c4b1
        try clear c5
        try clear c5b0
        try clear c5b1
        try clear c7
        try clear c12
        try clear hcz13_0
        try clear hfz13_0
        obtain ⟨x4_1, x5_1, rfl, HA, HK1, HO_4, HO_231000, BK223, BK230, HB⟩ := hrel
        cases gk with
        | zero => exact absurd HA.out (by simp [spec_l06Least.l0])
        | succ k1 =>
          have H := HA.out
          clear HA
          simp only [spec_l06Least.l0] at H
          by_cases c16 : x5_1 ≤ (t227.length : Int)
          · rw [if_pos c16] at H
            have c16b0 : decide (x5_1 ≤ (t227.length : Int)) = true := decide_eq_true c16
            clear c16
            by_cases c17 : 0 ≤ (x4_1.length : Int)
            · rw [if_pos c17] at H
              have c17b0 := eq_true c17
              have c17b1 : decide (0 ≤ (x4_1.length : Int)) = true := decide_eq_true c17
              clear c17
              by_cases c18 : ((x4_1.length : Int) : Int).toNat ≤ 35184372088832
              · rw [if_pos c18] at H
                have c18b0 := eq_true c18
                have c18b1 : decide (((x4_1.length : Int) : Int).toNat ≤ 35184372088832) = true := decide_eq_true c18
                clear c18
                obtain ⟨y234, hy234⟩ : ∃ y_ : List Int, y_ = (List.replicate ((x4_1.length : Int) : Int).toNat 0) := ⟨_, rfl⟩
                replace H : (spec_l06Least.l1 k1 x4_1 x5_1 y234 0 t227) = some r := by first | (rw [hy234]; with_reducible exact H) | (have H2_ := (Option.bind_some _ _).symm.trans H; rw [hy234]; with_reducible exact H2_) | (have H2_ := (Option.bind_some _ _).symm.trans H; with_reducible exact H2_) | with_reducible exact H | (rw [hy234]; exact H) | exact H
                have Ny234 := Aside0.mk hy234
                clear hy234
                have H' := Aside0.mk H
                clear H
                have hnb19 := NB230_223.out
                have hnc19 := NB223_230.out
                have hcz20_0 : wr.cell? ⟨gb230, 0, none⟩ = some (.slice Ao11 t227.length co11) := (blk_cell BK230.out 0).trans rfl
                have hfz20_0 := blk_frozen BK230.out 0
                obtain ⟨Ao21, co21, eo21⟩ := Kd.R_slice HO_4.out
                subst eo21
                go_wp2_with (first | ((with_reducible refine gate_dst (N := 28) rfl ?_); refine Kd.R_make (Kd.int .i64) _ 3 rfl (N := 28) rfl 172 _ _ rfl (x4_1.length : Int) rfl rfl Try.underlying172 (.int .i64 0) 8 infoS3 rfl (by decide) (by omega) 0 (ok := fun _ => True) (okp := fun _ => True) rfl (fun _ hk => hk) trivial (of_decide_eq_true (by first | (with_reducible assumption) | assumption)) (Nat.le_trans (Nat.mul_le_mul_right _ (of_decide_eq_true (by first | (with_reducible assumption) | assumption) : (x4_1.length : Int).toNat ≤ 35184372088832)) (by omega)) (Below.refl _ _) (Nat.le_refl _) ?_; intro v235 w22 ho23 hb hg_ hnew_; clear hg_ hnew_; (first | rw [← Ny234.out] at ho23 | (simp only [Int.reduceToNat] at ho23; rw [← Ny234.out] at ho23)); have n0_ := Aside0.mk (Kd.R_elder' (by (with_reducible repeat (first | apply Kd.R_alloc | apply Kd.R_drewN | apply Kd.R_drew)); exact HO_4.out) (Kd.R_base ho23) hb); have n1_ := Aside0.mk (Kd.R_below (by (with_reducible repeat (first | apply Kd.R_alloc | apply Kd.R_drewN | apply Kd.R_drew)); exact HO_231000.out) hb); have n2_ := Aside0.mk (Kd.R_lower (Kd.R_new' ho23 (Kd.R_lt (by (with_reducible repeat (first | apply Kd.R_alloc | apply Kd.R_drewN | apply Kd.R_drew)); exact HO_4.out))) (below_size (by repeat (first | (with_reducible first | exact HB.out | apply below_alloc | apply pw_below_drewN | apply below_drew1 | refine below_set ?_ GE223.out | refine below_set ?_ GE230.out) | exact HB.out)))); have n3_ := Aside0.mk (blk_below (g := gb223) (o := .cells #[.slice none 0 0] 34 (0, 0)) (by (with_reducible repeat (first | refine blk_drewN ?_ _ | refine blk_drew ?_ | refine blk_alloc ?_ _)); exact BK223.out) hb); have n4_ := Aside0.mk (blk_below (g := gb230) (o := .cells #[.slice Ao11 t227.length co11] 34 (0, 0)) (by (with_reducible repeat (first | refine blk_drewN ?_ _ | refine blk_drew ?_ | refine blk_alloc ?_ _)); exact BK230.out) hb); have n5_ := Aside0.mk (below_step (by repeat (first | (with_reducible first | exact HB.out | apply below_alloc | apply pw_below_drewN | apply below_drew1 | refine below_set ?_ GE223.out | refine below_set ?_ GE230.out) | exact HB.out)) hb); clear HO_4; clear HO_231000; clear BK223; clear BK230; clear HB; have HO_4 := n0_; have HO_231000 := n1_; have HO236 := n2_; have BK223 := n3_; have BK230 := n4_; have HB := n5_; clear n0_ n1_ n2_ n3_ n4_ n5_; clear hb ho23))
                repeat (go_quiet (first | ((with_reducible refine gate_dst (N := 28) rfl ?_); refine Kd.R_make (Kd.int .i64) _ 3 rfl (N := 28) rfl 172 _ _ rfl (x4_1.length : Int) rfl rfl Try.underlying172 (.int .i64 0) 8 infoS3 rfl (by decide) (by omega) 0 (ok := fun _ => True) (okp := fun _ => True) rfl (fun _ hk => hk) trivial (of_decide_eq_true (by first | (with_reducible assumption) | assumption)) (Nat.le_trans (Nat.mul_le_mul_right _ (of_decide_eq_true (by first | (with_reducible assumption) | assumption) : (x4_1.length : Int).toNat ≤ 35184372088832)) (by omega)) (Below.refl _ _) (Nat.le_refl _) ?_; intro v235 w22 ho23 hb hg_ hnew_; clear hg_ hnew_; (first | rw [← Ny234.out] at ho23 | (simp only [Int.reduceToNat] at ho23; rw [← Ny234.out] at ho23)); have n0_ := Aside0.mk (Kd.R_elder' (by (with_reducible repeat (first | apply Kd.R_alloc | apply Kd.R_drewN | apply Kd.R_drew)); exact HO_4.out) (Kd.R_base ho23) hb); have n1_ := Aside0.mk (Kd.R_below (by (with_reducible repeat (first | apply Kd.R_alloc | apply Kd.R_drewN | apply Kd.R_drew)); exact HO_231000.out) hb); have n2_ := Aside0.mk (Kd.R_lower (Kd.R_new' ho23 (Kd.R_lt (by (with_reducible repeat (first | apply Kd.R_alloc | apply Kd.R_drewN | apply Kd.R_drew)); exact HO_4.out))) (below_size (by repeat (first | (with_reducible first | exact HB.out | apply below_alloc | apply pw_below_drewN | apply below_drew1 | refine below_set ?_ GE223.out | refine below_set ?_ GE230.out) | exact HB.out)))); have n3_ := Aside0.mk (blk_below (g := gb223) (o := .cells #[.slice none 0 0] 34 (0, 0)) (by (with_reducible repeat (first | refine blk_drewN ?_ _ | refine blk_drew ?_ | refine blk_alloc ?_ _)); exact BK223.out) hb); have n4_ := Aside0.mk (blk_below (g := gb230) (o := .cells #[.slice Ao11 t227.length co11] 34 (0, 0)) (by (with_reducible repeat (first | refine blk_drewN ?_ _ | refine blk_drew ?_ | refine blk_alloc ?_ _)); exact BK230.out) hb); have n5_ := Aside0.mk (below_step (by repeat (first | (with_reducible first | exact HB.out | apply below_alloc | apply pw_below_drewN | apply below_drew1 | refine below_set ?_ GE223.out | refine below_set ?_ GE230.out) | exact HB.out)) hb); clear HO_4; clear HO_231000; clear BK223; clear BK230; clear HB; have HO_4 := n0_; have HO_231000 := n1_; have HO236 := n2_; have BK223 := n3_; have BK230 := n4_; have HB := n5_; clear n0_ n1_ n2_ n3_ n4_ n5_; clear hb ho23)); try go_wp2_with (first | ((with_reducible refine gate_dst (N := 28) rfl ?_); refine Kd.R_make (Kd.int .i64) _ 3 rfl (N := 28) rfl 172 _ _ rfl (x4_1.length : Int) rfl rfl Try.underlying172 (.int .i64 0) 8 infoS3 rfl (by decide) (by omega) 0 (ok := fun _ => True) (okp := fun _ => True) rfl (fun _ hk => hk) trivial (of_decide_eq_true (by first | (with_reducible assumption) | assumption)) (Nat.le_trans (Nat.mul_le_mul_right _ (of_decide_eq_true (by first | (with_reducible assumption) | assumption) : (x4_1.length : Int).toNat ≤ 35184372088832)) (by omega)) (Below.refl _ _) (Nat.le_refl _) ?_; intro v235 w22 ho23 hb hg_ hnew_; clear hg_ hnew_; (first | rw [← Ny234.out] at ho23 | (simp only [Int.reduceToNat] at ho23; rw [← Ny234.out] at ho23)); have n0_ := Aside0.mk (Kd.R_elder' (by (with_reducible repeat (first | apply Kd.R_alloc | apply Kd.R_drewN | apply Kd.R_drew)); exact HO_4.out) (Kd.R_base ho23) hb); have n1_ := Aside0.mk (Kd.R_below (by (with_reducible repeat (first | apply Kd.R_alloc | apply Kd.R_drewN | apply Kd.R_drew)); exact HO_231000.out) hb); have n2_ := Aside0.mk (Kd.R_lower (Kd.R_new' ho23 (Kd.R_lt (by (with_reducible repeat (first | apply Kd.R_alloc | apply Kd.R_drewN | apply Kd.R_drew)); exact HO_4.out))) (below_size (by repeat (first | (with_reducible first | exact HB.out | apply below_alloc | apply pw_below_drewN | apply below_drew1 | refine below_set ?_ GE223.out | refine below_set ?_ GE230.out) | exact HB.out)))); have n3_ := Aside0.mk (blk_below (g := gb223) (o := .cells #[.slice none 0 0] 34 (0, 0)) (by (with_reducible repeat (first | refine blk_drewN ?_ _ | refine blk_drew ?_ | refine blk_alloc ?_ _)); exact BK223.out) hb); have n4_ := Aside0.mk (blk_below (g := gb230) (o := .cells #[.slice Ao11 t227.length co11] 34 (0, 0)) (by (with_reducible repeat (first | refine blk_drewN ?_ _ | refine blk_drew ?_ | refine blk_alloc ?_ _)); exact BK230.out) hb); have n5_ := Aside0.mk (below_step (by repeat (first | (with_reducible first | exact HB.out | apply below_alloc | apply pw_below_drewN | apply below_drew1 | refine below_set ?_ GE223.out | refine below_set ?_ GE230.out) | exact HB.out)) hb); clear HO_4; clear HO_231000; clear BK223; clear BK230; clear HB; have HO_4 := n0_; have HO_231000 := n1_; have HO236 := n2_; have BK223 := n3_; have BK230 := n4_; have HB := n5_; clear n0_ n1_ n2_ n3_ n4_ n5_; clear hb ho23)))
                go_loopg [7] k1 (fun kq v7 w' => ∃ (x6_2 : List Int) (x7_2 : Int), v7 = .int .i64 x7_2 ∧ Aside0 (spec_l06Least.l1 kq x4_1 x5_1 x6_2 x7_2 t227 = some r) ∧ Aside0 (kq ≤ k1) ∧ Aside0 (Kd.R (Kd.int .i64) 3 w' w.heap.size (fun k_ => some k_ ≠ (v235 : Value).ownBlock) (.slice Ao21 x4_1.length co21) x4_1) ∧ Aside0 (Kd.R (Kd.int .i64) 3 w' w.heap.size (fun k_ => some k_ ≠ ((.slice Ao21 x4_1.length co21) : Value).ownBlock) v235 x6_2) ∧ Aside0 (Kd.R k89 89 w' w.heap.size (fun _ => True) (.slice Ao11 t227.length co11) t227) ∧ Aside0 (w'.heap[gb223]? = some (.cells #[(.slice none 0 0)] 34 (0, 0))) ∧ Aside0 (w'.heap[gb230]? = some (.cells #[(.slice Ao11 t227.length co11)] 34 (0, 0))) ∧ Aside0 (Below w.heap.size w w'))
                case atStart => exact ⟨(y234), (0), (by first | rfl | (simp; done) | (simp [*]; done) | (simp [isE_]; done)), H', ⟨Nat.le_refl _⟩, ⟨by (with_reducible repeat (first | apply Kd.R_alloc | apply Kd.R_drewN | apply Kd.R_drew)); exact Kd.R_mono HO_4.out (fun _ hk => hk.2)⟩, ⟨by (with_reducible repeat (first | apply Kd.R_alloc | apply Kd.R_drewN | apply Kd.R_drew)); exact Kd.R_mono HO236.out (fun _ hk => hk.2)⟩, ⟨by (with_reducible repeat (first | apply Kd.R_alloc | apply Kd.R_drewN | apply Kd.R_drew)); exact HO_231000.out⟩, ⟨by (with_reducible repeat (first | refine blk_drewN ?_ _ | refine blk_drew ?_ | refine blk_alloc ?_ _)); exact BK223.out⟩, ⟨by (with_reducible repeat (first | refine blk_drewN ?_ _ | refine blk_drew ?_ | refine blk_alloc ?_ _)); exact BK230.out⟩, ⟨by repeat (first | (with_reducible first | exact HB.out | apply below_alloc | apply pw_below_drewN | apply below_drew1 | refine below_set ?_ GE223.out | refine below_set ?_ GE230.out) | exact HB.out)⟩⟩
                case round =>
                  clear H'
                  try clear c1
                  try clear p2
                  try clear c4
                  try clear c4b0
                  try clear c4b1
                  try clear c5
                  try clear c5b0
                  try clear c5b1
                  try clear c7
                  try clear c12
                  try clear c16
                  try clear c16b0
                  try clear c17
                  try clear c17b0
                  try clear c17b1
                  try clear c18
                  try clear c18b0
                  try clear c18b1
                  try clear c19
                  try clear hcz13_0
                  try clear hcz20_0
                  try clear hfz13_0
                  try clear hfz20_0
                  try clear p2
                  obtain ⟨x6_2, x7_2, rfl, HA, HK2, HO_4, HO_6, HO_231000, BK223, BK230, HB⟩ := hrel
                  cases gk with
                  | zero => exact absurd HA.out (by simp [spec_l06Least.l1])
                  | succ k2 =>
                    have H := HA.out
                    clear HA
                    simp only [spec_l06Least.l1] at H
                    by_cases c24 : x7_2 < (x4_1.length : Int)
                    · rw [if_pos c24] at H
                      have c24b0 : decide (x7_2 < (x4_1.length : Int)) = true := decide_eq_true c24
                      clear c24
                      by_cases c25 : 0 ≤ x7_2
                      · rw [if_pos c25] at H
                        have c25b0 : decide (0 ≤ x7_2) = true := decide_eq_true c25
                        clear c25
                        by_cases c26 : x7_2 < (x6_2.length : Int)
                        · rw [if_pos c26] at H
                          have c26b0 : decide (x7_2 < (x6_2.length : Int)) = true := decide_eq_true c26
                          clear c26
                          obtain ⟨y237, hy237⟩ : ∃ y_ : List Int, y_ = (x6_2.set (x7_2 : Int).toNat x7_2) := ⟨_, rfl⟩
                          replace H : (spec_l06Least.l2 k2 x4_1 x5_1 y237 x7_2 0 t227) = some r := by first | (rw [hy237]; with_reducible exact H) | (have H2_ := (Option.bind_some _ _).symm.trans H; rw [hy237]; with_reducible exact H2_) | (have H2_ := (Option.bind_some _ _).symm.trans H; with_reducible exact H2_) | with_reducible exact H | (rw [hy237]; exact H) | exact H
                          have Ny237 := Aside0.mk hy237
                          clear hy237
                          have H' := Aside0.mk H
                          clear H
                          have p27 : 0 ≤ (x7_2 : Int) := of_decide_eq_true (by first | (with_reducible assumption) | assumption)
                          have q27 : (x7_2 : Int) < ((x6_2.length : Int) : Int) := of_decide_eq_true (by first | (with_reducible assumption) | assumption)
                          obtain ⟨go27, co27, eo27, gb27, gl27, cl27, HG27⟩ := Kd.R_form HO_6.out (by omega)
                          (first | cases eo27 | (injection eo27 with ea_ en_ ec_; (first | subst ea_ | (injection ea_ with ea_; subst ea_)); subst ec_; clear en_))
                          have GB27 := Aside0.mk gb27
                          have GG27 := Aside0.mk HG27
                          clear gb27 gl27 HG27
                          obtain ⟨hx27_0, hf27_0⟩ := Kd.R_celln 0 HO_6.out (x7_2 : Int) p27 q27
                          replace p27 := eq_true p27
                          replace q27 := eq_true q27
                          have HP28 := Kd.R_putg HO_6.out (x7_2 : Int) x7_2
                          go_wp2_with (first | ((with_reducible refine gate_store (t := 3) (p := 38) rfl ?_); (try (rw [drewN_self wr]; generalize hq_ : World.drewN wr _ = wr; have n0_ := Aside0.mk (Kd.R_at hq_ HO_4.out); have n1_ := Aside0.mk (Kd.R_at hq_ HO_6.out); have n2_ := Aside0.mk (Kd.R_at hq_ HO_231000.out); have n3_ := Aside0.mk (blk_at hq_ BK223.out); have n4_ := Aside0.mk (blk_at hq_ BK230.out); have n5_ := Aside0.mk (below_at hq_ HB.out); clear hq_ HO_4 HO_6 HO_231000 BK223 BK230 HB; have HO_4 := n0_; have HO_6 := n1_; have HO_231000 := n2_; have BK223 := n3_; have BK230 := n4_; have HB := n5_; clear n0_ n1_ n2_ n3_ n4_ n5_; (try (have HP28 := Kd.R_putg HO_6.out (x7_2 : Int) x7_2)))); refine store_event (t := 3) (p := 38) (v := ?vo_w29) (w1 := (wr.setCell ⟨go27, (x7_2 : Int).toNat, none⟩ (.int .i64 x7_2))) ?hg ?ho ?hn ?hr ?_; (case ho => rfl); (case hg => rfl); (case hn => rfl); (case hr => first | (go_simp; done) | (go_simp; rfl)); intro w29 hw; have hg : wr.grownBy w29 (some go27) := (by rw [hw]; exact HP28.2); have hp_ : Kd.R (Kd.int .i64) 3 w29 w.heap.size (fun k_ => some k_ ≠ (.slice Ao21 x4_1.length co21 : Value).ownBlock) (.slice (some ⟨go27, 0, none⟩) x6_2.length co27) y237 := (by rw [hw, Ny237.out]; exact HP28.1); clear HP28; have n0_ := Aside0.mk (Kd.R_after (v := (.slice (some ⟨go27, 0, none⟩) x6_2.length co27)) (v1 := (.slice (some ⟨go27, 0, none⟩) x6_2.length co27)) (ok := (fun _ => True)) (by (with_reducible repeat (first | apply Kd.R_alloc | apply Kd.R_drewN | apply Kd.R_drew)); exact Kd.R_mono HO_4.out (fun _ hk => ⟨trivial, hk⟩)) hg (.inl rfl)); have n1_ := Aside0.mk (hp_); have n2_ := Aside0.mk (Kd.R_over' (v := (.slice (some ⟨go27, 0, none⟩) x6_2.length co27)) (by (with_reducible repeat (first | apply Kd.R_alloc | apply Kd.R_drewN | apply Kd.R_drew)); exact HO_231000.out) (Kd.R_typed HO_6.out) (by decide) hg); have n3_ := Aside0.mk (blk_grown (g := gb223) (o := .cells #[.slice none 0 0] 34 (0, 0)) (by (with_reducible repeat (first | refine blk_drewN ?_ _ | refine blk_drew ?_ | refine blk_alloc ?_ _)); exact BK223.out) hg (Kd.R_ne HO_6.out BK223.out (by decide))); have n4_ := Aside0.mk (blk_grown (g := gb230) (o := .cells #[.slice Ao11 t227.length co11] 34 (0, 0)) (by (with_reducible repeat (first | refine blk_drewN ?_ _ | refine blk_drew ?_ | refine blk_alloc ?_ _)); exact BK230.out) hg (Kd.R_ne HO_6.out BK230.out (by decide))); have n5_ := Aside0.mk ((by rw [hw]; exact below_set (HB.out) GB27.out : Below w.heap.size w w29)); clear HO_4; clear HO_6; clear HO_231000; clear BK223; clear BK230; clear HB; have HO_4 := n0_; have HO_6 := n1_; have HO_231000 := n2_; have BK223 := n3_; have BK230 := n4_; have HB := n5_; clear n0_ n1_ n2_ n3_ n4_ n5_; clear hg hw hp_))
                          repeat (go_quiet (first | ((with_reducible refine gate_store (t := 3) (p := 38) rfl ?_); (try (rw [drewN_self wr]; generalize hq_ : World.drewN wr _ = wr; have n0_ := Aside0.mk (Kd.R_at hq_ HO_4.out); have n1_ := Aside0.mk (Kd.R_at hq_ HO_6.out); have n2_ := Aside0.mk (Kd.R_at hq_ HO_231000.out); have n3_ := Aside0.mk (blk_at hq_ BK223.out); have n4_ := Aside0.mk (blk_at hq_ BK230.out); have n5_ := Aside0.mk (below_at hq_ HB.out); clear hq_ HO_4 HO_6 HO_231000 BK223 BK230 HB; have HO_4 := n0_; have HO_6 := n1_; have HO_231000 := n2_; have BK223 := n3_; have BK230 := n4_; have HB := n5_; clear n0_ n1_ n2_ n3_ n4_ n5_; (try (have HP28 := Kd.R_putg HO_6.out (x7_2 : Int) x7_2)))); refine store_event (t := 3) (p := 38) (v := ?vo_w29) (w1 := (wr.setCell ⟨go27, (x7_2 : Int).toNat, none⟩ (.int .i64 x7_2))) ?hg ?ho ?hn ?hr ?_; (case ho => rfl); (case hg => rfl); (case hn => rfl); (case hr => first | (go_simp; done) | (go_simp; rfl)); intro w29 hw; have hg : wr.grownBy w29 (some go27) := (by rw [hw]; exact HP28.2); have hp_ : Kd.R (Kd.int .i64) 3 w29 w.heap.size (fun k_ => some k_ ≠ (.slice Ao21 x4_1.length co21 : Value).ownBlock) (.slice (some ⟨go27, 0, none⟩) x6_2.length co27) y237 := (by rw [hw, Ny237.out]; exact HP28.1); clear HP28; have n0_ := Aside0.mk (Kd.R_after (v := (.slice (some ⟨go27, 0, none⟩) x6_2.length co27)) (v1 := (.slice (some ⟨go27, 0, none⟩) x6_2.length co27)) (ok := (fun _ => True)) (by (with_reducible repeat (first | apply Kd.R_alloc | apply Kd.R_drewN | apply Kd.R_drew)); exact Kd.R_mono HO_4.out (fun _ hk => ⟨trivial, hk⟩)) hg (.inl rfl)); have n1_ := Aside0.mk (hp_); have n2_ := Aside0.mk (Kd.R_over' (v := (.slice (some ⟨go27, 0, none⟩) x6_2.length co27)) (by (with_reducible repeat (first | apply Kd.R_alloc | apply Kd.R_drewN | apply Kd.R_drew)); exact HO_231000.out) (Kd.R_typed HO_6.out) (by decide) hg); have n3_ := Aside0.mk (blk_grown (g := gb223) (o := .cells #[.slice none 0 0] 34 (0, 0)) (by (with_reducible repeat (first | refine blk_drewN ?_ _ | refine blk_drew ?_ | refine blk_alloc ?_ _)); exact BK223.out) hg (Kd.R_ne HO_6.out BK223.out (by decide))); have n4_ := Aside0.mk (blk_grown (g := gb230) (o := .cells #[.slice Ao11 t227.length co11] 34 (0, 0)) (by (with_reducible repeat (first | refine blk_drewN ?_ _ | refine blk_drew ?_ | refine blk_alloc ?_ _)); exact BK230.out) hg (Kd.R_ne HO_6.out BK230.out (by decide))); have n5_ := Aside0.mk ((by rw [hw]; exact below_set (HB.out) GB27.out : Below w.heap.size w w29)); clear HO_4; clear HO_6; clear HO_231000; clear BK223; clear BK230; clear HB; have HO_4 := n0_; have HO_6 := n1_; have HO_231000 := n2_; have BK223 := n3_; have BK230 := n4_; have HB := n5_; clear n0_ n1_ n2_ n3_ n4_ n5_; clear hg hw hp_)); try go_wp2_with (first | ((with_reducible refine gate_store (t := 3) (p := 38) rfl ?_); (try (rw [drewN_self wr]; generalize hq_ : World.drewN wr _ = wr; have n0_ := Aside0.mk (Kd.R_at hq_ HO_4.out); have n1_ := Aside0.mk (Kd.R_at hq_ HO_6.out); have n2_ := Aside0.mk (Kd.R_at hq_ HO_231000.out); have n3_ := Aside0.mk (blk_at hq_ BK223.out); have n4_ := Aside0.mk (blk_at hq_ BK230.out); have n5_ := Aside0.mk (below_at hq_ HB.out); clear hq_ HO_4 HO_6 HO_231000 BK223 BK230 HB; have HO_4 := n0_; have HO_6 := n1_; have HO_231000 := n2_; have BK223 := n3_; have BK230 := n4_; have HB := n5_; clear n0_ n1_ n2_ n3_ n4_ n5_; (try (have HP28 := Kd.R_putg HO_6.out (x7_2 : Int) x7_2)))); refine store_event (t := 3) (p := 38) (v := ?vo_w29) (w1 := (wr.setCell ⟨go27, (x7_2 : Int).toNat, none⟩ (.int .i64 x7_2))) ?hg ?ho ?hn ?hr ?_; (case ho => rfl); (case hg => rfl); (case hn => rfl); (case hr => first | (go_simp; done) | (go_simp; rfl)); intro w29 hw; have hg : wr.grownBy w29 (some go27) := (by rw [hw]; exact HP28.2); have hp_ : Kd.R (Kd.int .i64) 3 w29 w.heap.size (fun k_ => some k_ ≠ (.slice Ao21 x4_1.length co21 : Value).ownBlock) (.slice (some ⟨go27, 0, none⟩) x6_2.length co27) y237 := (by rw [hw, Ny237.out]; exact HP28.1); clear HP28; have n0_ := Aside0.mk (Kd.R_after (v := (.slice (some ⟨go27, 0, none⟩) x6_2.length co27)) (v1 := (.slice (some ⟨go27, 0, none⟩) x6_2.length co27)) (ok := (fun _ => True)) (by (with_reducible repeat (first | apply Kd.R_alloc | apply Kd.R_drewN | apply Kd.R_drew)); exact Kd.R_mono HO_4.out (fun _ hk => ⟨trivial, hk⟩)) hg (.inl rfl)); have n1_ := Aside0.mk (hp_); have n2_ := Aside0.mk (Kd.R_over' (v := (.slice (some ⟨go27, 0, none⟩) x6_2.length co27)) (by (with_reducible repeat (first | apply Kd.R_alloc | apply Kd.R_drewN | apply Kd.R_drew)); exact HO_231000.out) (Kd.R_typed HO_6.out) (by decide) hg); have n3_ := Aside0.mk (blk_grown (g := gb223) (o := .cells #[.slice none 0 0] 34 (0, 0)) (by (with_reducible repeat (first | refine blk_drewN ?_ _ | refine blk_drew ?_ | refine blk_alloc ?_ _)); exact BK223.out) hg (Kd.R_ne HO_6.out BK223.out (by decide))); have n4_ := Aside0.mk (blk_grown (g := gb230) (o := .cells #[.slice Ao11 t227.length co11] 34 (0, 0)) (by (with_reducible repeat (first | refine blk_drewN ?_ _ | refine blk_drew ?_ | refine blk_alloc ?_ _)); exact BK230.out) hg (Kd.R_ne HO_6.out BK230.out (by decide))); have n5_ := Aside0.mk ((by rw [hw]; exact below_set (HB.out) GB27.out : Below w.heap.size w w29)); clear HO_4; clear HO_6; clear HO_231000; clear BK223; clear BK230; clear HB; have HO_4 := n0_; have HO_6 := n1_; have HO_231000 := n2_; have BK223 := n3_; have BK230 := n4_; have HB := n5_; clear n0_ n1_ n2_ n3_ n4_ n5_; clear hg hw hp_)))
                          go_loopg [8] k2 (fun kq v8 w' => ∃ (x6_3 : List Int) (x8_3 : Int), v8 = .int .i64 x8_3 ∧ Aside0 (spec_l06Least.l2 kq x4_1 x5_1 x6_3 x7_2 x8_3 t227 = some r) ∧ Aside0 (kq ≤ k2) ∧ Aside0 (Kd.R (Kd.int .i64) 3 w' w.heap.size (fun k_ => some k_ ≠ ((.slice (some ⟨go27, 0, none⟩) x6_2.length co27) : Value).ownBlock) (.slice Ao21 x4_1.length co21) x4_1) ∧ Aside0 (Kd.R (Kd.int .i64) 3 w' w.heap.size (fun k_ => some k_ ≠ ((.slice Ao21 x4_1.length co21) : Value).ownBlock) (.slice (some ⟨go27, 0, none⟩) x6_2.length co27) x6_3) ∧ Aside0 (Kd.R k89 89 w' w.heap.size (fun _ => True) (.slice Ao11 t227.length co11) t227) ∧ Aside0 (w'.heap[gb223]? = some (.cells #[(.slice none 0 0)] 34 (0, 0))) ∧ Aside0 (w'.heap[gb230]? = some (.cells #[(.slice Ao11 t227.length co11)] 34 (0, 0))) ∧ Aside0 (Below w.heap.size w w'))
                          case atStart => exact ⟨(y237), (0), (by first | rfl | (simp; done) | (simp [*]; done) | (simp [isE_]; done)), H', ⟨Nat.le_refl _⟩, ⟨by (with_reducible repeat (first | apply Kd.R_alloc | apply Kd.R_drewN | apply Kd.R_drew)); exact Kd.R_mono HO_4.out (fun _ hk => hk.2)⟩, ⟨by (with_reducible repeat (first | apply Kd.R_alloc | apply Kd.R_drewN | apply Kd.R_drew)); exact HO_6.out⟩, ⟨by (with_reducible repeat (first | apply Kd.R_alloc | apply Kd.R_drewN | apply Kd.R_drew)); exact HO_231000.out⟩, ⟨by (with_reducible repeat (first | refine blk_drewN ?_ _ | refine blk_drew ?_ | refine blk_alloc ?_ _)); exact BK223.out⟩, ⟨by (with_reducible repeat (first | refine blk_drewN ?_ _ | refine blk_drew ?_ | refine blk_alloc ?_ _)); exact BK230.out⟩, ⟨by repeat (first | (with_reducible first | exact HB.out | apply below_alloc | apply pw_below_drewN | apply below_drew1 | refine below_set ?_ GE223.out | refine below_set ?_ GE230.out) | exact HB.out)⟩⟩
                          case round =>
                            clear H'
                            try clear c1
                            try clear c2
                            try clear p2
                            try clear q2
                            try clear hx2
                            try clear hf2
                            try clear c4
                            try clear c4b0
                            try clear c4b1
                            try clear c5
                            try clear c5b0
                            try clear c5b1
                            try clear c7
                            try clear c12
                            try clear c16
                            try clear c16b0
                            try clear c17
                            try clear c17b0
                            try clear c17b1
                            try clear c18
                            try clear c18b0
                            try clear c18b1
                            try clear c19
                            try clear c24
                            try clear c24b0
                            try clear c25
                            try clear c25b0
                            try clear c26
                            try clear c26b0
                            try clear p27
                            try clear q27
                            try clear hx27
                            try clear hf27
                            try clear hcz13_0
                            try clear hcz20_0
                            try clear hfz13_0
                            try clear hfz20_0
                            try clear hx27_0
                            try clear p2
                            try clear p27
                            try clear q27
                            obtain ⟨x6_3, x8_3, rfl, HA, HK3, HO_4, HO_6, HO_231000, BK223, BK230, HB⟩ := hrel
                            have hl6_3 := (Kd.R_reads' HO_6.out).1
                            rw [hl6_3] at HO_6
                            (try simp only [hl6_3])
                            (try simp only [hl6_3] at BK223)
                            (try simp only [hl6_3] at BK230)
                            (try simp only [hl6_3] at HO_4)
                            (try simp only [hl6_3] at HO_231000)
                            cases gk with
                            | zero => exact absurd HA.out (by simp [spec_l06Least.l2])
                            | succ k3 =>
                              have H := HA.out
                              clear HA
                              simp only [spec_l06Least.l2] at H
                              by_cases c30 : x8_3 < x7_2
                              · rw [if_pos c30] at H
                                have c30b0 : decide (x8_3 < x7_2) = true := decide_eq_true c30
                                clear c30
                                by_cases c31 : 0 ≤ x8_3
                                · rw [if_pos c31] at H
                                  have c31b0 : decide (0 ≤ x8_3) = true := decide_eq_true c31
                                  clear c31
                                  by_cases c32 : x8_3 < (x4_1.length : Int)
                                  · rw [if_pos c32] at H
                                    have c32b0 : decide (x8_3 < (x4_1.length : Int)) = true := decide_eq_true c32
                                    clear c32
                                    by_cases c33 : 0 ≤ x7_2
                                    · rw [if_pos c33] at H
                                      have c33b0 : decide (0 ≤ x7_2) = true := decide_eq_true c33
                                      clear c33
                                      by_cases c34 : x7_2 < (x4_1.length : Int)
                                      · rw [if_pos c34] at H
                                        have c34b0 : decide (x7_2 < (x4_1.length : Int)) = true := decide_eq_true c34
                                        clear c34
                                        by_cases c35 : (rd x4_1 x8_3) = (rd x4_1 x7_2)
                                        · rw [if_pos c35] at H
                                          have c35b0 : ((rd x4_1 x8_3) == (rd x4_1 x7_2)) = true := beq_iff_eq.mpr c35
                                          have c35b1 : ((rd x4_1 x8_3) != (rd x4_1 x7_2)) = false := bne_eq_false_iff_eq.mpr c35
                                          clear c35
                                          replace H := Option.bind_eq_some_iff.mp H
                                          obtain ⟨t241, A360, H⟩ := H
                                          replace H : (if t241 = true then (if x8_3 < (x6_3.length : Int) then (if x7_2 < (x6_3.length : Int) then (spec_l06Least.l1 k3 x4_1 x5_1 (x6_3.set (x7_2 : Int).toNat (rd x6_3 x8_3)) (wrap64 (x7_2 + 1)) t227) else (none)) else (none)) else (spec_l06Least.l2 k3 x4_1 x5_1 x6_3 x7_2 (wrap64 (x8_3 + 1)) t227)) = some r := H
                                          have A36 := Aside0.mk A360
                                          clear A360
                                          by_cases c37 : t241 = true
                                          · subst c37
                                            have H1 : (if x8_3 < (x6_3.length : Int) then (if x7_2 < (x6_3.length : Int) then (spec_l06Least.l1 k3 x4_1 x5_1 (x6_3.set (x7_2 : Int).toNat (rd x6_3 x8_3)) (wrap64 (x7_2 + 1)) t227) else (none)) else (none)) = some r := by first | (rw [if_pos rfl] at H; exact H) | rfl
                                            clear H
                                            have H := H1
                                            clear H1
                                            by_cases c38 : x8_3 < (x6_3.length : Int)
                                            · rw [if_pos c38] at H
                                              have c38b0 : decide (x8_3 < (x6_3.length : Int)) = true := decide_eq_true c38
                                              clear c38
                                              by_cases c39 : x7_2 < (x6_3.length : Int)
                                              · rw [if_pos c39] at H
                                                have c39b0 : decide (x7_2 < (x6_3.length : Int)) = true := decide_eq_true c39
                                                clear c39
                                                obtain ⟨y243, hy243⟩ : ∃ y_ : List Int, y_ = (x6_3.set (x7_2 : Int).toNat (rd x6_3 x8_3)) := ⟨_, rfl⟩
                                                replace H : (spec_l06Least.l1 k3 x4_1 x5_1 y243 (wrap64 (x7_2 + 1)) t227) = some r := by first | (rw [hy243]; with_reducible exact H) | (have H2_ := (Option.bind_some _ _).symm.trans H; rw [hy243]; with_reducible exact H2_) | (have H2_ := (Option.bind_some _ _).symm.trans H; with_reducible exact H2_) | with_reducible exact H | (rw [hy243]; exact H) | exact H
                                                have Ny243 := Aside0.mk hy243
                                                clear hy243
                                                have H' := Aside0.mk H
                                                clear H
                                                have p238 : 0 ≤ (x8_3 : Int) := of_decide_eq_true (by first | (with_reducible assumption) | assumption)
                                                have q238 : x8_3 < (x4_1.length : Int) := of_decide_eq_true (by first | (with_reducible assumption) | assumption)
                                                obtain ⟨ad238, e238, hx238_0⟩ := Kd.at_int (Kd.R_reads' HO_4.out).2.2 x8_3 p238 q238
                                                cases e238
                                                replace p238 := eq_true p238
                                                replace q238 := eq_true q238
                                                have p239 : 0 ≤ (x7_2 : Int) := of_decide_eq_true (by first | (with_reducible assumption) | assumption)
                                                have q239 : x7_2 < (x4_1.length : Int) := of_decide_eq_true (by first | (with_reducible assumption) | assumption)
                                                obtain ⟨ad239, e239, hx239_0⟩ := Kd.at_int (Kd.R_reads' HO_4.out).2.2 x7_2 p239 q239
                                                obtain rfl : ad238 = ad239 := (by injection e239)
                                                replace p239 := eq_true p239
                                                replace q239 := eq_true q239
                                                go_wp2_with (first | (go_at_call 121; (with_reducible refine (spec_l06Alike.calls k3 _ ([(⟨t227⟩ : S34)]).length [(⟨t227⟩ : S34)] _ _ x4_1 x8_3 x7_2 true _ ?side1 ?side2 ?side3 ?side4 A36.out).mono ?_); (case side1 => refine Kd.C_block k34 (g := gb230) (cs := #[.slice Ao11 t227.length co11]) (T := 34) (by (with_reducible repeat (first | refine blk_drewN ?_ _ | refine blk_drew ?_ | refine blk_alloc ?_ _)); exact BK230.out) (show Kd.K k34 _ (⟨t227⟩ : S34) [.slice Ao11 t227.length co11] from k34_mk _ _ (by exact (Kd.R_reads' HO_231000.out).2.1) (by repeat (first | exact (Kd.R_reads' HO_231000.out).2.2 | (with_reducible refine Kd.C_alloc ?_ _) | (with_reducible refine Kd.C_drewN ?_ _) | (with_reducible refine Kd.C_drew ?_)))) (by decide)); (case side2 => exact Nat.le_refl _); (case side3 => repeat (first | exact (Kd.R_reads' HO_4.out).2.2 | (with_reducible refine Kd.C_alloc ?_ _) | (with_reducible refine Kd.C_drewN ?_ _) | (with_reducible refine Kd.C_drew ?_))); (case side4 => exact (Kd.R_reads' HO_4.out).2.1); rintro e w' ⟨rfl, ⟨nd, rfl⟩⟩; (try first | exact ⟨rfl, _, World.drewN_drewN _ _ _⟩ | exact ⟨rfl, _, Eq.trans (World.drewN_drewN _ _ _) (congrArg (World.drewN _) (Nat.add_assoc _ _ _))⟩); have p242 : 0 ≤ (x8_3 : Int) := of_decide_eq_true (by first | (with_reducible assumption) | assumption); have q242 : x8_3 < (x6_3.length : Int) := of_decide_eq_true (by first | (with_reducible assumption) | assumption); obtain ⟨ad242, e242, hx242_0⟩ := Kd.at_int (Kd.R_reads' HO_6.out).2.2 x8_3 p242 q242; obtain rfl : (⟨go27, 0, none⟩ : Addr) = ad242 := (by injection e242); (first | simp only [add_plain] at hx242_0 | simp only [add_at] at hx242_0 | simp only [Addr.add, Nat.zero_add] at hx242_0 | skip); replace p242 := eq_true p242; replace q242 := eq_true q242; have p40 : 0 ≤ (x7_2 : Int) := of_decide_eq_true (by first | (with_reducible assumption) | assumption); have q40 : (x7_2 : Int) < ((x6_3.length : Int) : Int) := of_decide_eq_true (by first | (with_reducible assumption) | assumption); obtain ⟨hx40_0, hf40_0⟩ := Kd.R_celln 0 HO_6.out (x7_2 : Int) p40 q40; replace p40 := eq_true p40; replace q40 := eq_true q40; obtain ⟨hy41_, hz41_⟩ := Kd.R_celln 0 HO_6.out (x7_2 : Int) (of_decide_eq_true (by first | (with_reducible assumption) | assumption)) (of_decide_eq_true (by first | (with_reducible assumption) | assumption)); have HP41 := Kd.R_putg HO_6.out (x7_2 : Int) (rd x6_3 x8_3)) | ((with_reducible refine gate_store (t := 3) (p := 65) rfl ?_); (try (rw [drewN_self wr]; generalize hq_ : World.drewN wr _ = wr; have n0_ := Aside0.mk (Kd.R_at hq_ HO_4.out); have n1_ := Aside0.mk (Kd.R_at hq_ HO_6.out); have n2_ := Aside0.mk (Kd.R_at hq_ HO_231000.out); have n3_ := Aside0.mk (blk_at hq_ BK223.out); have n4_ := Aside0.mk (blk_at hq_ BK230.out); have n5_ := Aside0.mk (below_at hq_ HB.out); clear hq_ HO_4 HO_6 HO_231000 BK223 BK230 HB; have HO_4 := n0_; have HO_6 := n1_; have HO_231000 := n2_; have BK223 := n3_; have BK230 := n4_; have HB := n5_; clear n0_ n1_ n2_ n3_ n4_ n5_; (try (obtain ⟨hy41_, hz41_⟩ := Kd.R_celln 0 HO_6.out (x7_2 : Int) (of_decide_eq_true (by first | (with_reducible assumption) | assumption)) (of_decide_eq_true (by first | (with_reducible assumption) | assumption)))); (try (have HP41 := Kd.R_putg HO_6.out (x7_2 : Int) (rd x6_3 x8_3))))); refine store_event (t := 3) (p := 65) (v := ?vo_w42) (w1 := (wr.setCell ⟨go27, (x7_2 : Int).toNat, none⟩ (.int .i64 (rd x6_3 x8_3)))) ?hg ?ho ?hn ?hr ?_; (case ho => rfl); (case hg => rfl); (case hn => rfl); (case hr => first | (go_simp; done) | (go_simp; rfl)); intro w42 hw; have hg : wr.grownBy w42 (some go27) := (by rw [hw]; exact HP41.2); have hp_ : Kd.R (Kd.int .i64) 3 w42 w.heap.size (fun k_ => some k_ ≠ (.slice (some ad238) x4_1.length co21 : Value).ownBlock) (.slice (some ⟨go27, 0, none⟩) x6_3.length co27) y243 := (by rw [hw, Ny243.out]; exact HP41.1); clear HP41; have n0_ := Aside0.mk (Kd.R_after (v := (.slice (some ⟨go27, 0, none⟩) x6_3.length co27)) (v1 := (.slice (some ⟨go27, 0, none⟩) x6_3.length co27)) (ok := (fun _ => True)) (by (with_reducible repeat (first | apply Kd.R_alloc | apply Kd.R_drewN | apply Kd.R_drew)); exact Kd.R_mono HO_4.out (fun _ hk => ⟨trivial, hk⟩)) hg (.inl rfl)); have n1_ := Aside0.mk (hp_); have n2_ := Aside0.mk (Kd.R_over' (v := (.slice (some ⟨go27, 0, none⟩) x6_3.length co27)) (by (with_reducible repeat (first | apply Kd.R_alloc | apply Kd.R_drewN | apply Kd.R_drew)); exact HO_231000.out) (Kd.R_typed HO_6.out) (by decide) hg); have n3_ := Aside0.mk (blk_grown (g := gb223) (o := .cells #[.slice none 0 0] 34 (0, 0)) (by (with_reducible repeat (first | refine blk_drewN ?_ _ | refine blk_drew ?_ | refine blk_alloc ?_ _)); exact BK223.out) hg (Kd.R_ne HO_6.out BK223.out (by decide))); have n4_ := Aside0.mk (blk_grown (g := gb230) (o := .cells #[.slice Ao11 t227.length co11] 34 (0, 0)) (by (with_reducible repeat (first | refine blk_drewN ?_ _ | refine blk_drew ?_ | refine blk_alloc ?_ _)); exact BK230.out) hg (Kd.R_ne HO_6.out BK230.out (by decide))); have n5_ := Aside0.mk ((by rw [hw]; exact below_set (HB.out) GB27.out : Below w.heap.size w w42)); clear HO_4; clear HO_6; clear HO_231000; clear BK223; clear BK230; clear HB; have HO_4 := n0_; have HO_6 := n1_; have HO_231000 := n2_; have BK223 := n3_; have BK230 := n4_; have HB := n5_; clear n0_ n1_ n2_ n3_ n4_ n5_; clear hg hw hp_))
                                                repeat (go_quiet (first | (go_at_call 121; (with_reducible refine (spec_l06Alike.calls k3 _ ([(⟨t227⟩ : S34)]).length [(⟨t227⟩ : S34)] _ _ x4_1 x8_3 x7_2 true _ ?side1 ?side2 ?side3 ?side4 A36.out).mono ?_); (case side1 => refine Kd.C_block k34 (g := gb230) (cs := #[.slice Ao11 t227.length co11]) (T := 34) (by (with_reducible repeat (first | refine blk_drewN ?_ _ | refine blk_drew ?_ | refine blk_alloc ?_ _)); exact BK230.out) (show Kd.K k34 _ (⟨t227⟩ : S34) [.slice Ao11 t227.length co11] from k34_mk _ _ (by exact (Kd.R_reads' HO_231000.out).2.1) (by repeat (first | exact (Kd.R_reads' HO_231000.out).2.2 | (with_reducible refine Kd.C_alloc ?_ _) | (with_reducible refine Kd.C_drewN ?_ _) | (with_reducible refine Kd.C_drew ?_)))) (by decide)); (case side2 => exact Nat.le_refl _); (case side3 => repeat (first | exact (Kd.R_reads' HO_4.out).2.2 | (with_reducible refine Kd.C_alloc ?_ _) | (with_reducible refine Kd.C_drewN ?_ _) | (with_reducible refine Kd.C_drew ?_))); (case side4 => exact (Kd.R_reads' HO_4.out).2.1); rintro e w' ⟨rfl, ⟨nd, rfl⟩⟩; (try first | exact ⟨rfl, _, World.drewN_drewN _ _ _⟩ | exact ⟨rfl, _, Eq.trans (World.drewN_drewN _ _ _) (congrArg (World.drewN _) (Nat.add_assoc _ _ _))⟩); have p242 : 0 ≤ (x8_3 : Int) := of_decide_eq_true (by first | (with_reducible assumption) | assumption); have q242 : x8_3 < (x6_3.length : Int) := of_decide_eq_true (by first | (with_reducible assumption) | assumption); obtain ⟨ad242, e242, hx242_0⟩ := Kd.at_int (Kd.R_reads' HO_6.out).2.2 x8_3 p242 q242; obtain rfl : (⟨go27, 0, none⟩ : Addr) = ad242 := (by injection e242); (first | simp only [add_plain] at hx242_0 | simp only [add_at] at hx242_0 | simp only [Addr.add, Nat.zero_add] at hx242_0 | skip); replace p242 := eq_true p242; replace q242 := eq_true q242; have p40 : 0 ≤ (x7_2 : Int) := of_decide_eq_true (by first | (with_reducible assumption) | assumption); have q40 : (x7_2 : Int) < ((x6_3.length : Int) : Int) := of_decide_eq_true (by first | (with_reducible assumption) | assumption); obtain ⟨hx40_0, hf40_0⟩ := Kd.R_celln 0 HO_6.out (x7_2 : Int) p40 q40; replace p40 := eq_true p40; replace q40 := eq_true q40; obtain ⟨hy41_, hz41_⟩ := Kd.R_celln 0 HO_6.out (x7_2 : Int) (of_decide_eq_true (by first | (with_reducible assumption) | assumption)) (of_decide_eq_true (by first | (with_reducible assumption) | assumption)); have HP41 := Kd.R_putg HO_6.out (x7_2 : Int) (rd x6_3 x8_3)) | ((with_reducible refine gate_store (t := 3) (p := 65) rfl ?_); (try (rw [drewN_self wr]; generalize hq_ : World.drewN wr _ = wr; have n0_ := Aside0.mk (Kd.R_at hq_ HO_4.out); have n1_ := Aside0.mk (Kd.R_at hq_ HO_6.out); have n2_ := Aside0.mk (Kd.R_at hq_ HO_231000.out); have n3_ := Aside0.mk (blk_at hq_ BK223.out); have n4_ := Aside0.mk (blk_at hq_ BK230.out); have n5_ := Aside0.mk (below_at hq_ HB.out); clear hq_ HO_4 HO_6 HO_231000 BK223 BK230 HB; have HO_4 := n0_; have HO_6 := n1_; have HO_231000 := n2_; have BK223 := n3_; have BK230 := n4_; have HB := n5_; clear n0_ n1_ n2_ n3_ n4_ n5_; (try (obtain ⟨hy41_, hz41_⟩ := Kd.R_celln 0 HO_6.out (x7_2 : Int) (of_decide_eq_true (by first | (with_reducible assumption) | assumption)) (of_decide_eq_true (by first | (with_reducible assumption) | assumption)))); (try (have HP41 := Kd.R_putg HO_6.out (x7_2 : Int) (rd x6_3 x8_3))))); refine store_event (t := 3) (p := 65) (v := ?vo_w42) (w1 := (wr.setCell ⟨go27, (x7_2 : Int).toNat, none⟩ (.int .i64 (rd x6_3 x8_3)))) ?hg ?ho ?hn ?hr ?_; (case ho => rfl); (case hg => rfl); (case hn => rfl); (case hr => first | (go_simp; done) | (go_simp; rfl)); intro w42 hw; have hg : wr.grownBy w42 (some go27) := (by rw [hw]; exact HP41.2); have hp_ : Kd.R (Kd.int .i64) 3 w42 w.heap.size (fun k_ => some k_ ≠ (.slice (some ad238) x4_1.length co21 : Value).ownBlock) (.slice (some ⟨go27, 0, none⟩) x6_3.length co27) y243 := (by rw [hw, Ny243.out]; exact HP41.1); clear HP41; have n0_ := Aside0.mk (Kd.R_after (v := (.slice (some ⟨go27, 0, none⟩) x6_3.length co27)) (v1 := (.slice (some ⟨go27, 0, none⟩) x6_3.length co27)) (ok := (fun _ => True)) (by (with_reducible repeat (first | apply Kd.R_alloc | apply Kd.R_drewN | apply Kd.R_drew)); exact Kd.R_mono HO_4.out (fun _ hk => ⟨trivial, hk⟩)) hg (.inl rfl)); have n1_ := Aside0.mk (hp_); have n2_ := Aside0.mk (Kd.R_over' (v := (.slice (some ⟨go27, 0, none⟩) x6_3.length co27)) (by (with_reducible repeat (first | apply Kd.R_alloc | apply Kd.R_drewN | apply Kd.R_drew)); exact HO_231000.out) (Kd.R_typed HO_6.out) (by decide) hg); have n3_ := Aside0.mk (blk_grown (g := gb223) (o := .cells #[.slice none 0 0] 34 (0, 0)) (by (with_reducible repeat (first | refine blk_drewN ?_ _ | refine blk_drew ?_ | refine blk_alloc ?_ _)); exact BK223.out) hg (Kd.R_ne HO_6.out BK223.out (by decide))); have n4_ := Aside0.mk (blk_grown (g := gb230) (o := .cells #[.slice Ao11 t227.length co11] 34 (0, 0)) (by (with_reducible repeat (first | refine blk_drewN ?_ _ | refine blk_drew ?_ | refine blk_alloc ?_ _)); exact BK230.out) hg (Kd.R_ne HO_6.out BK230.out (by decide))); have n5_ := Aside0.mk ((by rw [hw]; exact below_set (HB.out) GB27.out : Below w.heap.size w w42)); clear HO_4; clear HO_6; clear HO_231000; clear BK223; clear BK230; clear HB; have HO_4 := n0_; have HO_6 := n1_; have HO_231000 := n2_; have BK223 := n3_; have BK230 := n4_; have HB := n5_; clear n0_ n1_ n2_ n3_ n4_ n5_; clear hg hw hp_)); try go_wp2_with (first | (go_at_call 121; (with_reducible refine (spec_l06Alike.calls k3 _ ([(⟨t227⟩ : S34)]).length [(⟨t227⟩ : S34)] _ _ x4_1 x8_3 x7_2 true _ ?side1 ?side2 ?side3 ?side4 A36.out).mono ?_); (case side1 => refine Kd.C_block k34 (g := gb230) (cs := #[.slice Ao11 t227.length co11]) (T := 34) (by (with_reducible repeat (first | refine blk_drewN ?_ _ | refine blk_drew ?_ | refine blk_alloc ?_ _)); exact BK230.out) (show Kd.K k34 _ (⟨t227⟩ : S34) [.slice Ao11 t227.length co11] from k34_mk _ _ (by exact (Kd.R_reads' HO_231000.out).2.1) (by repeat (first | exact (Kd.R_reads' HO_231000.out).2.2 | (with_reducible refine Kd.C_alloc ?_ _) | (with_reducible refine Kd.C_drewN ?_ _) | (with_reducible refine Kd.C_drew ?_)))) (by decide)); (case side2 => exact Nat.le_refl _); (case side3 => repeat (first | exact (Kd.R_reads' HO_4.out).2.2 | (with_reducible refine Kd.C_alloc ?_ _) | (with_reducible refine Kd.C_drewN ?_ _) | (with_reducible refine Kd.C_drew ?_))); (case side4 => exact (Kd.R_reads' HO_4.out).2.1); rintro e w' ⟨rfl, ⟨nd, rfl⟩⟩; (try first | exact ⟨rfl, _, World.drewN_drewN _ _ _⟩ | exact ⟨rfl, _, Eq.trans (World.drewN_drewN _ _ _) (congrArg (World.drewN _) (Nat.add_assoc _ _ _))⟩); have p242 : 0 ≤ (x8_3 : Int) := of_decide_eq_true (by first | (with_reducible assumption) | assumption); have q242 : x8_3 < (x6_3.length : Int) := of_decide_eq_true (by first | (with_reducible assumption) | assumption); obtain ⟨ad242, e242, hx242_0⟩ := Kd.at_int (Kd.R_reads' HO_6.out).2.2 x8_3 p242 q242; obtain rfl : (⟨go27, 0, none⟩ : Addr) = ad242 := (by injection e242); (first | simp only [add_plain] at hx242_0 | simp only [add_at] at hx242_0 | simp only [Addr.add, Nat.zero_add] at hx242_0 | skip); replace p242 := eq_true p242; replace q242 := eq_true q242; have p40 : 0 ≤ (x7_2 : Int) := of_decide_eq_true (by first | (with_reducible assumption) | assumption); have q40 : (x7_2 : Int) < ((x6_3.length : Int) : Int) := of_decide_eq_true (by first | (with_reducible assumption) | assumption); obtain ⟨hx40_0, hf40_0⟩ := Kd.R_celln 0 HO_6.out (x7_2 : Int) p40 q40; replace p40 := eq_true p40; replace q40 := eq_true q40; obtain ⟨hy41_, hz41_⟩ := Kd.R_celln 0 HO_6.out (x7_2 : Int) (of_decide_eq_true (by first | (with_reducible assumption) | assumption)) (of_decide_eq_true (by first | (with_reducible assumption) | assumption)); have HP41 := Kd.R_putg HO_6.out (x7_2 : Int) (rd x6_3 x8_3)) | ((with_reducible refine gate_store (t := 3) (p := 65) rfl ?_); (try (rw [drewN_self wr]; generalize hq_ : World.drewN wr _ = wr; have n0_ := Aside0.mk (Kd.R_at hq_ HO_4.out); have n1_ := Aside0.mk (Kd.R_at hq_ HO_6.out); have n2_ := Aside0.mk (Kd.R_at hq_ HO_231000.out); have n3_ := Aside0.mk (blk_at hq_ BK223.out); have n4_ := Aside0.mk (blk_at hq_ BK230.out); have n5_ := Aside0.mk (below_at hq_ HB.out); clear hq_ HO_4 HO_6 HO_231000 BK223 BK230 HB; have HO_4 := n0_; have HO_6 := n1_; have HO_231000 := n2_; have BK223 := n3_; have BK230 := n4_; have HB := n5_; clear n0_ n1_ n2_ n3_ n4_ n5_; (try (obtain ⟨hy41_, hz41_⟩ := Kd.R_celln 0 HO_6.out (x7_2 : Int) (of_decide_eq_true (by first | (with_reducible assumption) | assumption)) (of_decide_eq_true (by first | (with_reducible assumption) | assumption)))); (try (have HP41 := Kd.R_putg HO_6.out (x7_2 : Int) (rd x6_3 x8_3))))); refine store_event (t := 3) (p := 65) (v := ?vo_w42) (w1 := (wr.setCell ⟨go27, (x7_2 : Int).toNat, none⟩ (.int .i64 (rd x6_3 x8_3)))) ?hg ?ho ?hn ?hr ?_; (case ho => rfl); (case hg => rfl); (case hn => rfl); (case hr => first | (go_simp; done) | (go_simp; rfl)); intro w42 hw; have hg : wr.grownBy w42 (some go27) := (by rw [hw]; exact HP41.2); have hp_ : Kd.R (Kd.int .i64) 3 w42 w.heap.size (fun k_ => some k_ ≠ (.slice (some ad238) x4_1.length co21 : Value).ownBlock) (.slice (some ⟨go27, 0, none⟩) x6_3.length co27) y243 := (by rw [hw, Ny243.out]; exact HP41.1); clear HP41; have n0_ := Aside0.mk (Kd.R_after (v := (.slice (some ⟨go27, 0, none⟩) x6_3.length co27)) (v1 := (.slice (some ⟨go27, 0, none⟩) x6_3.length co27)) (ok := (fun _ => True)) (by (with_reducible repeat (first | apply Kd.R_alloc | apply Kd.R_drewN | apply Kd.R_drew)); exact Kd.R_mono HO_4.out (fun _ hk => ⟨trivial, hk⟩)) hg (.inl rfl)); have n1_ := Aside0.mk (hp_); have n2_ := Aside0.mk (Kd.R_over' (v := (.slice (some ⟨go27, 0, none⟩) x6_3.length co27)) (by (with_reducible repeat (first | apply Kd.R_alloc | apply Kd.R_drewN | apply Kd.R_drew)); exact HO_231000.out) (Kd.R_typed HO_6.out) (by decide) hg); have n3_ := Aside0.mk (blk_grown (g := gb223) (o := .cells #[.slice none 0 0] 34 (0, 0)) (by (with_reducible repeat (first | refine blk_drewN ?_ _ | refine blk_drew ?_ | refine blk_alloc ?_ _)); exact BK223.out) hg (Kd.R_ne HO_6.out BK223.out (by decide))); have n4_ := Aside0.mk (blk_grown (g := gb230) (o := .cells #[.slice Ao11 t227.length co11] 34 (0, 0)) (by (with_reducible repeat (first | refine blk_drewN ?_ _ | refine blk_drew ?_ | refine blk_alloc ?_ _)); exact BK230.out) hg (Kd.R_ne HO_6.out BK230.out (by decide))); have n5_ := Aside0.mk ((by rw [hw]; exact below_set (HB.out) GB27.out : Below w.heap.size w w42)); clear HO_4; clear HO_6; clear HO_231000; clear BK223; clear BK230; clear HB; have HO_4 := n0_; have HO_6 := n1_; have HO_231000 := n2_; have BK223 := n3_; have BK230 := n4_; have HB := n5_; clear n0_ n1_ n2_ n3_ n4_ n5_; clear hg hw hp_)))
                                                (try simp only [← hl6_3])
                                                go_roundg k3
                                                case measure => have := HK1.out; have := HK2.out; have := HK3.out; omega
                                                case rel => exact ⟨(y243), (wrap64 (x7_2 + 1)), (by first | rfl | (simp; done) | (simp [*]; done) | (simp [isE_]; done)), H', ⟨by have := HK1.out; have := HK2.out; have := HK3.out; omega⟩, ⟨by (try simp only [hl6_3]); (with_reducible repeat (first | apply Kd.R_alloc | apply Kd.R_drewN | apply Kd.R_drew)); exact Kd.R_mono HO_4.out (fun _ hk => hk.2)⟩, ⟨by (try simp only [hl6_3]); (with_reducible repeat (first | apply Kd.R_alloc | apply Kd.R_drewN | apply Kd.R_drew)); exact HO_6.out⟩, ⟨by (try simp only [hl6_3]); (with_reducible repeat (first | apply Kd.R_alloc | apply Kd.R_drewN | apply Kd.R_drew)); exact HO_231000.out⟩, ⟨by (try simp only [hl6_3]); (with_reducible repeat (first | refine blk_drewN ?_ _ | refine blk_drew ?_ | refine blk_alloc ?_ _)); exact BK223.out⟩, ⟨by (try simp only [hl6_3]); (with_reducible repeat (first | refine blk_drewN ?_ _ | refine blk_drew ?_ | refine blk_alloc ?_ _)); exact BK230.out⟩, ⟨by repeat (first | (with_reducible first | exact HB.out | apply below_alloc | apply pw_below_drewN | apply below_drew1 | refine below_set ?_ GE223.out | refine below_set ?_ GE230.out) | exact HB.out)⟩⟩
                                              · rw [if_neg c39] at H
                                                exact absurd H (by simp)
                                            · rw [if_neg c38] at H
                                              exact absurd H (by simp)
                                          · replace c37 := Bool.eq_false_iff.mpr c37
                                            subst c37
                                            have H1 : (spec_l06Least.l2 k3 x4_1 x5_1 x6_3 x7_2 (wrap64 (x8_3 + 1)) t227) = some r := by first | (rw [if_neg (show ¬ (false = true) by decide)] at H; exact H) | rfl
                                            clear H
                                            have H := H1
                                            clear H1
                                            have H' := Aside0.mk H
                                            clear H
                                            have p238 : 0 ≤ (x8_3 : Int) := of_decide_eq_true (by first | (with_reducible assumption) | assumption)
                                            have q238 : x8_3 < (x4_1.length : Int) := of_decide_eq_true (by first | (with_reducible assumption) | assumption)
                                            obtain ⟨ad238, e238, hx238_0⟩ := Kd.at_int (Kd.R_reads' HO_4.out).2.2 x8_3 p238 q238
                                            cases e238
                                            replace p238 := eq_true p238
                                            replace q238 := eq_true q238
                                            have p239 : 0 ≤ (x7_2 : Int) := of_decide_eq_true (by first | (with_reducible assumption) | assumption)
                                            have q239 : x7_2 < (x4_1.length : Int) := of_decide_eq_true (by first | (with_reducible assumption) | assumption)
                                            obtain ⟨ad239, e239, hx239_0⟩ := Kd.at_int (Kd.R_reads' HO_4.out).2.2 x7_2 p239 q239
                                            obtain rfl : ad238 = ad239 := (by injection e239)
                                            replace p239 := eq_true p239
                                            replace q239 := eq_true q239
                                            go_wp2_with (first | (go_at_call 121; (with_reducible refine (spec_l06Alike.calls k3 _ ([(⟨t227⟩ : S34)]).length [(⟨t227⟩ : S34)] _ _ x4_1 x8_3 x7_2 false _ ?side1 ?side2 ?side3 ?side4 A36.out).mono ?_); (case side1 => refine Kd.C_block k34 (g := gb230) (cs := #[.slice Ao11 t227.length co11]) (T := 34) (by (with_reducible repeat (first | refine blk_drewN ?_ _ | refine blk_drew ?_ | refine blk_alloc ?_ _)); exact BK230.out) (show Kd.K k34 _ (⟨t227⟩ : S34) [.slice Ao11 t227.length co11] from k34_mk _ _ (by exact (Kd.R_reads' HO_231000.out).2.1) (by repeat (first | exact (Kd.R_reads' HO_231000.out).2.2 | (with_reducible refine Kd.C_alloc ?_ _) | (with_reducible refine Kd.C_drewN ?_ _) | (with_reducible refine Kd.C_drew ?_)))) (by decide)); (case side2 => exact Nat.le_refl _); (case side3 => repeat (first | exact (Kd.R_reads' HO_4.out).2.2 | (with_reducible refine Kd.C_alloc ?_ _) | (with_reducible refine Kd.C_drewN ?_ _) | (with_reducible refine Kd.C_drew ?_))); (case side4 => exact (Kd.R_reads' HO_4.out).2.1); rintro e w' ⟨rfl, ⟨nd, rfl⟩⟩; (try first | exact ⟨rfl, _, World.drewN_drewN _ _ _⟩ | exact ⟨rfl, _, Eq.trans (World.drewN_drewN _ _ _) (congrArg (World.drewN _) (Nat.add_assoc _ _ _))⟩)))
                                            repeat (go_quiet (first | (go_at_call 121; (with_reducible refine (spec_l06Alike.calls k3 _ ([(⟨t227⟩ : S34)]).length [(⟨t227⟩ : S34)] _ _ x4_1 x8_3 x7_2 false _ ?side1 ?side2 ?side3 ?side4 A36.out).mono ?_); (case side1 => refine Kd.C_block k34 (g := gb230) (cs := #[.slice Ao11 t227.length co11]) (T := 34) (by (with_reducible repeat (first | refine blk_drewN ?_ _ | refine blk_drew ?_ | refine blk_alloc ?_ _)); exact BK230.out) (show Kd.K k34 _ (⟨t227⟩ : S34) [.slice Ao11 t227.length co11] from k34_mk _ _ (by exact (Kd.R_reads' HO_231000.out).2.1) (by repeat (first | exact (Kd.R_reads' HO_231000.out).2.2 | (with_reducible refine Kd.C_alloc ?_ _) | (with_reducible refine Kd.C_drewN ?_ _) | (with_reducible refine Kd.C_drew ?_)))) (by decide)); (case side2 => exact Nat.le_refl _); (case side3 => repeat (first | exact (Kd.R_reads' HO_4.out).2.2 | (with_reducible refine Kd.C_alloc ?_ _) | (with_reducible refine Kd.C_drewN ?_ _) | (with_reducible refine Kd.C_drew ?_))); (case side4 => exact (Kd.R_reads' HO_4.out).2.1); rintro e w' ⟨rfl, ⟨nd, rfl⟩⟩; (try first | exact ⟨rfl, _, World.drewN_drewN _ _ _⟩ | exact ⟨rfl, _, Eq.trans (World.drewN_drewN _ _ _) (congrArg (World.drewN _) (Nat.add_assoc _ _ _))⟩))); try go_wp2_with (first | (go_at_call 121; (with_reducible refine (spec_l06Alike.calls k3 _ ([(⟨t227⟩ : S34)]).length [(⟨t227⟩ : S34)] _ _ x4_1 x8_3 x7_2 false _ ?side1 ?side2 ?side3 ?side4 A36.out).mono ?_); (case side1 => refine Kd.C_block k34 (g := gb230) (cs := #[.slice Ao11 t227.length co11]) (T := 34) (by (with_reducible repeat (first | refine blk_drewN ?_ _ | refine blk_drew ?_ | refine blk_alloc ?_ _)); exact BK230.out) (show Kd.K k34 _ (⟨t227⟩ : S34) [.slice Ao11 t227.length co11] from k34_mk _ _ (by exact (Kd.R_reads' HO_231000.out).2.1) (by repeat (first | exact (Kd.R_reads' HO_231000.out).2.2 | (with_reducible refine Kd.C_alloc ?_ _) | (with_reducible refine Kd.C_drewN ?_ _) | (with_reducible refine Kd.C_drew ?_)))) (by decide)); (case side2 => exact Nat.le_refl _); (case side3 => repeat (first | exact (Kd.R_reads' HO_4.out).2.2 | (with_reducible refine Kd.C_alloc ?_ _) | (with_reducible refine Kd.C_drewN ?_ _) | (with_reducible refine Kd.C_drew ?_))); (case side4 => exact (Kd.R_reads' HO_4.out).2.1); rintro e w' ⟨rfl, ⟨nd, rfl⟩⟩; (try first | exact ⟨rfl, _, World.drewN_drewN _ _ _⟩ | exact ⟨rfl, _, Eq.trans (World.drewN_drewN _ _ _) (congrArg (World.drewN _) (Nat.add_assoc _ _ _))⟩))))
                                            (try simp only [← hl6_3])
                                            go_roundg k3
                                            case measure => have := HK1.out; have := HK2.out; have := HK3.out; omega
                                            case rel => exact ⟨(x6_3), (wrap64 (x8_3 + 1)), (by first | rfl | (simp; done) | (simp [*]; done) | (simp [isE_]; done)), H', ⟨by have := HK1.out; have := HK2.out; have := HK3.out; omega⟩, ⟨by (try simp only [hl6_3]); (with_reducible repeat (first | apply Kd.R_alloc | apply Kd.R_drewN | apply Kd.R_drew)); exact HO_4.out⟩, ⟨by (try simp only [hl6_3]); (with_reducible repeat (first | apply Kd.R_alloc | apply Kd.R_drewN | apply Kd.R_drew)); exact HO_6.out⟩, ⟨by (try simp only [hl6_3]); (with_reducible repeat (first | apply Kd.R_alloc | apply Kd.R_drewN | apply Kd.R_drew)); exact HO_231000.out⟩, ⟨by (try simp only [hl6_3]); (with_reducible repeat (first | refine blk_drewN ?_ _ | refine blk_drew ?_ | refine blk_alloc ?_ _)); exact BK223.out⟩, ⟨by (try simp only [hl6_3]); (with_reducible repeat (first | refine blk_drewN ?_ _ | refine blk_drew ?_ | refine blk_alloc ?_ _)); exact BK230.out⟩, ⟨by repeat (first | (with_reducible first | exact HB.out | apply below_alloc | apply pw_below_drewN | apply below_drew1 | refine below_set ?_ GE223.out | refine below_set ?_ GE230.out) | exact HB.out)⟩⟩
                                        · rw [if_neg c35] at H
                                          have c35b0 : ((rd x4_1 x8_3) == (rd x4_1 x7_2)) = false := beq_eq_false_iff_ne.mpr c35
                                          have c35b1 : ((rd x4_1 x8_3) != (rd x4_1 x7_2)) = true := bne_iff_ne.mpr c35
                                          have H' := Aside0.mk H
                                          clear H
                                          have p238 : 0 ≤ (x8_3 : Int) := of_decide_eq_true (by first | (with_reducible assumption) | assumption)
                                          have q238 : x8_3 < (x4_1.length : Int) := of_decide_eq_true (by first | (with_reducible assumption) | assumption)
                                          obtain ⟨ad238, e238, hx238_0⟩ := Kd.at_int (Kd.R_reads' HO_4.out).2.2 x8_3 p238 q238
                                          cases e238
                                          replace p238 := eq_true p238
                                          replace q238 := eq_true q238
                                          have p239 : 0 ≤ (x7_2 : Int) := of_decide_eq_true (by first | (with_reducible assumption) | assumption)
                                          have q239 : x7_2 < (x4_1.length : Int) := of_decide_eq_true (by first | (with_reducible assumption) | assumption)
                                          obtain ⟨ad239, e239, hx239_0⟩ := Kd.at_int (Kd.R_reads' HO_4.out).2.2 x7_2 p239 q239
                                          obtain rfl : ad238 = ad239 := (by injection e239)
                                          replace p239 := eq_true p239
                                          replace q239 := eq_true q239
                                          go_wp2
                                          repeat (go_quiet (fail); try go_wp2)
                                          (try simp only [← hl6_3])
                                          go_roundg k3
                                          case measure => have := HK1.out; have := HK2.out; have := HK3.out; omega
                                          case rel => exact ⟨(x6_3), (wrap64 (x8_3 + 1)), (by first | rfl | (simp; done) | (simp [*]; done) | (simp [isE_]; done)), H', ⟨by have := HK1.out; have := HK2.out; have := HK3.out; omega⟩, ⟨by (try simp only [hl6_3]); (with_reducible repeat (first | apply Kd.R_alloc | apply Kd.R_drewN | apply Kd.R_drew)); exact HO_4.out⟩, ⟨by (try simp only [hl6_3]); (with_reducible repeat (first | apply Kd.R_alloc | apply Kd.R_drewN | apply Kd.R_drew)); exact HO_6.out⟩, ⟨by (try simp only [hl6_3]); (with_reducible repeat (first | apply Kd.R_alloc | apply Kd.R_drewN | apply Kd.R_drew)); exact HO_231000.out⟩, ⟨by (try simp only [hl6_3]); (with_reducible repeat (first | refine blk_drewN ?_ _ | refine blk_drew ?_ | refine blk_alloc ?_ _)); exact BK223.out⟩, ⟨by (try simp only [hl6_3]); (with_reducible repeat (first | refine blk_drewN ?_ _ | refine blk_drew ?_ | refine blk_alloc ?_ _)); exact BK230.out⟩, ⟨by repeat (first | (with_reducible first | exact HB.out | apply below_alloc | apply pw_below_drewN | apply below_drew1 | refine below_set ?_ GE223.out | refine below_set ?_ GE230.out) | exact HB.out)⟩⟩
                                      · rw [if_neg c34] at H
                                        exact absurd H (by simp)
                                    · rw [if_neg c33] at H
                                      exact absurd H (by simp)
                                  · rw [if_neg c32] at H
                                    exact absurd H (by simp)
                                · rw [if_neg c31] at H
                                  exact absurd H (by simp)
                              · rw [if_neg c30] at H
                                have c30b0 : decide (x8_3 < x7_2) = false := decide_eq_false c30
                                clear c30
                                have H' := Aside0.mk H
                                clear H
                                go_wp2
                                repeat (go_quiet (fail); try go_wp2)
                                (try simp only [← hl6_3])
                                go_roundg k3
                                case measure => have := HK1.out; have := HK2.out; have := HK3.out; omega
                                case rel => exact ⟨(x6_3), (wrap64 (x7_2 + 1)), (by first | rfl | (simp; done) | (simp [*]; done) | (simp [isE_]; done)), H', ⟨by have := HK1.out; have := HK2.out; have := HK3.out; omega⟩, ⟨by (try simp only [hl6_3]); (with_reducible repeat (first | apply Kd.R_alloc | apply Kd.R_drewN | apply Kd.R_drew)); exact HO_4.out⟩, ⟨by (try simp only [hl6_3]); (with_reducible repeat (first | apply Kd.R_alloc | apply Kd.R_drewN | apply Kd.R_drew)); exact HO_6.out⟩, ⟨by (try simp only [hl6_3]); (with_reducible repeat (first | apply Kd.R_alloc | apply Kd.R_drewN | apply Kd.R_drew)); exact HO_231000.out⟩, ⟨by (try simp only [hl6_3]); (with_reducible repeat (first | refine blk_drewN ?_ _ | refine blk_drew ?_ | refine blk_alloc ?_ _)); exact BK223.out⟩, ⟨by (try simp only [hl6_3]); (with_reducible repeat (first | refine blk_drewN ?_ _ | refine blk_drew ?_ | refine blk_alloc ?_ _)); exact BK230.out⟩, ⟨by repeat (first | (with_reducible first | exact HB.out | apply below_alloc | apply pw_below_drewN | apply below_drew1 | refine below_set ?_ GE223.out | refine below_set ?_ GE230.out) | exact HB.out)⟩⟩
                        · rw [if_neg c26] at H
                          exact absurd H (by simp)
                      · rw [if_neg c25] at H
                        exact absurd H (by simp)
                    · rw [if_neg c24] at H
                      have c24b0 : decide (x7_2 < (x4_1.length : Int)) = false := decide_eq_false c24
                      clear c24
                      have H' := Aside0.mk H
                      clear H
                      go_wp2
                      repeat (go_quiet (fail); try go_wp2)
                      go_roundg k2
                      case measure => have := HK1.out; have := HK2.out; omega
                      case rel => exact ⟨(x6_2), (wrap64 (x5_1 + 1)), (by first | rfl | (simp; done) | (simp [*]; done) | (simp [isE_]; done)), H', ⟨by have := HK1.out; have := HK2.out; omega⟩, ⟨by (with_reducible repeat (first | apply Kd.R_alloc | apply Kd.R_drewN | apply Kd.R_drew)); exact Kd.R_mono HO_6.out (fun _ hk => trivial)⟩, ⟨by (with_reducible repeat (first | apply Kd.R_alloc | apply Kd.R_drewN | apply Kd.R_drew)); exact HO_231000.out⟩, ⟨by (with_reducible repeat (first | refine blk_drewN ?_ _ | refine blk_drew ?_ | refine blk_alloc ?_ _)); exact BK223.out⟩, ⟨by (with_reducible repeat (first | refine blk_drewN ?_ _ | refine blk_drew ?_ | refine blk_alloc ?_ _)); exact BK230.out⟩, ⟨by repeat (first | (with_reducible first | exact HB.out | apply below_alloc | apply pw_below_drewN | apply below_drew1 | refine below_set ?_ GE223.out | refine below_set ?_ GE230.out) | exact HB.out)⟩⟩
              · rw [if_neg c18] at H
                exact absurd H (by simp)
            · rw [if_neg c17] at H
              exact absurd H (by simp)
          · rw [if_neg c16] at H
            have c16b0 : decide (x5_1 ≤ (t227.length : Int)) = false := decide_eq_false c16
            clear c16
            have H' := Aside0.mk H
            clear H
            have hnb43 := NB230_223.out
            have hnc43 := NB223_230.out
            have hcz44_0 : wr.cell? ⟨gb230, 0, none⟩ = some (.slice Ao11 t227.length co11) := (blk_cell BK230.out 0).trans rfl
            have hfz44_0 := blk_frozen BK230.out 0
            go_wp2
            repeat (go_quiet (fail); try go_wp2)
            go_loopg [9] k1 (fun kq v9 w' => ∃ (x9_2 : Int) (x231000_2 : List (S89)) (u231000 : Value), v9 = .int .i64 x9_2 ∧ Aside0 (spec_l06Least.l3 kq x4_1 x9_2 x231000_2 = some r) ∧ Aside0 (kq ≤ k1) ∧ Aside0 (Kd.R (Kd.int .i64) 3 w' w.heap.size (fun _ => True) u4 x4_1) ∧ Aside0 (Kd.R k89 89 w' w.heap.size (fun _ => True) u231000 x231000_2) ∧ Aside0 (w'.heap[gb223]? = some (.cells #[(.slice none 0 0)] 34 (0, 0))) ∧ Aside0 (w'.heap[gb230]? = some (.cells #[u231000] 34 (0, 0))) ∧ Aside0 (Below w.heap.size w w'))
            case atStart => exact ⟨(0), (t227), (.slice Ao11 t227.length co11), (by first | rfl | (simp; done) | (simp [*]; done) | (simp [isE_]; done)), H', ⟨Nat.le_refl _⟩, ⟨by (with_reducible repeat (first | apply Kd.R_alloc | apply Kd.R_drewN | apply Kd.R_drew)); exact HO_4.out⟩, ⟨by (with_reducible repeat (first | apply Kd.R_alloc | apply Kd.R_drewN | apply Kd.R_drew)); exact HO_231000.out⟩, ⟨by (with_reducible repeat (first | refine blk_drewN ?_ _ | refine blk_drew ?_ | refine blk_alloc ?_ _)); exact BK223.out⟩, ⟨by (with_reducible repeat (first | refine blk_drewN ?_ _ | refine blk_drew ?_ | refine blk_alloc ?_ _)); exact BK230.out⟩, ⟨by repeat (first | (with_reducible first | exact HB.out | apply below_alloc | apply pw_below_drewN | apply below_drew1 | refine below_set ?_ GE223.out | refine below_set ?_ GE230.out) | exact HB.out)⟩⟩
            case round =>
              clear H'
              try clear c1
              try clear c2
              try clear p2
              try clear q2
              try clear hx2
              try clear hf2
              try clear c3
              try clear c4
              try clear c4b0
              try clear c4b1
              try clear p4
              try clear q4
              try clear hx4
              try clear hf4
              try clear c5
              try clear c5b0
              try clear c5b1
              try clear p6
              try clear c7
              try clear c12
              try clear c16
              try clear c16b0
              try clear c17
              try clear c17b0
              try clear c17b1
              try clear c18
              try clear c18b0
              try clear c18b1
              try clear c19
              try clear p23
              try clear q23
              try clear hx23
              try clear c24
              try clear c24b0
              try clear p24
              try clear q24
              try clear hx24
              try clear c25
              try clear c25b0
              try clear c26
              try clear c26b0
              try clear p27
              try clear q27
              try clear hx27
              try clear hf27
              try clear c30
              try clear c30b0
              try clear c31
              try clear c31b0
              try clear c32
              try clear c32b0
              try clear c33
              try clear c33b0
              try clear c34
              try clear c34b0
              try clear c35
              try clear c35b0
              try clear c35b1
              try clear c37
              try clear c38
              try clear c38b0
              try clear c39
              try clear c39b0
              try clear p40
              try clear q40
              try clear hx40
              try clear hf40
              try clear c43
              try clear hcz13_0
              try clear hcz20_0
              try clear hcz44_0
              try clear hfz13_0
              try clear hfz20_0
              try clear hfz44_0
              try clear hx238_0
              try clear hx239_0
              try clear hx242_0
              try clear hx27_0
              try clear hx40_0
              try clear p2
              try clear p238
              try clear p239
              try clear p242
              try clear p27
              try clear p40
              try clear q2
              try clear q238
              try clear q239
              try clear q242
              try clear q27
              try clear q40
              obtain ⟨x9_2, x231000_2, u231000, rfl, HA, HK2, HO_4, HO_231000, BK223, BK230, HB⟩ := hrel
              cases gk with
              | zero => exact absurd HA.out (by simp [spec_l06Least.l3])
              | succ k2 =>
                have H := HA.out
                clear HA
                simp only [spec_l06Least.l3] at H
                by_cases c45 : x9_2 < (x231000_2.length : Int)
                · rw [if_pos c45] at H
                  have c45b0 : decide (x9_2 < (x231000_2.length : Int)) = true := decide_eq_true c45
                  clear c45
                  have H' := Aside0.mk H
                  clear H
                  have hnb46 := NB230_223.out
                  have hnc46 := NB223_230.out
                  have hcz47_0 : wr.cell? ⟨gb230, 0, none⟩ = some (u231000) := (blk_cell BK230.out 0).trans rfl
                  have hfz47_0 := blk_frozen BK230.out 0
                  obtain ⟨Ao48, co48, eo48⟩ := Kd.R_slice HO_231000.out
                  subst eo48
                  go_wp2
                  repeat (go_quiet (fail); try go_wp2)
                  go_loopg [10] k2 (fun kq v10 w' => ∃ (x10_3 : Int) (x231000_3 : List (S89)) (u231000 : Value), v10 = .int .i64 x10_3 ∧ Aside0 (spec_l06Least.l4 kq x4_1 x9_2 x10_3 x231000_3 = some r) ∧ Aside0 (kq ≤ k2) ∧ Aside0 (Kd.R (Kd.int .i64) 3 w' w.heap.size (fun _ => True) u4 x4_1) ∧ Aside0 (Kd.R k89 89 w' w.heap.size (fun _ => True) u231000 x231000_3) ∧ Aside0 (w'.heap[gb223]? = some (.cells #[(.slice none 0 0)] 34 (0, 0))) ∧ Aside0 (w'.heap[gb230]? = some (.cells #[u231000] 34 (0, 0))) ∧ Aside0 (Below w.heap.size w w'))
                  case atStart => exact ⟨(0), (x231000_2), (.slice Ao48 x231000_2.length co48), (by first | rfl | (simp; done) | (simp [*]; done) | (simp [isE_]; done)), H', ⟨Nat.le_refl _⟩, ⟨by (with_reducible repeat (first | apply Kd.R_alloc | apply Kd.R_drewN | apply Kd.R_drew)); exact HO_4.out⟩, ⟨by (with_reducible repeat (first | apply Kd.R_alloc | apply Kd.R_drewN | apply Kd.R_drew)); exact HO_231000.out⟩, ⟨by (with_reducible repeat (first | refine blk_drewN ?_ _ | refine blk_drew ?_ | refine blk_alloc ?_ _)); exact BK223.out⟩, ⟨by (with_reducible repeat (first | refine blk_drewN ?_ _ | refine blk_drew ?_ | refine blk_alloc ?_ _)); exact BK230.out⟩, ⟨by repeat (first | (with_reducible first | exact HB.out | apply below_alloc | apply pw_below_drewN | apply below_drew1 | refine below_set ?_ GE223.out | refine below_set ?_ GE230.out) | exact HB.out)⟩⟩
                  case round =>
                    clear H'
                    try clear c1
                    try clear c2
                    try clear p2
                    try clear q2
                    try clear hx2
                    try clear hf2
                    try clear c3
                    try clear c4
                    try clear c4b0
                    try clear c4b1
                    try clear p4
                    try clear q4
                    try clear hx4
                    try clear hf4
                    try clear c5
                    try clear c5b0
                    try clear c5b1
                    try clear p6
                    try clear c7
                    try clear c12
                    try clear c16
                    try clear c16b0
                    try clear c17
                    try clear c17b0
                    try clear c17b1
                    try clear c18
                    try clear c18b0
                    try clear c18b1
                    try clear c19
                    try clear p23
                    try clear q23
                    try clear hx23
                    try clear c24
                    try clear c24b0
                    try clear p24
                    try clear q24
                    try clear hx24
                    try clear c25
                    try clear c25b0
                    try clear c26
                    try clear c26b0
                    try clear p27
                    try clear q27
                    try clear hx27
                    try clear hf27
                    try clear c30
                    try clear c30b0
                    try clear c31
                    try clear c31b0
                    try clear c32
                    try clear c32b0
                    try clear c33
                    try clear c33b0
                    try clear c34
                    try clear c34b0
                    try clear c35
                    try clear c35b0
                    try clear c35b1
                    try clear c37
                    try clear c38
                    try clear c38b0
                    try clear c39
                    try clear c39b0
                    try clear p40
                    try clear q40
                    try clear hx40
                    try clear hf40
                    try clear c43
                    try clear c45
                    try clear c45b0
                    try clear c46
                    try clear hcz13_0
                    try clear hcz20_0
                    try clear hcz44_0
                    try clear hcz47_0
                    try clear hfz13_0
                    try clear hfz20_0
                    try clear hfz44_0
                    try clear hfz47_0
                    try clear hx238_0
                    try clear hx239_0
                    try clear hx242_0
                    try clear hx27_0
                    try clear hx40_0
                    try clear p2
                    try clear p23
                    try clear p238
                    try clear p239
                    try clear p24
                    try clear p242
                    try clear p27
                    try clear p4
                    try clear p40
                    try clear p6
                    try clear q2
                    try clear q23
                    try clear q238
                    try clear q239
                    try clear q24
                    try clear q242
                    try clear q27
                    try clear q4
                    try clear q40
                    obtain ⟨x10_3, x231000_3, u231000, rfl, HA, HK3, HO_4, HO_231000, BK223, BK230, HB⟩ := hrel
                    cases gk with
                    | zero => exact absurd HA.out (by simp [spec_l06Least.l4])
                    | succ k3 =>
                      have H := HA.out
                      clear HA
                      simp only [spec_l06Least.l4] at H
                      by_cases c49 : 0 ≤ x9_2
                      · rw [if_pos c49] at H
                        have c49b0 : decide (0 ≤ x9_2) = true := decide_eq_true c49
                        clear c49
                        by_cases c50 : x9_2 < (x231000_3.length : Int)
                        · rw [if_pos c50] at H
                          have c50b0 : decide (x9_2 < (x231000_3.length : Int)) = true := decide_eq_true c50
                          clear c50
                          replace H := Option.bind_eq_some_iff.mp H
                          obtain ⟨t254, A510, H⟩ := H
                          replace H : (if x10_3 < t254 then (if 0 ≤ x10_3 then (if x10_3 < 3 then (if 0 ≤ (rd [(rd_T89 x231000_3 x9_2).f2.f0, (rd_T89 x231000_3 x9_2).f2.f1, (rd_T89 x231000_3 x9_2).f2.f2] x10_3) then (if (rd [(rd_T89 x231000_3 x9_2).f2.f0, (rd_T89 x231000_3 x9_2).f2.f1, (rd_T89 x231000_3 x9_2).f2.f2] x10_3) < (x4_1.length : Int) then (spec_l06Least.l4 k3 x4_1 x9_2 (wrap64 (x10_3 + 1)) (x231000_3.set (x9_2 : Int).toNat (⟨(rd_T89 x231000_3 x9_2).f0, (rd_T89 x231000_3 x9_2).f1, (⟨(up 0 x10_3 (IntKind.i16.wrap (rd x4_1 (rd [(rd_T89 x231000_3 x9_2).f2.f0, (rd_T89 x231000_3 x9_2).f2.f1, (rd_T89 x231000_3 x9_2).f2.f2] x10_3))) ((rd_T89 x231000_3 x9_2).f2.f0)), (up 1 x10_3 (IntKind.i16.wrap (rd x4_1 (rd [(rd_T89 x231000_3 x9_2).f2.f0, (rd_T89 x231000_3 x9_2).f2.f1, (rd_T89 x231000_3 x9_2).f2.f2] x10_3))) ((rd_T89 x231000_3 x9_2).f2.f1)), (up 2 x10_3 (IntKind.i16.wrap (rd x4_1 (rd [(rd_T89 x231000_3 x9_2).f2.f0, (rd_T89 x231000_3 x9_2).f2.f1, (rd_T89 x231000_3 x9_2).f2.f2] x10_3))) ((rd_T89 x231000_3 x9_2).f2.f2))⟩ : S87)⟩ : S89))) else (none)) else (none)) else (none)) else (none)) else (spec_l06Least.l3 k3 x4_1 (wrap64 (x9_2 + 1)) x231000_3)) = some r := H
                          have A51 := Aside0.mk A510
                          clear A510
                          by_cases c52 : x10_3 < t254
                          · rw [if_pos c52] at H
                            have c52b0 : decide (x10_3 < t254) = true := decide_eq_true c52
                            clear c52
                            by_cases c53 : 0 ≤ x10_3
                            · rw [if_pos c53] at H
                              have c53b0 : decide (0 ≤ x10_3) = true := decide_eq_true c53
                              clear c53
                              by_cases c54 : x10_3 < 3
                              · rw [if_pos c54] at H
                                have c54b0 : decide (x10_3 < 3) = true := decide_eq_true c54
                                clear c54
                                by_cases c55 : 0 ≤ (rd [(rd_T89 x231000_3 x9_2).f2.f0, (rd_T89 x231000_3 x9_2).f2.f1, (rd_T89 x231000_3 x9_2).f2.f2] x10_3)
                                · rw [if_pos c55] at H
                                  have c55b0 : decide (0 ≤ (rd [(rd_T89 x231000_3 x9_2).f2.f0, (rd_T89 x231000_3 x9_2).f2.f1, (rd_T89 x231000_3 x9_2).f2.f2] x10_3)) = true := decide_eq_true c55
                                  clear c55
                                  by_cases c56 : (rd [(rd_T89 x231000_3 x9_2).f2.f0, (rd_T89 x231000_3 x9_2).f2.f1, (rd_T89 x231000_3 x9_2).f2.f2] x10_3) < (x4_1.length : Int)
                                  · rw [if_pos c56] at H
                                    have c56b0 : decide ((rd [(rd_T89 x231000_3 x9_2).f2.f0, (rd_T89 x231000_3 x9_2).f2.f1, (rd_T89 x231000_3 x9_2).f2.f2] x10_3) < (x4_1.length : Int)) = true := decide_eq_true c56
                                    clear c56
                                    obtain ⟨y259, hy259⟩ : ∃ y_ : List (S89), y_ = (x231000_3.set (x9_2 : Int).toNat (⟨(rd_T89 x231000_3 x9_2).f0, (rd_T89 x231000_3 x9_2).f1, (⟨(up 0 x10_3 (IntKind.i16.wrap (rd x4_1 (rd [(rd_T89 x231000_3 x9_2).f2.f0, (rd_T89 x231000_3 x9_2).f2.f1, (rd_T89 x231000_3 x9_2).f2.f2] x10_3))) ((rd_T89 x231000_3 x9_2).f2.f0)), (up 1 x10_3 (IntKind.i16.wrap (rd x4_1 (rd [(rd_T89 x231000_3 x9_2).f2.f0, (rd_T89 x231000_3 x9_2).f2.f1, (rd_T89 x231000_3 x9_2).f2.f2] x10_3))) ((rd_T89 x231000_3 x9_2).f2.f1)), (up 2 x10_3 (IntKind.i16.wrap (rd x4_1 (rd [(rd_T89 x231000_3 x9_2).f2.f0, (rd_T89 x231000_3 x9_2).f2.f1, (rd_T89 x231000_3 x9_2).f2.f2] x10_3))) ((rd_T89 x231000_3 x9_2).f2.f2))⟩ : S87)⟩ : S89)) := ⟨_, rfl⟩
                                    replace H : (spec_l06Least.l4 k3 x4_1 x9_2 (wrap64 (x10_3 + 1)) y259) = some r := by first | (rw [hy259]; with_reducible exact H) | (have H2_ := (Option.bind_some _ _).symm.trans H; rw [hy259]; with_reducible exact H2_) | (have H2_ := (Option.bind_some _ _).symm.trans H; with_reducible exact H2_) | with_reducible exact H | (rw [hy259]; exact H) | exact H
                                    have Ny259 := Aside0.mk hy259
                                    clear hy259
                                    have H' := Aside0.mk H
                                    clear H
                                    have hnb58 := NB230_223.out
                                    have hnc58 := NB223_230.out
                                    have hcz59_0 : wr.cell? ⟨gb230, 0, none⟩ = some (u231000) := (blk_cell BK230.out 0).trans rfl
                                    have hfz59_0 := blk_frozen BK230.out 0
                                    obtain ⟨Ao60, co60, eo60⟩ := Kd.R_slice HO_231000.out
                                    subst eo60
                                    have p252 : 0 ≤ (x9_2 : Int) := of_decide_eq_true (by first | (with_reducible assumption) | assumption)
                                    have q252 : x9_2 < (x231000_3.length : Int) := of_decide_eq_true (by first | (with_reducible assumption) | assumption)
                                    obtain ⟨ad252, e252, hx252_0, hx252_1, hx252_2, hx252_3, hx252_4⟩ := at_T89 (Kd.R_reads' HO_231000.out).2.2 x9_2 p252 q252
                                    cases e252
                                    replace p252 := eq_true p252
                                    replace q252 := eq_true q252
                                    go_upto_region 23 with (first | (go_at_call 68; (with_reducible refine (spec_l06Ways.calls _ ([rd_T89 x231000_3 x9_2]).length [rd_T89 x231000_3 x9_2] t254 _ ?side1 ?side2 A51.out).mono ?_); (case side1 => refine Kd.C_el k89 z89 ?_ (x9_2 : Int) (of_eq_true p252) (of_eq_true q252); repeat (first | exact (Kd.R_reads' HO_231000.out).2.2 | (with_reducible refine Kd.C_alloc ?_ _) | (with_reducible refine Kd.C_drewN ?_ _) | (with_reducible refine Kd.C_drew ?_))); (case side2 => exact Nat.le_refl _); rintro e w' ⟨rfl, ⟨nd, rfl⟩⟩; (try first | exact ⟨rfl, _, World.drewN_drewN _ _ _⟩ | exact ⟨rfl, _, Eq.trans (World.drewN_drewN _ _ _) (congrArg (World.drewN _) (Nat.add_assoc _ _ _))⟩)) | fail)
                                    generalize hq_ : World.drewN wr nd = wq
                                    have n0_ := Aside0.mk (Kd.R_at hq_ HO_4.out)
                                    have n1_ := Aside0.mk (Kd.R_at hq_ HO_231000.out)
                                    have n2_ := Aside0.mk (blk_at hq_ BK223.out)
                                    have n3_ := Aside0.mk (blk_at hq_ BK230.out)
                                    have n4_ := Aside0.mk (below_at hq_ HB.out)
                                    clear hq_ HO_4 HO_231000 BK223 BK230 HB
                                    have HO_4 := n0_
                                    have HO_231000 := n1_
                                    have BK223 := n2_
                                    have BK230 := n3_
                                    have HB := n4_
                                    clear n0_ n1_ n2_ n3_ n4_
                                    clear hcz59_0 hfz59_0 hx252_0 hx252_1 hx252_2 hx252_3 hx252_4
                                    have hcz59_0 : wq.cell? ⟨gb230, 0, none⟩ = some (.slice (some ad252) x231000_3.length co60) := (blk_cell BK230.out 0).trans rfl
                                    have p255 : 0 ≤ (x9_2 : Int) := of_decide_eq_true (by first | (with_reducible assumption) | assumption)
                                    have q255 : x9_2 < (x231000_3.length : Int) := of_decide_eq_true (by first | (with_reducible assumption) | assumption)
                                    obtain ⟨ad255, e255, hx255_0, hx255_1, hx255_2, hx255_3, hx255_4⟩ := at_T89 (Kd.R_reads' HO_231000.out).2.2 x9_2 p255 q255
                                    obtain rfl : ad252 = ad255 := (by injection e255)
                                    replace p255 := eq_true p255
                                    replace q255 := eq_true q255
                                    have p256 : 0 ≤ (x10_3 : Int) := of_decide_eq_true (by first | (with_reducible assumption) | assumption)
                                    have q256 : (x10_3 : Int) < 3 := of_decide_eq_true (by first | (with_reducible assumption) | assumption)
                                    have hx256_0 := cell_arr3 hx255_2 hx255_3 hx255_4 x10_3 p256 q256
                                    (try simp only [Nat.zero_add, Nat.add_zero] at hx256_0)
                                    replace p256 := eq_true p256
                                    replace q256 := eq_true q256
                                    obtain ⟨Ao61, co61, eo61⟩ := Kd.R_slice HO_4.out
                                    subst eo61
                                    have p257 : 0 ≤ ((rd [(rd_T89 x231000_3 x9_2).f2.f0, (rd_T89 x231000_3 x9_2).f2.f1, (rd_T89 x231000_3 x9_2).f2.f2] x10_3) : Int) := of_decide_eq_true (by first | (with_reducible assumption) | assumption)
                                    have q257 : (rd [(rd_T89 x231000_3 x9_2).f2.f0, (rd_T89 x231000_3 x9_2).f2.f1, (rd_T89 x231000_3 x9_2).f2.f2] x10_3) < (x4_1.length : Int) := of_decide_eq_true (by first | (with_reducible assumption) | assumption)
                                    obtain ⟨ad257, e257, hx257_0⟩ := Kd.at_int (Kd.R_reads' HO_4.out).2.2 (rd [(rd_T89 x231000_3 x9_2).f2.f0, (rd_T89 x231000_3 x9_2).f2.f1, (rd_T89 x231000_3 x9_2).f2.f2] x10_3) p257 q257
                                    cases e257
                                    replace p257 := eq_true p257
                                    replace q257 := eq_true q257
                                    have p57 : 0 ≤ (x9_2 : Int) := of_decide_eq_true (by first | (with_reducible assumption) | assumption)
                                    have q57 : (x9_2 : Int) < ((x231000_3.length : Int) : Int) := of_decide_eq_true (by first | (with_reducible assumption) | assumption)
                                    obtain ⟨go57, co57, eo57, gb57, gl57, cl57, HG57⟩ := Kd.R_form HO_231000.out (by omega)
                                    (first | cases eo57 | (injection eo57 with ea_ en_ ec_; (first | subst ea_ | (injection ea_ with ea_; subst ea_)); subst ec_; clear en_))
                                    have GB57 := Aside0.mk gb57
                                    have GG57 := Aside0.mk HG57
                                    clear gb57 gl57 HG57
                                    (first | simp only [add_plain] at hx255_0 | skip)
                                    (first | simp only [add_plain] at hx255_1 | skip)
                                    (first | simp only [add_plain] at hx255_2 | skip)
                                    (first | simp only [add_plain] at hx255_3 | skip)
                                    (first | simp only [add_plain] at hx255_4 | skip)
                                    obtain ⟨ce57, hcl57, hM57, hcc57, hfr57⟩ := Kd.R_elem HO_231000.out z89 (x9_2 : Int) p57 q57
                                    obtain rfl := k89_openM hM57
                                    have hx57_0 : wq.cell? ⟨go57, (x9_2 : Int).toNat * 5, none⟩ = some (.int .i8 ((rd_T89 x231000_3 x9_2).f0)) := hcc57 0 _ rfl
                                    have hx57_1 : wq.cell? ⟨go57, (x9_2 : Int).toNat * 5 + 1, none⟩ = some (.int .i8 ((rd_T89 x231000_3 x9_2).f1)) := hcc57 1 _ rfl
                                    have hx57_2 : wq.cell? ⟨go57, (x9_2 : Int).toNat * 5 + 2, none⟩ = some (.int .i16 ((rd_T89 x231000_3 x9_2).f2.f0)) := hcc57 2 _ rfl
                                    have hx57_3 : wq.cell? ⟨go57, (x9_2 : Int).toNat * 5 + 3, none⟩ = some (.int .i16 ((rd_T89 x231000_3 x9_2).f2.f1)) := hcc57 3 _ rfl
                                    have hx57_4 : wq.cell? ⟨go57, (x9_2 : Int).toNat * 5 + 4, none⟩ = some (.int .i16 ((rd_T89 x231000_3 x9_2).f2.f2)) := hcc57 4 _ rfl
                                    have hf57_0 : wq.frozen? ⟨go57, (x9_2 : Int).toNat * 5, none⟩ = false := hfr57 0
                                    have hf57_1 : wq.frozen? ⟨go57, (x9_2 : Int).toNat * 5 + 1, none⟩ = false := hfr57 1
                                    have hf57_2 : wq.frozen? ⟨go57, (x9_2 : Int).toNat * 5 + 2, none⟩ = false := hfr57 2
                                    have hf57_3 : wq.frozen? ⟨go57, (x9_2 : Int).toNat * 5 + 3, none⟩ = false := hfr57 3
                                    have hf57_4 : wq.frozen? ⟨go57, (x9_2 : Int).toNat * 5 + 4, none⟩ = false := hfr57 4
                                    clear hcl57 hcc57 hfr57 hM57
                                    replace p57 := eq_true p57
                                    replace q57 := eq_true q57
                                    have p258 : 0 ≤ (x10_3 : Int) := of_decide_eq_true (by first | (with_reducible assumption) | assumption)
                                    have q258 : (x10_3 : Int) < 3 := of_decide_eq_true (by first | (with_reducible assumption) | assumption)
                                    have hcs258 := Aside0.mk (show (x10_3 : Int) = 0 ∨ (x10_3 : Int) = 1 ∨ (x10_3 : Int) = 2 by omega)
                                    replace p258 := eq_true p258
                                    replace q258 := eq_true q258
                                    have HX62 := Aside0.mk (show Kd.R k89 89 wq w.heap.size (fun _ => True) (.slice (some ⟨go57, 0, none⟩) x231000_3.length co60) x231000_3 from (by (with_reducible repeat (first | apply Kd.R_alloc | apply Kd.R_drewN | apply Kd.R_drew)); exact HO_231000.out))
                                    obtain ⟨ce62, hcl62, hM62, hcc62, hfr62⟩ := Kd.R_elem HX62.out z89 (x9_2 : Int) (of_decide_eq_true (by first | (with_reducible assumption) | assumption)) (by have h_ : (x9_2 : Int) < ((x231000_3.length : Int) : Int) := of_decide_eq_true (by first | (with_reducible assumption) | assumption); first | exact h_ | (have e_ := (Kd.R_reads' HO_231000.out).1; omega) | simpa using h_)
                                    obtain rfl := k89_openM hM62
                                    have HP62 := Kd.R_seg HX62.out (x9_2 : Int) (of_decide_eq_true (by first | (with_reducible assumption) | assumption)) (by have h_ : (x9_2 : Int) < ((x231000_3.length : Int) : Int) := of_decide_eq_true (by first | (with_reducible assumption) | assumption); first | exact h_ | (have e_ := (Kd.R_reads' HO_231000.out).1; omega) | simpa using h_) (seg := [.int .i16 (IntKind.i16.wrap (rd x4_1 (rd [(rd_T89 x231000_3 x9_2).f2.f0, (rd_T89 x231000_3 x9_2).f2.f1, (rd_T89 x231000_3 x9_2).f2.f2] x10_3)))]) (j := 2 + (x10_3 : Int).toNat) hcl62 hcc62 (show 2 + (x10_3 : Int).toNat + 1 ≤ 5 from by have h_ := of_eq_true q258; omega) (x' := (⟨(rd_T89 x231000_3 x9_2).f0, (rd_T89 x231000_3 x9_2).f1, (⟨(up 0 x10_3 (IntKind.i16.wrap (rd x4_1 (rd [(rd_T89 x231000_3 x9_2).f2.f0, (rd_T89 x231000_3 x9_2).f2.f1, (rd_T89 x231000_3 x9_2).f2.f2] x10_3))) ((rd_T89 x231000_3 x9_2).f2.f0)), (up 1 x10_3 (IntKind.i16.wrap (rd x4_1 (rd [(rd_T89 x231000_3 x9_2).f2.f0, (rd_T89 x231000_3 x9_2).f2.f1, (rd_T89 x231000_3 x9_2).f2.f2] x10_3))) ((rd_T89 x231000_3 x9_2).f2.f1)), (up 2 x10_3 (IntKind.i16.wrap (rd x4_1 (rd [(rd_T89 x231000_3 x9_2).f2.f0, (rd_T89 x231000_3 x9_2).f2.f1, (rd_T89 x231000_3 x9_2).f2.f2] x10_3))) ((rd_T89 x231000_3 x9_2).f2.f2))⟩ : S87)⟩ : S89)) (by rcases hcs258.out with h_ | h_ | h_ <;> rw [h_] <;> exact (k89_mkM _ _ _ _ )) (fun _ hk => hk)
                                    have hx62_0 : wq.cell? ⟨go57, (x9_2 : Int).toNat * 5 + 2 + (x10_3 : Int).toNat, none⟩ = some (.int .i16 (rd [(rd_T89 x231000_3 x9_2).f2.f0, (rd_T89 x231000_3 x9_2).f2.f1, (rd_T89 x231000_3 x9_2).f2.f2] x10_3)) := cell_arr3 (hcc62 2 _ rfl) (hcc62 3 _ rfl) (hcc62 4 _ rfl) x10_3 (of_eq_true p258) (of_eq_true q258)
                                    have hf62_0 : wq.frozen? ⟨go57, (x9_2 : Int).toNat * 5 + 2 + (x10_3 : Int).toNat, none⟩ = false := (by have h_ := hfr62 (2 + (x10_3 : Int).toNat); rw [← Nat.add_assoc] at h_; exact h_)
                                    (try rw [← Nat.add_assoc] at HP62)
                                    clear hcl62 hcc62 hfr62 hM62
                                    go_region
                                    obtain ⟨w63, hw⟩ : ∃ w63, w63 = wq.setCell ⟨go57, (x9_2 : Int).toNat * 5 + 2 + (x10_3 : Int).toNat, none⟩ (.int .i16 (IntKind.i16.wrap (rd x4_1 (rd [(rd_T89 x231000_3 x9_2).f2.f0, (rd_T89 x231000_3 x9_2).f2.f1, (rd_T89 x231000_3 x9_2).f2.f2] x10_3)))) := ⟨_, rfl⟩
                                    rw [← hw]
                                    have hg : wq.grownBy w63 (some go57) := (by rw [hw]; exact HP62.2)
                                    have hp_ : Kd.R k89 89 w63 w.heap.size (fun _ => True) (.slice (some ⟨go57, 0, none⟩) x231000_3.length co60) y259 := (by rw [hw, Ny259.out]; exact HP62.1)
                                    clear HP62
                                    have n0_ := Aside0.mk (Kd.R_over' (v := (.slice (some ⟨go57, 0, none⟩) x231000_3.length co60)) (by (with_reducible repeat (first | apply Kd.R_alloc | apply Kd.R_drewN | apply Kd.R_drew)); exact HO_4.out) (Kd.R_typed HO_231000.out) (by decide) hg)
                                    have n1_ := Aside0.mk (hp_)
                                    have n2_ := Aside0.mk (blk_grown (g := gb223) (o := .cells #[.slice none 0 0] 34 (0, 0)) (by (with_reducible repeat (first | refine blk_drewN ?_ _ | refine blk_drew ?_ | refine blk_alloc ?_ _)); exact BK223.out) hg (Kd.R_ne HO_231000.out BK223.out (by decide)))
                                    have n3_ := Aside0.mk (blk_grown (g := gb230) (o := .cells #[.slice (some ⟨go57, 0, none⟩) x231000_3.length co60] 34 (0, 0)) (by (with_reducible repeat (first | refine blk_drewN ?_ _ | refine blk_drew ?_ | refine blk_alloc ?_ _)); exact BK230.out) hg (Kd.R_ne HO_231000.out BK230.out (by decide)))
                                    have n4_ := Aside0.mk ((by rw [hw]; exact below_set (HB.out) GB57.out : Below w.heap.size w w63))
                                    clear HO_4
                                    clear HO_231000
                                    clear BK223
                                    clear BK230
                                    clear HB
                                    have HO_4 := n0_
                                    have HO_231000 := n1_
                                    have BK223 := n2_
                                    have BK230 := n3_
                                    have HB := n4_
                                    clear n0_ n1_ n2_ n3_ n4_
                                    clear hg hp_
                                    clear hw
                                    go_wp2
                                    go_roundg k3
                                    case measure => have := HK1.out; have := HK2.out; have := HK3.out; omega
                                    case rel => exact ⟨(wrap64 (x10_3 + 1)), (y259), (.slice (some ⟨go57, 0, none⟩) x231000_3.length co60), (by first | rfl | (simp; done) | (simp [*]; done) | (simp [isE_]; done)), H', ⟨by have := HK1.out; have := HK2.out; have := HK3.out; omega⟩, ⟨by (with_reducible repeat (first | apply Kd.R_alloc | apply Kd.R_drewN | apply Kd.R_drew)); exact HO_4.out⟩, ⟨by (with_reducible repeat (first | apply Kd.R_alloc | apply Kd.R_drewN | apply Kd.R_drew)); exact HO_231000.out⟩, ⟨by (with_reducible repeat (first | refine blk_drewN ?_ _ | refine blk_drew ?_ | refine blk_alloc ?_ _)); exact BK223.out⟩, ⟨by (with_reducible repeat (first | refine blk_drewN ?_ _ | refine blk_drew ?_ | refine blk_alloc ?_ _)); exact BK230.out⟩, ⟨by repeat (first | (with_reducible first | exact HB.out | apply below_alloc | apply pw_below_drewN | apply below_drew1 | refine below_set ?_ GE223.out | refine below_set ?_ GE230.out) | exact HB.out)⟩⟩
                                  · rw [if_neg c56] at H
                                    exact absurd H (by simp)
                                · rw [if_neg c55] at H
                                  exact absurd H (by simp)
                              · rw [if_neg c54] at H
                                exact absurd H (by simp)
                            · rw [if_neg c53] at H
                              exact absurd H (by simp)
                          · rw [if_neg c52] at H
                            have c52b0 : decide (x10_3 < t254) = false := decide_eq_false c52
                            clear c52
                            have H' := Aside0.mk H
                            clear H
                            have hnb64 := NB230_223.out
                            have hnc64 := NB223_230.out
                            have hcz65_0 : wr.cell? ⟨gb230, 0, none⟩ = some (u231000) := (blk_cell BK230.out 0).trans rfl
                            have hfz65_0 := blk_frozen BK230.out 0
                            obtain ⟨Ao66, co66, eo66⟩ := Kd.R_slice HO_231000.out
                            subst eo66
                            have p252 : 0 ≤ (x9_2 : Int) := of_decide_eq_true (by first | (with_reducible assumption) | assumption)
                            have q252 : x9_2 < (x231000_3.length : Int) := of_decide_eq_true (by first | (with_reducible assumption) | assumption)
                            obtain ⟨ad252, e252, hx252_0, hx252_1, hx252_2, hx252_3, hx252_4⟩ := at_T89 (Kd.R_reads' HO_231000.out).2.2 x9_2 p252 q252
                            cases e252
                            replace p252 := eq_true p252
                            replace q252 := eq_true q252
                            go_wp2_with (first | (go_at_call 68; (with_reducible refine (spec_l06Ways.calls _ ([rd_T89 x231000_3 x9_2]).length [rd_T89 x231000_3 x9_2] t254 _ ?side1 ?side2 A51.out).mono ?_); (case side1 => refine Kd.C_el k89 z89 ?_ (x9_2 : Int) (of_eq_true p252) (of_eq_true q252); repeat (first | exact (Kd.R_reads' HO_231000.out).2.2 | (with_reducible refine Kd.C_alloc ?_ _) | (with_reducible refine Kd.C_drewN ?_ _) | (with_reducible refine Kd.C_drew ?_))); (case side2 => exact Nat.le_refl _); rintro e w' ⟨rfl, ⟨nd, rfl⟩⟩; (try first | exact ⟨rfl, _, World.drewN_drewN _ _ _⟩ | exact ⟨rfl, _, Eq.trans (World.drewN_drewN _ _ _) (congrArg (World.drewN _) (Nat.add_assoc _ _ _))⟩)))
                            repeat (go_quiet (first | (go_at_call 68; (with_reducible refine (spec_l06Ways.calls _ ([rd_T89 x231000_3 x9_2]).length [rd_T89 x231000_3 x9_2] t254 _ ?side1 ?side2 A51.out).mono ?_); (case side1 => refine Kd.C_el k89 z89 ?_ (x9_2 : Int) (of_eq_true p252) (of_eq_true q252); repeat (first | exact (Kd.R_reads' HO_231000.out).2.2 | (with_reducible refine Kd.C_alloc ?_ _) | (with_reducible refine Kd.C_drewN ?_ _) | (with_reducible refine Kd.C_drew ?_))); (case side2 => exact Nat.le_refl _); rintro e w' ⟨rfl, ⟨nd, rfl⟩⟩; (try first | exact ⟨rfl, _, World.drewN_drewN _ _ _⟩ | exact ⟨rfl, _, Eq.trans (World.drewN_drewN _ _ _) (congrArg (World.drewN _) (Nat.add_assoc _ _ _))⟩))); try go_wp2_with (first | (go_at_call 68; (with_reducible refine (spec_l06Ways.calls _ ([rd_T89 x231000_3 x9_2]).length [rd_T89 x231000_3 x9_2] t254 _ ?side1 ?side2 A51.out).mono ?_); (case side1 => refine Kd.C_el k89 z89 ?_ (x9_2 : Int) (of_eq_true p252) (of_eq_true q252); repeat (first | exact (Kd.R_reads' HO_231000.out).2.2 | (with_reducible refine Kd.C_alloc ?_ _) | (with_reducible refine Kd.C_drewN ?_ _) | (with_reducible refine Kd.C_drew ?_))); (case side2 => exact Nat.le_refl _); rintro e w' ⟨rfl, ⟨nd, rfl⟩⟩; (try first | exact ⟨rfl, _, World.drewN_drewN _ _ _⟩ | exact ⟨rfl, _, Eq.trans (World.drewN_drewN _ _ _) (congrArg (World.drewN _) (Nat.add_assoc _ _ _))⟩))))
                            go_roundg k3
                            case measure => have := HK1.out; have := HK2.out; have := HK3.out; omega
                            case rel => exact ⟨(wrap64 (x9_2 + 1)), (x231000_3), (.slice (some ad252) x231000_3.length co66), (by first | rfl | (simp; done) | (simp [*]; done) | (simp [isE_]; done)), H', ⟨by have := HK1.out; have := HK2.out; have := HK3.out; omega⟩, ⟨by (with_reducible repeat (first | apply Kd.R_alloc | apply Kd.R_drewN | apply Kd.R_drew)); exact HO_4.out⟩, ⟨by (with_reducible repeat (first | apply Kd.R_alloc | apply Kd.R_drewN | apply Kd.R_drew)); exact HO_231000.out⟩, ⟨by (with_reducible repeat (first | refine blk_drewN ?_ _ | refine blk_drew ?_ | refine blk_alloc ?_ _)); exact BK223.out⟩, ⟨by (with_reducible repeat (first | refine blk_drewN ?_ _ | refine blk_drew ?_ | refine blk_alloc ?_ _)); exact BK230.out⟩, ⟨by repeat (first | (with_reducible first | exact HB.out | apply below_alloc | apply pw_below_drewN | apply below_drew1 | refine below_set ?_ GE223.out | refine below_set ?_ GE230.out) | exact HB.out)⟩⟩
                        · rw [if_neg c50] at H
                          exact absurd H (by simp)
                      · rw [if_neg c49] at H
                        exact absurd H (by simp)
                · rw [if_neg c45] at H
                  have c45b0 : decide (x9_2 < (x231000_2.length : Int)) = false := decide_eq_false c45
                  clear c45
                  replace H := Option.bind_eq_some_iff.mp H
                  obtain ⟨t245, A670, H⟩ := H
                  replace H : ((spec_l06Tree.f k2 [(⟨x231000_2⟩ : S34)] t245).bind fun t249 => (some t249)) = some r := H
                  have A67 := Aside0.mk A670
                  clear A670
                  replace H := Option.bind_eq_some_iff.mp H
                  obtain ⟨t249, A680, H⟩ := H
                  replace H : (some t249) = some r := H
                  have A68 := Aside0.mk A680
                  clear A680
                  obtain rfl := Option.some.inj H
                  have hnb69 := NB230_223.out
                  have hnc69 := NB223_230.out
                  have hcz70_0 : wr.cell? ⟨gb230, 0, none⟩ = some (u231000) := (blk_cell BK230.out 0).trans rfl
                  have hfz70_0 := blk_frozen BK230.out 0
                  obtain ⟨Ao71, co71, eo71⟩ := Kd.R_slice HO_231000.out
                  subst eo71
                  go_wp2_with (first | (go_at_call 95; (with_reducible refine (spec_l06Reached.calls k2 _ ([(⟨x231000_2⟩ : S34)]).length [(⟨x231000_2⟩ : S34)] t245 _ ?side1 ?side2 A67.out).mono ?_); (case side1 => refine Kd.C_block k34 (g := gb230) (cs := #[.slice Ao71 x231000_2.length co71]) (T := 34) (by (with_reducible repeat (first | refine blk_drewN ?_ _ | refine blk_drew ?_ | refine blk_alloc ?_ _)); exact BK230.out) (show Kd.K k34 _ (⟨x231000_2⟩ : S34) [.slice Ao71 x231000_2.length co71] from k34_mk _ _ (by exact (Kd.R_reads' HO_231000.out).2.1) (by repeat (first | exact (Kd.R_reads' HO_231000.out).2.2 | (with_reducible refine Kd.C_alloc ?_ _) | (with_reducible refine Kd.C_drewN ?_ _) | (with_reducible refine Kd.C_drew ?_)))) (by decide)); (case side2 => exact Nat.le_refl _); rintro e w72 ⟨v246, rfl, ho0, hb⟩; have n0_ := Aside0.mk (Kd.R_below (by (with_reducible repeat (first | apply Kd.R_alloc | apply Kd.R_drewN | apply Kd.R_drew)); exact HO_4.out) hb); have n1_ := Aside0.mk (Kd.R_below (by (with_reducible repeat (first | apply Kd.R_alloc | apply Kd.R_drewN | apply Kd.R_drew)); exact HO_231000.out) hb); have n2_ := Aside0.mk (Kd.R_lower ho0 (below_size (by repeat (first | (with_reducible first | exact HB.out | apply below_alloc | apply pw_below_drewN | apply below_drew1 | refine below_set ?_ GE223.out | refine below_set ?_ GE230.out) | exact HB.out)))); have n3_ := Aside0.mk (blk_below (g := gb223) (o := .cells #[.slice none 0 0] 34 (0, 0)) (by (with_reducible repeat (first | refine blk_drewN ?_ _ | refine blk_drew ?_ | refine blk_alloc ?_ _)); exact BK223.out) hb); have n4_ := Aside0.mk (blk_below (g := gb230) (o := .cells #[.slice Ao71 x231000_2.length co71] 34 (0, 0)) (by (with_reducible repeat (first | refine blk_drewN ?_ _ | refine blk_drew ?_ | refine blk_alloc ?_ _)); exact BK230.out) hb); have n5_ := Aside0.mk (below_step (by repeat (first | (with_reducible first | exact HB.out | apply below_alloc | apply pw_below_drewN | apply below_drew1 | refine below_set ?_ GE223.out | refine below_set ?_ GE230.out) | exact HB.out)) hb); clear HO_4; clear HO_231000; clear BK223; clear BK230; clear HB; have HO_4 := n0_; have HO_231000 := n1_; have HO247 := n2_; have BK223 := n3_; have BK230 := n4_; have HB := n5_; clear n0_ n1_ n2_ n3_ n4_ n5_; (try clear hb); (try clear hb2); (try clear hk); (try clear hi); (try clear ho0); obtain ⟨Ao73, co73, eo73⟩ := Kd.R_slice HO247.out; subst eo73) | (go_at_call 96; (with_reducible refine (spec_l06Tree.calls k2 _ ([(⟨x231000_2⟩ : S34)]).length [(⟨x231000_2⟩ : S34)] _ _ t245 t249 _ ?side1 ?side2 ?side3 ?side4 A68.out).mono ?_); (case side1 => refine Kd.C_block k34 (g := gb230) (cs := #[.slice Ao71 x231000_2.length co71]) (T := 34) (by (with_reducible repeat (first | refine blk_drewN ?_ _ | refine blk_drew ?_ | refine blk_alloc ?_ _)); exact BK230.out) (show Kd.K k34 _ (⟨x231000_2⟩ : S34) [.slice Ao71 x231000_2.length co71] from k34_mk _ _ (by exact (Kd.R_reads' HO_231000.out).2.1) (by repeat (first | exact (Kd.R_reads' HO_231000.out).2.2 | (with_reducible refine Kd.C_alloc ?_ _) | (with_reducible refine Kd.C_drewN ?_ _) | (with_reducible refine Kd.C_drew ?_)))) (by decide)); (case side2 => exact Nat.le_refl _); (case side3 => repeat (first | exact (Kd.R_reads' HO247.out).2.2 | (with_reducible refine Kd.C_alloc ?_ _) | (with_reducible refine Kd.C_drewN ?_ _) | (with_reducible refine Kd.C_drew ?_))); (case side4 => exact (Kd.R_reads' HO247.out).2.1); rintro e w74 ⟨v250, rfl, ho0, hb⟩; have n0_ := Aside0.mk (Kd.R_below (by (with_reducible repeat (first | apply Kd.R_alloc | apply Kd.R_drewN | apply Kd.R_drew)); exact HO_4.out) hb); have n1_ := Aside0.mk (Kd.R_elder' (by (with_reducible repeat (first | apply Kd.R_alloc | apply Kd.R_drewN | apply Kd.R_drew)); exact HO_231000.out) (Kd.R_base ho0) hb); have n2_ := Aside0.mk (Kd.R_below (by (with_reducible repeat (first | apply Kd.R_alloc | apply Kd.R_drewN | apply Kd.R_drew)); exact HO247.out) hb); have n3_ := Aside0.mk (Kd.R_lower (Kd.R_new' ho0 (Kd.R_lt (by (with_reducible repeat (first | apply Kd.R_alloc | apply Kd.R_drewN | apply Kd.R_drew)); exact HO_231000.out))) (below_size (by repeat (first | (with_reducible first | exact HB.out | apply below_alloc | apply pw_below_drewN | apply below_drew1 | refine below_set ?_ GE223.out | refine below_set ?_ GE230.out) | exact HB.out)))); have n4_ := Aside0.mk (blk_below (g := gb223) (o := .cells #[.slice none 0 0] 34 (0, 0)) (by (with_reducible repeat (first | refine blk_drewN ?_ _ | refine blk_drew ?_ | refine blk_alloc ?_ _)); exact BK223.out) hb); have n5_ := Aside0.mk (blk_below (g := gb230) (o := .cells #[.slice Ao71 x231000_2.length co71] 34 (0, 0)) (by (with_reducible repeat (first | refine blk_drewN ?_ _ | refine blk_drew ?_ | refine blk_alloc ?_ _)); exact BK230.out) hb); have n6_ := Aside0.mk (below_step (by repeat (first | (with_reducible first | exact HB.out | apply below_alloc | apply pw_below_drewN | apply below_drew1 | refine below_set ?_ GE223.out | refine below_set ?_ GE230.out) | exact HB.out)) hb); clear HO_4; clear HO_231000; clear HO247; clear BK223; clear BK230; clear HB; have HO_4 := n0_; have HO_231000 := n1_; have HO247 := n2_; have HO251 := n3_; have BK223 := n4_; have BK230 := n5_; have HB := n6_; clear n0_ n1_ n2_ n3_ n4_ n5_ n6_; (try clear hb); (try clear hb2); (try clear hk); (try clear hi); (try clear ho0); obtain ⟨Ao75, co75, eo75⟩ := Kd.R_slice HO251.out; subst eo75; have hcz76_0 : w74.cell? ⟨gb223, 0, none⟩ = some (.slice none 0 0) := (blk_cell BK223.out 0).trans rfl; have hfz76_0 := blk_frozen BK223.out 0))
                  repeat (go_quiet (first | (go_at_call 95; (with_reducible refine (spec_l06Reached.calls k2 _ ([(⟨x231000_2⟩ : S34)]).length [(⟨x231000_2⟩ : S34)] t245 _ ?side1 ?side2 A67.out).mono ?_); (case side1 => refine Kd.C_block k34 (g := gb230) (cs := #[.slice Ao71 x231000_2.length co71]) (T := 34) (by (with_reducible repeat (first | refine blk_drewN ?_ _ | refine blk_drew ?_ | refine blk_alloc ?_ _)); exact BK230.out) (show Kd.K k34 _ (⟨x231000_2⟩ : S34) [.slice Ao71 x231000_2.length co71] from k34_mk _ _ (by exact (Kd.R_reads' HO_231000.out).2.1) (by repeat (first | exact (Kd.R_reads' HO_231000.out).2.2 | (with_reducible refine Kd.C_alloc ?_ _) | (with_reducible refine Kd.C_drewN ?_ _) | (with_reducible refine Kd.C_drew ?_)))) (by decide)); (case side2 => exact Nat.le_refl _); rintro e w72 ⟨v246, rfl, ho0, hb⟩; have n0_ := Aside0.mk (Kd.R_below (by (with_reducible repeat (first | apply Kd.R_alloc | apply Kd.R_drewN | apply Kd.R_drew)); exact HO_4.out) hb); have n1_ := Aside0.mk (Kd.R_below (by (with_reducible repeat (first | apply Kd.R_alloc | apply Kd.R_drewN | apply Kd.R_drew)); exact HO_231000.out) hb); have n2_ := Aside0.mk (Kd.R_lower ho0 (below_size (by repeat (first | (with_reducible first | exact HB.out | apply below_alloc | apply pw_below_drewN | apply below_drew1 | refine below_set ?_ GE223.out | refine below_set ?_ GE230.out) | exact HB.out)))); have n3_ := Aside0.mk (blk_below (g := gb223) (o := .cells #[.slice none 0 0] 34 (0, 0)) (by (with_reducible repeat (first | refine blk_drewN ?_ _ | refine blk_drew ?_ | refine blk_alloc ?_ _)); exact BK223.out) hb); have n4_ := Aside0.mk (blk_below (g := gb230) (o := .cells #[.slice Ao71 x231000_2.length co71] 34 (0, 0)) (by (with_reducible repeat (first | refine blk_drewN ?_ _ | refine blk_drew ?_ | refine blk_alloc ?_ _)); exact BK230.out) hb); have n5_ := Aside0.mk (below_step (by repeat (first | (with_reducible first | exact HB.out | apply below_alloc | apply pw_below_drewN | apply below_drew1 | refine below_set ?_ GE223.out | refine below_set ?_ GE230.out) | exact HB.out)) hb); clear HO_4; clear HO_231000; clear BK223; clear BK230; clear HB; have HO_4 := n0_; have HO_231000 := n1_; have HO247 := n2_; have BK223 := n3_; have BK230 := n4_; have HB := n5_; clear n0_ n1_ n2_ n3_ n4_ n5_; (try clear hb); (try clear hb2); (try clear hk); (try clear hi); (try clear ho0); obtain ⟨Ao73, co73, eo73⟩ := Kd.R_slice HO247.out; subst eo73) | (go_at_call 96; (with_reducible refine (spec_l06Tree.calls k2 _ ([(⟨x231000_2⟩ : S34)]).length [(⟨x231000_2⟩ : S34)] _ _ t245 t249 _ ?side1 ?side2 ?side3 ?side4 A68.out).mono ?_); (case side1 => refine Kd.C_block k34 (g := gb230) (cs := #[.slice Ao71 x231000_2.length co71]) (T := 34) (by (with_reducible repeat (first | refine blk_drewN ?_ _ | refine blk_drew ?_ | refine blk_alloc ?_ _)); exact BK230.out) (show Kd.K k34 _ (⟨x231000_2⟩ : S34) [.slice Ao71 x231000_2.length co71] from k34_mk _ _ (by exact (Kd.R_reads' HO_231000.out).2.1) (by repeat (first | exact (Kd.R_reads' HO_231000.out).2.2 | (with_reducible refine Kd.C_alloc ?_ _) | (with_reducible refine Kd.C_drewN ?_ _) | (with_reducible refine Kd.C_drew ?_)))) (by decide)); (case side2 => exact Nat.le_refl _); (case side3 => repeat (first | exact (Kd.R_reads' HO247.out).2.2 | (with_reducible refine Kd.C_alloc ?_ _) | (with_reducible refine Kd.C_drewN ?_ _) | (with_reducible refine Kd.C_drew ?_))); (case side4 => exact (Kd.R_reads' HO247.out).2.1); rintro e w74 ⟨v250, rfl, ho0, hb⟩; have n0_ := Aside0.mk (Kd.R_below (by (with_reducible repeat (first | apply Kd.R_alloc | apply Kd.R_drewN | apply Kd.R_drew)); exact HO_4.out) hb); have n1_ := Aside0.mk (Kd.R_elder' (by (with_reducible repeat (first | apply Kd.R_alloc | apply Kd.R_drewN | apply Kd.R_drew)); exact HO_231000.out) (Kd.R_base ho0) hb); have n2_ := Aside0.mk (Kd.R_below (by (with_reducible repeat (first | apply Kd.R_alloc | apply Kd.R_drewN | apply Kd.R_drew)); exact HO247.out) hb); have n3_ := Aside0.mk (Kd.R_lower (Kd.R_new' ho0 (Kd.R_lt (by (with_reducible repeat (first | apply Kd.R_alloc | apply Kd.R_drewN | apply Kd.R_drew)); exact HO_231000.out))) (below_size (by repeat (first | (with_reducible first | exact HB.out | apply below_alloc | apply pw_below_drewN | apply below_drew1 | refine below_set ?_ GE223.out | refine below_set ?_ GE230.out) | exact HB.out)))); have n4_ := Aside0.mk (blk_below (g := gb223) (o := .cells #[.slice none 0 0] 34 (0, 0)) (by (with_reducible repeat (first | refine blk_drewN ?_ _ | refine blk_drew ?_ | refine blk_alloc ?_ _)); exact BK223.out) hb); have n5_ := Aside0.mk (blk_below (g := gb230) (o := .cells #[.slice Ao71 x231000_2.length co71] 34 (0, 0)) (by (with_reducible repeat (first | refine blk_drewN ?_ _ | refine blk_drew ?_ | refine blk_alloc ?_ _)); exact BK230.out) hb); have n6_ := Aside0.mk (below_step (by repeat (first | (with_reducible first | exact HB.out | apply below_alloc | apply pw_below_drewN | apply below_drew1 | refine below_set ?_ GE223.out | refine below_set ?_ GE230.out) | exact HB.out)) hb); clear HO_4; clear HO_231000; clear HO247; clear BK223; clear BK230; clear HB; have HO_4 := n0_; have HO_231000 := n1_; have HO247 := n2_; have HO251 := n3_; have BK223 := n4_; have BK230 := n5_; have HB := n6_; clear n0_ n1_ n2_ n3_ n4_ n5_ n6_; (try clear hb); (try clear hb2); (try clear hk); (try clear hi); (try clear ho0); obtain ⟨Ao75, co75, eo75⟩ := Kd.R_slice HO251.out; subst eo75; have hcz76_0 : w74.cell? ⟨gb223, 0, none⟩ = some (.slice none 0 0) := (blk_cell BK223.out 0).trans rfl; have hfz76_0 := blk_frozen BK223.out 0)); try go_wp2_with (first | (go_at_call 95; (with_reducible refine (spec_l06Reached.calls k2 _ ([(⟨x231000_2⟩ : S34)]).length [(⟨x231000_2⟩ : S34)] t245 _ ?side1 ?side2 A67.out).mono ?_); (case side1 => refine Kd.C_block k34 (g := gb230) (cs := #[.slice Ao71 x231000_2.length co71]) (T := 34) (by (with_reducible repeat (first | refine blk_drewN ?_ _ | refine blk_drew ?_ | refine blk_alloc ?_ _)); exact BK230.out) (show Kd.K k34 _ (⟨x231000_2⟩ : S34) [.slice Ao71 x231000_2.length co71] from k34_mk _ _ (by exact (Kd.R_reads' HO_231000.out).2.1) (by repeat (first | exact (Kd.R_reads' HO_231000.out).2.2 | (with_reducible refine Kd.C_alloc ?_ _) | (with_reducible refine Kd.C_drewN ?_ _) | (with_reducible refine Kd.C_drew ?_)))) (by decide)); (case side2 => exact Nat.le_refl _); rintro e w72 ⟨v246, rfl, ho0, hb⟩; have n0_ := Aside0.mk (Kd.R_below (by (with_reducible repeat (first | apply Kd.R_alloc | apply Kd.R_drewN | apply Kd.R_drew)); exact HO_4.out) hb); have n1_ := Aside0.mk (Kd.R_below (by (with_reducible repeat (first | apply Kd.R_alloc | apply Kd.R_drewN | apply Kd.R_drew)); exact HO_231000.out) hb); have n2_ := Aside0.mk (Kd.R_lower ho0 (below_size (by repeat (first | (with_reducible first | exact HB.out | apply below_alloc | apply pw_below_drewN | apply below_drew1 | refine below_set ?_ GE223.out | refine below_set ?_ GE230.out) | exact HB.out)))); have n3_ := Aside0.mk (blk_below (g := gb223) (o := .cells #[.slice none 0 0] 34 (0, 0)) (by (with_reducible repeat (first | refine blk_drewN ?_ _ | refine blk_drew ?_ | refine blk_alloc ?_ _)); exact BK223.out) hb); have n4_ := Aside0.mk (blk_below (g := gb230) (o := .cells #[.slice Ao71 x231000_2.length co71] 34 (0, 0)) (by (with_reducible repeat (first | refine blk_drewN ?_ _ | refine blk_drew ?_ | refine blk_alloc ?_ _)); exact BK230.out) hb); have n5_ := Aside0.mk (below_step (by repeat (first | (with_reducible first | exact HB.out | apply below_alloc | apply pw_below_drewN | apply below_drew1 | refine below_set ?_ GE223.out | refine below_set ?_ GE230.out) | exact HB.out)) hb); clear HO_4; clear HO_231000; clear BK223; clear BK230; clear HB; have HO_4 := n0_; have HO_231000 := n1_; have HO247 := n2_; have BK223 := n3_; have BK230 := n4_; have HB := n5_; clear n0_ n1_ n2_ n3_ n4_ n5_; (try clear hb); (try clear hb2); (try clear hk); (try clear hi); (try clear ho0); obtain ⟨Ao73, co73, eo73⟩ := Kd.R_slice HO247.out; subst eo73) | (go_at_call 96; (with_reducible refine (spec_l06Tree.calls k2 _ ([(⟨x231000_2⟩ : S34)]).length [(⟨x231000_2⟩ : S34)] _ _ t245 t249 _ ?side1 ?side2 ?side3 ?side4 A68.out).mono ?_); (case side1 => refine Kd.C_block k34 (g := gb230) (cs := #[.slice Ao71 x231000_2.length co71]) (T := 34) (by (with_reducible repeat (first | refine blk_drewN ?_ _ | refine blk_drew ?_ | refine blk_alloc ?_ _)); exact BK230.out) (show Kd.K k34 _ (⟨x231000_2⟩ : S34) [.slice Ao71 x231000_2.length co71] from k34_mk _ _ (by exact (Kd.R_reads' HO_231000.out).2.1) (by repeat (first | exact (Kd.R_reads' HO_231000.out).2.2 | (with_reducible refine Kd.C_alloc ?_ _) | (with_reducible refine Kd.C_drewN ?_ _) | (with_reducible refine Kd.C_drew ?_)))) (by decide)); (case side2 => exact Nat.le_refl _); (case side3 => repeat (first | exact (Kd.R_reads' HO247.out).2.2 | (with_reducible refine Kd.C_alloc ?_ _) | (with_reducible refine Kd.C_drewN ?_ _) | (with_reducible refine Kd.C_drew ?_))); (case side4 => exact (Kd.R_reads' HO247.out).2.1); rintro e w74 ⟨v250, rfl, ho0, hb⟩; have n0_ := Aside0.mk (Kd.R_below (by (with_reducible repeat (first | apply Kd.R_alloc | apply Kd.R_drewN | apply Kd.R_drew)); exact HO_4.out) hb); have n1_ := Aside0.mk (Kd.R_elder' (by (with_reducible repeat (first | apply Kd.R_alloc | apply Kd.R_drewN | apply Kd.R_drew)); exact HO_231000.out) (Kd.R_base ho0) hb); have n2_ := Aside0.mk (Kd.R_below (by (with_reducible repeat (first | apply Kd.R_alloc | apply Kd.R_drewN | apply Kd.R_drew)); exact HO247.out) hb); have n3_ := Aside0.mk (Kd.R_lower (Kd.R_new' ho0 (Kd.R_lt (by (with_reducible repeat (first | apply Kd.R_alloc | apply Kd.R_drewN | apply Kd.R_drew)); exact HO_231000.out))) (below_size (by repeat (first | (with_reducible first | exact HB.out | apply below_alloc | apply pw_below_drewN | apply below_drew1 | refine below_set ?_ GE223.out | refine below_set ?_ GE230.out) | exact HB.out)))); have n4_ := Aside0.mk (blk_below (g := gb223) (o := .cells #[.slice none 0 0] 34 (0, 0)) (by (with_reducible repeat (first | refine blk_drewN ?_ _ | refine blk_drew ?_ | refine blk_alloc ?_ _)); exact BK223.out) hb); have n5_ := Aside0.mk (blk_below (g := gb230) (o := .cells #[.slice Ao71 x231000_2.length co71] 34 (0, 0)) (by (with_reducible repeat (first | refine blk_drewN ?_ _ | refine blk_drew ?_ | refine blk_alloc ?_ _)); exact BK230.out) hb); have n6_ := Aside0.mk (below_step (by repeat (first | (with_reducible first | exact HB.out | apply below_alloc | apply pw_below_drewN | apply below_drew1 | refine below_set ?_ GE223.out | refine below_set ?_ GE230.out) | exact HB.out)) hb); clear HO_4; clear HO_231000; clear HO247; clear BK223; clear BK230; clear HB; have HO_4 := n0_; have HO_231000 := n1_; have HO247 := n2_; have HO251 := n3_; have BK223 := n4_; have BK230 := n5_; have HB := n6_; clear n0_ n1_ n2_ n3_ n4_ n5_ n6_; (try clear hb); (try clear hb2); (try clear hk); (try clear hi); (try clear ho0); obtain ⟨Ao75, co75, eo75⟩ := Kd.R_slice HO251.out; subst eo75; have hcz76_0 : w74.cell? ⟨gb223, 0, none⟩ = some (.slice none 0 0) := (blk_cell BK223.out 0).trans rfl; have hfz76_0 := blk_frozen BK223.out 0)))
                  refine bodyPost_ret (results_cell_row rfl _ _ gb223 34 #[.slice Ao75 t249.length co75] (0, 0) _ rfl (by (with_reducible repeat (first | refine blk_drewN ?_ _ | refine blk_drew ?_ | refine blk_alloc ?_ _)); refine blk_put (cs := #[.slice none 0 0]) ?_ 0 _ rfl; (with_reducible repeat (first | refine blk_drewN ?_ _ | refine blk_drew ?_ | refine blk_alloc ?_ _)); exact BK223.out) Try.underlying34 rfl (by kernel_rfl)) rfl ?_
                  exact ⟨_, by first | rfl | (simp [errW_none, errW_some] <;> rfl) | (simp [*, errW_none, errW_some] <;> rfl), by (with_reducible repeat (first | apply Kd.R_alloc | apply Kd.R_drewN | apply Kd.R_drew)); exact Kd.R_mono (Kd.R_far (p := ⟨gb223, 0, none⟩) (Kd.R_types HO251.out BK223.out (by decide)) (fun _ hk => hk.2) (.slice Ao75 t249.length co75)) (fun _ hk => trivial), by repeat (first | (with_reducible first | exact HB.out | apply below_alloc | apply pw_below_drewN | apply below_drew1 | refine below_set ?_ GE223.out | refine below_set ?_ GE230.out) | exact HB.out)⟩
    · rw [if_neg c5] at H
      exact absurd H (by simp)
  · rw [if_neg c4] at H
    exact absurd H (by simp)

end Go.Proofs.Ytpfnohdnaocpdaa.PT

-- Written by a program (xprint.py) out of the translation's own print; Lean checks it.
import Derived.Test.YtififhihgkbafaaPMx0
namespace Go.Proofs.Ytififhihgkbafaa.PM
open Go.RowKit Go.Proofs.YtififhihgkbafaaW.PrintWords Go.Proofs.YtififhihgkbafaaW.PrintLast Go.Proofs.YtififhihgkbafaaW.PrintMore Go.Proofs.YtififhihgkbafaaRP
attribute [local go_sem] max2_int min2_int max_two min_two max_three min_three max_four min_four Go.Proofs.YtififhihgkbafaaRP.max_eight   -- for this text's walks alone
set_option linter.unusedVariables false
set_option linter.unusedSimpArgs false
/-! ### laws_markTurnS: function 15 -/
def laws_markTurnS.l0 : Nat → List (S51) → Int → Int → Option (Int × (List (S51)))
 | 0, _, _, _ => none
 | k + 1, x0, x1, x5 => if x5 < (x0.length : Int) then (if 0 ≤ x5 then ((some (x0.set (x5 : Int).toNat (⟨((Int.tmod x1 3) == 0), (rd_T51 x0 x5).f1, (⟨(rd_T51 x0 x5).f2.f0, (rd_T51 x0 x5).f2.f1, (rd_T51 x0 x5).f2.f2, (rd_T51 x0 x5).f2.f3⟩ : S31)⟩ : S51) : List (S51))).bind fun y337 => ((some (y337.set (x5 : Int).toNat (⟨(rd_T51 y337 x5).f0, IntKind.i8.wrap (wrap64 (x1 + 1)), (⟨(rd_T51 y337 x5).f2.f0, (rd_T51 y337 x5).f2.f1, (rd_T51 y337 x5).f2.f2, (rd_T51 y337 x5).f2.f3⟩ : S31)⟩ : S51) : List (S51))).bind fun y338 => ((some (y338.set (x5 : Int).toNat (⟨(rd_T51 y338 x5).f0, (rd_T51 y338 x5).f1, (⟨wrap64 ((wrap64 (x1 + 1)) + 1), (rd_T51 y338 x5).f2.f1, (rd_T51 y338 x5).f2.f2, (rd_T51 y338 x5).f2.f3⟩ : S31)⟩ : S51) : List (S51))).bind fun y339 => ((some (y339.set (x5 : Int).toNat (⟨(rd_T51 y339 x5).f0, (rd_T51 y339 x5).f1, (⟨(rd_T51 y339 x5).f2.f0, wrap64 ((wrap64 ((wrap64 (x1 + 1)) + 1)) + 1), (rd_T51 y339 x5).f2.f2, (rd_T51 y339 x5).f2.f3⟩ : S31)⟩ : S51) : List (S51))).bind fun y340 => ((some (y340.set (x5 : Int).toNat (⟨(rd_T51 y340 x5).f0, (rd_T51 y340 x5).f1, (⟨(rd_T51 y340 x5).f2.f0, (rd_T51 y340 x5).f2.f1, wrap64 ((wrap64 ((wrap64 ((wrap64 (x1 + 1)) + 1)) + 1)) + 1), (rd_T51 y340 x5).f2.f3⟩ : S31)⟩ : S51) : List (S51))).bind fun y341 => (laws_markTurnS.l0 k (y341.set (x5 : Int).toNat (⟨(rd_T51 y341 x5).f0, (rd_T51 y341 x5).f1, (⟨(rd_T51 y341 x5).f2.f0, (rd_T51 y341 x5).f2.f1, (rd_T51 y341 x5).f2.f2, wrap64 ((wrap64 ((wrap64 ((wrap64 ((wrap64 (x1 + 1)) + 1)) + 1)) + 1)) + 1)⟩ : S31)⟩ : S51)) (wrap64 ((wrap64 ((wrap64 ((wrap64 ((wrap64 ((wrap64 (x1 + 1)) + 1)) + 1)) + 1)) + 1)) + 1)) (wrap64 (x5 + 1)))))))) else (none)) else (some (x1, x0))
def laws_markTurnS.f (k : Nat) (l0 : List (S51)) (a1 : Int) : Option (Int × (List (S51))) := laws_markTurnS.l0 k l0 a1 0
theorem laws_markTurnS.mono_l : ∀ k, (∀ y0 y1 y2, LeO (laws_markTurnS.l0 k y0 y1 y2) (laws_markTurnS.l0 (k + 1) y0 y1 y2))
 | 0 => fun _ _ _ r h => by simp [laws_markTurnS.l0] at h
 | k + 1 => by
  have ih0 := laws_markTurnS.mono_l k
  ·
   intro y0 y1 y2
   unfold laws_markTurnS.l0
   repeat' first
   | (with_reducible exact ih0 _ _ _)
   | (with_reducible exact LeO.refl _)
   | (with_reducible exact LeO.none _)
   | (with_reducible refine LeO.ite ?_ ?_)
   | (with_reducible refine LeO.bind ?_ (fun _ => ?_))
   | exact ih0 _ _ _
   | exact LeO.none _
   | refine LeO.ite ?_ ?_
   | refine LeO.bind ?_ (fun _ => ?_)
theorem laws_markTurnS.mono : ∀ a0 a1 k, LeO (laws_markTurnS.f k a0 a1) (laws_markTurnS.f (k + 1) a0 a1) := by
 intro a0 a1 k
 have ih0 := laws_markTurnS.mono_l k
 unfold laws_markTurnS.f
 repeat' first
   | (with_reducible exact ih0 _ _ _)
   | (with_reducible exact LeO.refl _)
   | (with_reducible exact LeO.none _)
   | (with_reducible refine LeO.ite ?_ ?_)
   | (with_reducible refine LeO.bind ?_ (fun _ => ?_))
   | exact ih0 _ _ _
   | exact LeO.none _
   | refine LeO.ite ?_ ?_
   | refine LeO.bind ?_ (fun _ => ?_)
set_option maxHeartbeats 8000000 in
set_option maxRecDepth 100000 in
theorem laws_markTurnS.calls (k : Nat) (P0_ : Nat → Prop) (u9000_ : Value) (l0 : List (S51)) (a1 : Int) (r1 : Int) (r2 : List (S51)) (w0 w : World) (hB : Below w0.heap.size w0 w) (ho0 : Kd.R k51 51 w w0.heap.size P0_ u9000_ l0) (h : laws_markTurnS.f k l0 a1 = some (r1, r2)) :
  Calls Try.prog 15 #[u9000_, .int .i64 a1] w fun e w' => e = .returned (.int .i64 r1) ∧ Kd.R k51 51 w' w0.heap.size (fun k_ => (P0_ k_ ∨ w.heap.size ≤ k_)) u9000_ r2 ∧ Below w0.heap.size w0 w' ∧ Kept w w' (fun k_ => P0_ k_) := by
 have HO0 := Aside0.mk (show Kd.R k51 51 w w0.heap.size (fun k_ => (P0_ k_ ∨ w.heap.size ≤ k_)) u9000_ l0 from Kd.R_mono ho0 (fun k_ hk => (.inl hk)))
 have HK := Aside0.mk (Kept.refl w (fun k_ => P0_ k_))
 have HW0 := Aside0.mk hB.size
 have HB := Aside0.mk hB
 clear hB
 have H : (laws_markTurnS.l0 k l0 a1 0) = some (r1, r2) := h
 clear h
 have H' := Aside0.mk H
 clear H
 go_enter Try.func15, Try.ntmps15
 go_wp2
 go_loopg [1, 5] k (fun kq v1 v5 w' => ∃ (x0_1 : List (S51)) (x1_1 : Int) (x5_1 : Int), v1 = .int .i64 x1_1 ∧ v5 = .int .i64 x5_1 ∧ Aside0 (laws_markTurnS.l0 kq x0_1 x1_1 x5_1 = some (r1, r2)) ∧ Aside0 (kq ≤ k) ∧ Aside0 (Kd.R k51 51 w' w0.heap.size (fun k_ => (P0_ k_ ∨ w.heap.size ≤ k_)) u9000_ x0_1) ∧ Aside0 (Kept w w' (fun k_ => P0_ k_)) ∧ Aside0 (Below w0.heap.size w0 w'))
 case atStart => exact ⟨(l0), (a1), (0), (by first | rfl | (simp; done) | (simp [*]; done)), (by first | rfl | (simp; done) | (simp [*]; done)), H', ⟨Nat.le_refl _⟩, ⟨by (with_reducible repeat (first | apply Kd.R_alloc | apply Kd.R_drewN | apply Kd.R_drew)); exact HO0.out⟩, ⟨by repeat (first | (with_reducible first | exact HK.out | apply Kept.alloc | apply Kept.drewN | apply Kept.drew) | exact HK.out)⟩, ⟨by repeat (first | (with_reducible first | exact HB.out | apply below_alloc | apply pw_below_drewN | apply below_drew1) | exact HB.out)⟩⟩
 case round =>
  clear H'
  try clear c1
  try clear p2
  obtain ⟨x0_1, x1_1, x5_1, rfl, rfl, HA, HK1, HO_0, HK, HB⟩ := hrel
  cases gk with
  | zero => exact absurd HA.out (by simp [laws_markTurnS.l0])
  | succ k1 =>
   have H := HA.out
   clear HA
   simp only [laws_markTurnS.l0] at H
   by_cases c3 : x5_1 < (x0_1.length : Int)
   ·
    rw [if_pos c3] at H
    have c3b0 : decide (x5_1 < (x0_1.length : Int)) = true := decide_eq_true c3
    clear c3
    by_cases c4 : 0 ≤ x5_1
    ·
     rw [if_pos c4] at H
     have c4b0 : decide (0 ≤ x5_1) = true := decide_eq_true c4
     clear c4
     obtain ⟨y337, hy337⟩ : ∃ y_ : List (S51), y_ = (x0_1.set (x5_1 : Int).toNat (⟨((Int.tmod x1_1 3) == 0), (rd_T51 x0_1 x5_1).f1, (⟨(rd_T51 x0_1 x5_1).f2.f0, (rd_T51 x0_1 x5_1).f2.f1, (rd_T51 x0_1 x5_1).f2.f2, (rd_T51 x0_1 x5_1).f2.f3⟩ : S31)⟩ : S51)) := ⟨_, rfl⟩
     replace H : ((some (y337.set (x5_1 : Int).toNat (⟨(rd_T51 y337 x5_1).f0, IntKind.i8.wrap (wrap64 (x1_1 + 1)), (⟨(rd_T51 y337 x5_1).f2.f0, (rd_T51 y337 x5_1).f2.f1, (rd_T51 y337 x5_1).f2.f2, (rd_T51 y337 x5_1).f2.f3⟩ : S31)⟩ : S51) : List (S51))).bind fun y338 => ((some (y338.set (x5_1 : Int).toNat (⟨(rd_T51 y338 x5_1).f0, (rd_T51 y338 x5_1).f1, (⟨wrap64 ((wrap64 (x1_1 + 1)) + 1), (rd_T51 y338 x5_1).f2.f1, (rd_T51 y338 x5_1).f2.f2, (rd_T51 y338 x5_1).f2.f3⟩ : S31)⟩ : S51) : List (S51))).bind fun y339 => ((some (y339.set (x5_1 : Int).toNat (⟨(rd_T51 y339 x5_1).f0, (rd_T51 y339 x5_1).f1, (⟨(rd_T51 y339 x5_1).f2.f0, wrap64 ((wrap64 ((wrap64 (x1_1 + 1)) + 1)) + 1), (rd_T51 y339 x5_1).f2.f2, (rd_T51 y339 x5_1).f2.f3⟩ : S31)⟩ : S51) : List (S51))).bind fun y340 => ((some (y340.set (x5_1 : Int).toNat (⟨(rd_T51 y340 x5_1).f0, (rd_T51 y340 x5_1).f1, (⟨(rd_T51 y340 x5_1).f2.f0, (rd_T51 y340 x5_1).f2.f1, wrap64 ((wrap64 ((wrap64 ((wrap64 (x1_1 + 1)) + 1)) + 1)) + 1), (rd_T51 y340 x5_1).f2.f3⟩ : S31)⟩ : S51) : List (S51))).bind fun y341 => (laws_markTurnS.l0 k1 (y341.set (x5_1 : Int).toNat (⟨(rd_T51 y341 x5_1).f0, (rd_T51 y341 x5_1).f1, (⟨(rd_T51 y341 x5_1).f2.f0, (rd_T51 y341 x5_1).f2.f1, (rd_T51 y341 x5_1).f2.f2, wrap64 ((wrap64 ((wrap64 ((wrap64 ((wrap64 (x1_1 + 1)) + 1)) + 1)) + 1)) + 1)⟩ : S31)⟩ : S51)) (wrap64 ((wrap64 ((wrap64 ((wrap64 ((wrap64 ((wrap64 (x1_1 + 1)) + 1)) + 1)) + 1)) + 1)) + 1)) (wrap64 (x5_1 + 1))))))) = some (r1, r2) := by first | (rw [hy337]; with_reducible exact H) | (have H2_ := (Option.bind_some _ _).symm.trans H; rw [hy337]; with_reducible exact H2_) | (have H2_ := (Option.bind_some _ _).symm.trans H; with_reducible exact H2_) | with_reducible exact H | (rw [hy337]; exact H) | exact H
     have Ny337 := Aside0.mk hy337
     clear hy337
     obtain ⟨y338, hy338⟩ : ∃ y_ : List (S51), y_ = (y337.set (x5_1 : Int).toNat (⟨(rd_T51 y337 x5_1).f0, IntKind.i8.wrap (wrap64 (x1_1 + 1)), (⟨(rd_T51 y337 x5_1).f2.f0, (rd_T51 y337 x5_1).f2.f1, (rd_T51 y337 x5_1).f2.f2, (rd_T51 y337 x5_1).f2.f3⟩ : S31)⟩ : S51)) := ⟨_, rfl⟩
     replace H : ((some (y338.set (x5_1 : Int).toNat (⟨(rd_T51 y338 x5_1).f0, (rd_T51 y338 x5_1).f1, (⟨wrap64 ((wrap64 (x1_1 + 1)) + 1), (rd_T51 y338 x5_1).f2.f1, (rd_T51 y338 x5_1).f2.f2, (rd_T51 y338 x5_1).f2.f3⟩ : S31)⟩ : S51) : List (S51))).bind fun y339 => ((some (y339.set (x5_1 : Int).toNat (⟨(rd_T51 y339 x5_1).f0, (rd_T51 y339 x5_1).f1, (⟨(rd_T51 y339 x5_1).f2.f0, wrap64 ((wrap64 ((wrap64 (x1_1 + 1)) + 1)) + 1), (rd_T51 y339 x5_1).f2.f2, (rd_T51 y339 x5_1).f2.f3⟩ : S31)⟩ : S51) : List (S51))).bind fun y340 => ((some (y340.set (x5_1 : Int).toNat (⟨(rd_T51 y340 x5_1).f0, (rd_T51 y340 x5_1).f1, (⟨(rd_T51 y340 x5_1).f2.f0, (rd_T51 y340 x5_1).f2.f1, wrap64 ((wrap64 ((wrap64 ((wrap64 (x1_1 + 1)) + 1)) + 1)) + 1), (rd_T51 y340 x5_1).f2.f3⟩ : S31)⟩ : S51) : List (S51))).bind fun y341 => (laws_markTurnS.l0 k1 (y341.set (x5_1 : Int).toNat (⟨(rd_T51 y341 x5_1).f0, (rd_T51 y341 x5_1).f1, (⟨(rd_T51 y341 x5_1).f2.f0, (rd_T51 y341 x5_1).f2.f1, (rd_T51 y341 x5_1).f2.f2, wrap64 ((wrap64 ((wrap64 ((wrap64 ((wrap64 (x1_1 + 1)) + 1)) + 1)) + 1)) + 1)⟩ : S31)⟩ : S51)) (wrap64 ((wrap64 ((wrap64 ((wrap64 ((wrap64 ((wrap64 (x1_1 + 1)) + 1)) + 1)) + 1)) + 1)) + 1)) (wrap64 (x5_1 + 1)))))) = some (r1, r2) := by first | (rw [hy338]; with_reducible exact H) | (have H2_ := (Option.bind_some _ _).symm.trans H; rw [hy338]; with_reducible exact H2_) | (have H2_ := (Option.bind_some _ _).symm.trans H; with_reducible exact H2_) | with_reducible exact H | (rw [hy338]; exact H) | exact H
     have Ny338 := Aside0.mk hy338
     clear hy338
     obtain ⟨y339, hy339⟩ : ∃ y_ : List (S51), y_ = (y338.set (x5_1 : Int).toNat (⟨(rd_T51 y338 x5_1).f0, (rd_T51 y338 x5_1).f1, (⟨wrap64 ((wrap64 (x1_1 + 1)) + 1), (rd_T51 y338 x5_1).f2.f1, (rd_T51 y338 x5_1).f2.f2, (rd_T51 y338 x5_1).f2.f3⟩ : S31)⟩ : S51)) := ⟨_, rfl⟩
     replace H : ((some (y339.set (x5_1 : Int).toNat (⟨(rd_T51 y339 x5_1).f0, (rd_T51 y339 x5_1).f1, (⟨(rd_T51 y339 x5_1).f2.f0, wrap64 ((wrap64 ((wrap64 (x1_1 + 1)) + 1)) + 1), (rd_T51 y339 x5_1).f2.f2, (rd_T51 y339 x5_1).f2.f3⟩ : S31)⟩ : S51) : List (S51))).bind fun y340 => ((some (y340.set (x5_1 : Int).toNat (⟨(rd_T51 y340 x5_1).f0, (rd_T51 y340 x5_1).f1, (⟨(rd_T51 y340 x5_1).f2.f0, (rd_T51 y340 x5_1).f2.f1, wrap64 ((wrap64 ((wrap64 ((wrap64 (x1_1 + 1)) + 1)) + 1)) + 1), (rd_T51 y340 x5_1).f2.f3⟩ : S31)⟩ : S51) : List (S51))).bind fun y341 => (laws_markTurnS.l0 k1 (y341.set (x5_1 : Int).toNat (⟨(rd_T51 y341 x5_1).f0, (rd_T51 y341 x5_1).f1, (⟨(rd_T51 y341 x5_1).f2.f0, (rd_T51 y341 x5_1).f2.f1, (rd_T51 y341 x5_1).f2.f2, wrap64 ((wrap64 ((wrap64 ((wrap64 ((wrap64 (x1_1 + 1)) + 1)) + 1)) + 1)) + 1)⟩ : S31)⟩ : S51)) (wrap64 ((wrap64 ((wrap64 ((wrap64 ((wrap64 ((wrap64 (x1_1 + 1)) + 1)) + 1)) + 1)) + 1)) + 1)) (wrap64 (x5_1 + 1))))) = some (r1, r2) := by first | (rw [hy339]; with_reducible exact H) | (have H2_ := (Option.bind_some _ _).symm.trans H; rw [hy339]; with_reducible exact H2_) | (have H2_ := (Option.bind_some _ _).symm.trans H; with_reducible exact H2_) | with_reducible exact H | (rw [hy339]; exact H) | exact H
     have Ny339 := Aside0.mk hy339
     clear hy339
     obtain ⟨y340, hy340⟩ : ∃ y_ : List (S51), y_ = (y339.set (x5_1 : Int).toNat (⟨(rd_T51 y339 x5_1).f0, (rd_T51 y339 x5_1).f1, (⟨(rd_T51 y339 x5_1).f2.f0, wrap64 ((wrap64 ((wrap64 (x1_1 + 1)) + 1)) + 1), (rd_T51 y339 x5_1).f2.f2, (rd_T51 y339 x5_1).f2.f3⟩ : S31)⟩ : S51)) := ⟨_, rfl⟩
     replace H : ((some (y340.set (x5_1 : Int).toNat (⟨(rd_T51 y340 x5_1).f0, (rd_T51 y340 x5_1).f1, (⟨(rd_T51 y340 x5_1).f2.f0, (rd_T51 y340 x5_1).f2.f1, wrap64 ((wrap64 ((wrap64 ((wrap64 (x1_1 + 1)) + 1)) + 1)) + 1), (rd_T51 y340 x5_1).f2.f3⟩ : S31)⟩ : S51) : List (S51))).bind fun y341 => (laws_markTurnS.l0 k1 (y341.set (x5_1 : Int).toNat (⟨(rd_T51 y341 x5_1).f0, (rd_T51 y341 x5_1).f1, (⟨(rd_T51 y341 x5_1).f2.f0, (rd_T51 y341 x5_1).f2.f1, (rd_T51 y341 x5_1).f2.f2, wrap64 ((wrap64 ((wrap64 ((wrap64 ((wrap64 (x1_1 + 1)) + 1)) + 1)) + 1)) + 1)⟩ : S31)⟩ : S51)) (wrap64 ((wrap64 ((wrap64 ((wrap64 ((wrap64 ((wrap64 (x1_1 + 1)) + 1)) + 1)) + 1)) + 1)) + 1)) (wrap64 (x5_1 + 1)))) = some (r1, r2) := by first | (rw [hy340]; with_reducible exact H) | (have H2_ := (Option.bind_some _ _).symm.trans H; rw [hy340]; with_reducible exact H2_) | (have H2_ := (Option.bind_some _ _).symm.trans H; with_reducible exact H2_) | with_reducible exact H | (rw [hy340]; exact H) | exact H
     have Ny340 := Aside0.mk hy340
     clear hy340
     obtain ⟨y341, hy341⟩ : ∃ y_ : List (S51), y_ = (y340.set (x5_1 : Int).toNat (⟨(rd_T51 y340 x5_1).f0, (rd_T51 y340 x5_1).f1, (⟨(rd_T51 y340 x5_1).f2.f0, (rd_T51 y340 x5_1).f2.f1, wrap64 ((wrap64 ((wrap64 ((wrap64 (x1_1 + 1)) + 1)) + 1)) + 1), (rd_T51 y340 x5_1).f2.f3⟩ : S31)⟩ : S51)) := ⟨_, rfl⟩
     replace H : (laws_markTurnS.l0 k1 (y341.set (x5_1 : Int).toNat (⟨(rd_T51 y341 x5_1).f0, (rd_T51 y341 x5_1).f1, (⟨(rd_T51 y341 x5_1).f2.f0, (rd_T51 y341 x5_1).f2.f1, (rd_T51 y341 x5_1).f2.f2, wrap64 ((wrap64 ((wrap64 ((wrap64 ((wrap64 (x1_1 + 1)) + 1)) + 1)) + 1)) + 1)⟩ : S31)⟩ : S51)) (wrap64 ((wrap64 ((wrap64 ((wrap64 ((wrap64 ((wrap64 (x1_1 + 1)) + 1)) + 1)) + 1)) + 1)) + 1)) (wrap64 (x5_1 + 1))) = some (r1, r2) := by first | (rw [hy341]; with_reducible exact H) | (have H2_ := (Option.bind_some _ _).symm.trans H; rw [hy341]; with_reducible exact H2_) | (have H2_ := (Option.bind_some _ _).symm.trans H; with_reducible exact H2_) | with_reducible exact H | (rw [hy341]; exact H) | exact H
     have Ny341 := Aside0.mk hy341
     clear hy341
     obtain ⟨y342, hy342⟩ : ∃ y_ : List (S51), y_ = (y341.set (x5_1 : Int).toNat (⟨(rd_T51 y341 x5_1).f0, (rd_T51 y341 x5_1).f1, (⟨(rd_T51 y341 x5_1).f2.f0, (rd_T51 y341 x5_1).f2.f1, (rd_T51 y341 x5_1).f2.f2, wrap64 ((wrap64 ((wrap64 ((wrap64 ((wrap64 (x1_1 + 1)) + 1)) + 1)) + 1)) + 1)⟩ : S31)⟩ : S51)) := ⟨_, rfl⟩
     replace H : (laws_markTurnS.l0 k1 y342 (wrap64 ((wrap64 ((wrap64 ((wrap64 ((wrap64 ((wrap64 (x1_1 + 1)) + 1)) + 1)) + 1)) + 1)) + 1)) (wrap64 (x5_1 + 1))) = some (r1, r2) := by first | (rw [hy342]; with_reducible exact H) | (have H2_ := (Option.bind_some _ _).symm.trans H; rw [hy342]; with_reducible exact H2_) | (have H2_ := (Option.bind_some _ _).symm.trans H; with_reducible exact H2_) | with_reducible exact H | (rw [hy342]; exact H) | exact H
     have Ny342 := Aside0.mk hy342
     clear hy342
     have H' := Aside0.mk H
     clear H
     obtain ⟨Ao11, co11, eo11⟩ := Kd.R_slice HO_0.out
     subst eo11
     have p5 : 0 ≤ (x5_1 : Int) := of_decide_eq_true (by assumption)
     have q5 : (x5_1 : Int) < ((x0_1.length : Int) : Int) := of_decide_eq_true (by assumption)
     obtain ⟨go5, co5, eo5, gb5, gl5, cl5, HG5⟩ := Kd.R_form HO_0.out (by omega)
     (first | cases eo5 | (injection eo5 with ea_ en_ ec_; (first | subst ea_ | (injection ea_ with ea_; subst ea_)); subst ec_; clear en_))
     have GB5 := Aside0.mk gb5
     have GG5 := Aside0.mk HG5
     clear gb5 gl5 HG5
     have HMgo5 := Aside0.mk (show (P0_ go5 ∨ w.heap.size ≤ go5) from (HO_0.out.1 _ rfl))
     obtain ⟨ce5, hcl5, hM5, hcc5, hfr5⟩ := Kd.R_elem HO_0.out z51 (x5_1 : Int) p5 q5
     obtain rfl := k51_openM hM5
     have hx5_0 : wr.cell? ⟨go5, (x5_1 : Int).toNat * 6, none⟩ = some (.bool ((rd_T51 x0_1 x5_1).f0)) := hcc5 0 _ rfl
     have hx5_1 : wr.cell? ⟨go5, (x5_1 : Int).toNat * 6 + 1, none⟩ = some (.int .i8 ((rd_T51 x0_1 x5_1).f1)) := hcc5 1 _ rfl
     have hx5_2 : wr.cell? ⟨go5, (x5_1 : Int).toNat * 6 + 2, none⟩ = some (.int .i64 ((rd_T51 x0_1 x5_1).f2.f0)) := hcc5 2 _ rfl
     have hx5_3 : wr.cell? ⟨go5, (x5_1 : Int).toNat * 6 + 3, none⟩ = some (.int .i64 ((rd_T51 x0_1 x5_1).f2.f1)) := hcc5 3 _ rfl
     have hx5_4 : wr.cell? ⟨go5, (x5_1 : Int).toNat * 6 + 4, none⟩ = some (.int .i64 ((rd_T51 x0_1 x5_1).f2.f2)) := hcc5 4 _ rfl
     have hx5_5 : wr.cell? ⟨go5, (x5_1 : Int).toNat * 6 + 5, none⟩ = some (.int .i64 ((rd_T51 x0_1 x5_1).f2.f3)) := hcc5 5 _ rfl
     have hf5_0 : wr.frozen? ⟨go5, (x5_1 : Int).toNat * 6, none⟩ = false := hfr5 0
     have hf5_1 : wr.frozen? ⟨go5, (x5_1 : Int).toNat * 6 + 1, none⟩ = false := hfr5 1
     have hf5_2 : wr.frozen? ⟨go5, (x5_1 : Int).toNat * 6 + 2, none⟩ = false := hfr5 2
     have hf5_3 : wr.frozen? ⟨go5, (x5_1 : Int).toNat * 6 + 3, none⟩ = false := hfr5 3
     have hf5_4 : wr.frozen? ⟨go5, (x5_1 : Int).toNat * 6 + 4, none⟩ = false := hfr5 4
     have hf5_5 : wr.frozen? ⟨go5, (x5_1 : Int).toNat * 6 + 5, none⟩ = false := hfr5 5
     clear hcl5 hcc5 hfr5 hM5
     replace p5 := eq_true p5
     replace q5 := eq_true q5
     have HX12 := Aside0.mk (show Kd.R k51 51 wr w0.heap.size (fun k_ => (P0_ k_ ∨ w.heap.size ≤ k_)) (.slice (some ⟨go5, 0, none⟩) x0_1.length co11) x0_1 from (by (with_reducible repeat (first | apply Kd.R_alloc | apply Kd.R_drewN | apply Kd.R_drew)); exact HO_0.out))
     obtain ⟨ce12, hcl12, hM12, hcc12, hfr12⟩ := Kd.R_elem HX12.out z51 (x5_1 : Int) (of_decide_eq_true (by assumption)) (by have h_ : (x5_1 : Int) < ((x0_1.length : Int) : Int) := of_decide_eq_true (by assumption); first | exact h_ | (have e_ := (Kd.R_reads' HO_0.out).1; omega) | simpa using h_)
     obtain rfl := k51_openM hM12
     have HP12 := Kd.R_seg HX12.out (x5_1 : Int) (of_decide_eq_true (by assumption)) (by have h_ : (x5_1 : Int) < ((x0_1.length : Int) : Int) := of_decide_eq_true (by assumption); first | exact h_ | (have e_ := (Kd.R_reads' HO_0.out).1; omega) | simpa using h_) (seg := [.bool ((Int.tmod x1_1 3) == 0)]) (j := 0) hcl12 hcc12 (show 1 ≤ 6 from by decide) (x' := (⟨((Int.tmod x1_1 3) == 0), (rd_T51 x0_1 x5_1).f1, (⟨(rd_T51 x0_1 x5_1).f2.f0, (rd_T51 x0_1 x5_1).f2.f1, (rd_T51 x0_1 x5_1).f2.f2, (rd_T51 x0_1 x5_1).f2.f3⟩ : S31)⟩ : S51)) (k51_mkM _ _ _ (⟨((Int.tmod x1_1 3) == 0), (rd_T51 x0_1 x5_1).f1, (⟨(rd_T51 x0_1 x5_1).f2.f0, (rd_T51 x0_1 x5_1).f2.f1, (rd_T51 x0_1 x5_1).f2.f2, (rd_T51 x0_1 x5_1).f2.f3⟩ : S31)⟩ : S51) ) (fun _ hk => hk)
     have hx12_0 := hcc12 0 _ rfl
     (try simp only [show (k51).sz = 6 from rfl, Nat.mul_one, Nat.add_zero] at hx12_0)
     have hf12_0 := hfr12 0
     (try simp only [show (k51).sz = 6 from rfl, Nat.mul_one, Nat.add_zero] at hf12_0)
     clear hcl12 hcc12 hfr12 hM12
     go_wp2_with (first | ((with_reducible refine gate_store (t := 4) (p := 18) rfl ?_); refine store_event (t := 4) (p := 18) (v := ?vo_w13) (w1 := (wr.setCell ⟨go5, (x5_1 : Int).toNat * 6, none⟩ (.bool ((Int.tmod x1_1 3) == 0)))) ?hg ?ho ?hn ?hr ?_; (case ho => rfl); (case hg => rfl); (case hn => rfl); (case hr => first | (go_simp; done) | (go_simp; rfl)); intro w13 hw; have hg : wr.grownBy w13 (some go5) := (by rw [hw]; exact HP12.2); have hp_ : Kd.R k51 51 w13 w0.heap.size (fun k_ => (P0_ k_ ∨ w.heap.size ≤ k_)) (.slice (some ⟨go5, 0, none⟩) x0_1.length co11) y337 := (by rw [hw, Ny337.out]; exact HP12.1); clear HP12; have n0_ := Aside0.mk (hp_); have n1_ := Aside0.mk ((by rw [hw]; exact below_set (HB.out) GB5.out : Below w0.heap.size w0 w13)); have n2_ := Aside0.mk (Kept.of_grown (S := (fun k_ => P0_ k_)) hg (by repeat (first | (with_reducible first | exact HK.out | apply Kept.alloc | apply Kept.drewN | apply Kept.drew) | exact HK.out)) (fun k_ e_ => (HO_0.out.1 k_ e_))); clear HO_0; clear HB; clear HK; have HO_0 := n0_; have HB := n1_; have HK := n2_; clear n0_ n1_ n2_; clear hg hw hp_; have p6 : 0 ≤ (x5_1 : Int) := of_decide_eq_true (by assumption); have q6 : (x5_1 : Int) < ((x0_1.length : Int) : Int) := of_decide_eq_true (by assumption); obtain ⟨ce6, hcl6, hM6, hcc6, hfr6⟩ := Kd.R_elem HO_0.out z51 (x5_1 : Int) p6 q6; obtain rfl := k51_openM hM6; have hx6_0 : w13.cell? ⟨go5, (x5_1 : Int).toNat * 6, none⟩ = some (.bool ((rd_T51 y337 x5_1).f0)) := hcc6 0 _ rfl; have hx6_1 : w13.cell? ⟨go5, (x5_1 : Int).toNat * 6 + 1, none⟩ = some (.int .i8 ((rd_T51 y337 x5_1).f1)) := hcc6 1 _ rfl; have hx6_2 : w13.cell? ⟨go5, (x5_1 : Int).toNat * 6 + 2, none⟩ = some (.int .i64 ((rd_T51 y337 x5_1).f2.f0)) := hcc6 2 _ rfl; have hx6_3 : w13.cell? ⟨go5, (x5_1 : Int).toNat * 6 + 3, none⟩ = some (.int .i64 ((rd_T51 y337 x5_1).f2.f1)) := hcc6 3 _ rfl; have hx6_4 : w13.cell? ⟨go5, (x5_1 : Int).toNat * 6 + 4, none⟩ = some (.int .i64 ((rd_T51 y337 x5_1).f2.f2)) := hcc6 4 _ rfl; have hx6_5 : w13.cell? ⟨go5, (x5_1 : Int).toNat * 6 + 5, none⟩ = some (.int .i64 ((rd_T51 y337 x5_1).f2.f3)) := hcc6 5 _ rfl; have hf6_0 : w13.frozen? ⟨go5, (x5_1 : Int).toNat * 6, none⟩ = false := hfr6 0; have hf6_1 : w13.frozen? ⟨go5, (x5_1 : Int).toNat * 6 + 1, none⟩ = false := hfr6 1; have hf6_2 : w13.frozen? ⟨go5, (x5_1 : Int).toNat * 6 + 2, none⟩ = false := hfr6 2; have hf6_3 : w13.frozen? ⟨go5, (x5_1 : Int).toNat * 6 + 3, none⟩ = false := hfr6 3; have hf6_4 : w13.frozen? ⟨go5, (x5_1 : Int).toNat * 6 + 4, none⟩ = false := hfr6 4; have hf6_5 : w13.frozen? ⟨go5, (x5_1 : Int).toNat * 6 + 5, none⟩ = false := hfr6 5; clear hcl6 hcc6 hfr6 hM6; replace p6 := eq_true p6; replace q6 := eq_true q6; have HX14 := Aside0.mk (show Kd.R k51 51 w13 w0.heap.size (fun k_ => (P0_ k_ ∨ w.heap.size ≤ k_)) (.slice (some ⟨go5, 0, none⟩) x0_1.length co11) y337 from (by (with_reducible repeat (first | apply Kd.R_alloc | apply Kd.R_drewN | apply Kd.R_drew)); exact HO_0.out)); obtain ⟨ce14, hcl14, hM14, hcc14, hfr14⟩ := Kd.R_elem HX14.out z51 (x5_1 : Int) (of_decide_eq_true (by assumption)) (by have h_ : (x5_1 : Int) < ((x0_1.length : Int) : Int) := of_decide_eq_true (by assumption); first | exact h_ | (have e_ := (Kd.R_reads' HO_0.out).1; omega) | simpa using h_); obtain rfl := k51_openM hM14; have HP14 := Kd.R_seg HX14.out (x5_1 : Int) (of_decide_eq_true (by assumption)) (by have h_ : (x5_1 : Int) < ((x0_1.length : Int) : Int) := of_decide_eq_true (by assumption); first | exact h_ | (have e_ := (Kd.R_reads' HO_0.out).1; omega) | simpa using h_) (seg := [.int .i8 (IntKind.i8.wrap (wrap64 (x1_1 + 1)))]) (j := 1) hcl14 hcc14 (show 2 ≤ 6 from by decide) (x' := (⟨(rd_T51 y337 x5_1).f0, IntKind.i8.wrap (wrap64 (x1_1 + 1)), (⟨(rd_T51 y337 x5_1).f2.f0, (rd_T51 y337 x5_1).f2.f1, (rd_T51 y337 x5_1).f2.f2, (rd_T51 y337 x5_1).f2.f3⟩ : S31)⟩ : S51)) (k51_mkM _ _ _ (⟨(rd_T51 y337 x5_1).f0, IntKind.i8.wrap (wrap64 (x1_1 + 1)), (⟨(rd_T51 y337 x5_1).f2.f0, (rd_T51 y337 x5_1).f2.f1, (rd_T51 y337 x5_1).f2.f2, (rd_T51 y337 x5_1).f2.f3⟩ : S31)⟩ : S51) ) (fun _ hk => hk); have hx14_1 := hcc14 1 _ rfl; (try simp only [show (k51).sz = 6 from rfl, Nat.mul_one, Nat.add_zero] at hx14_1); have hf14_1 := hfr14 1; (try simp only [show (k51).sz = 6 from rfl, Nat.mul_one, Nat.add_zero] at hf14_1); clear hcl14 hcc14 hfr14 hM14) | ((with_reducible refine gate_store (t := 49) (p := 26) rfl ?_); refine store_event (t := 49) (p := 26) (v := ?vo_w15) (w1 := (w13.setCell ⟨go5, (x5_1 : Int).toNat * 6 + 1, none⟩ (.int .i8 (IntKind.i8.wrap (wrap64 (x1_1 + 1)))))) ?hg ?ho ?hn ?hr ?_; (case ho => rfl); (case hg => rfl); (case hn => rfl); (case hr => first | (go_simp; done) | (go_simp; rfl)); intro w15 hw; have hg : w13.grownBy w15 (some go5) := (by rw [hw]; exact HP14.2); have hp_ : Kd.R k51 51 w15 w0.heap.size (fun k_ => (P0_ k_ ∨ w.heap.size ≤ k_)) (.slice (some ⟨go5, 0, none⟩) x0_1.length co11) y338 := (by rw [hw, Ny338.out]; exact HP14.1); clear HP14; have n0_ := Aside0.mk (hp_); have n1_ := Aside0.mk ((by rw [hw]; exact below_set (HB.out) GB5.out : Below w0.heap.size w0 w15)); have n2_ := Aside0.mk (Kept.of_grown (S := (fun k_ => P0_ k_)) hg (by repeat (first | (with_reducible first | exact HK.out | apply Kept.alloc | apply Kept.drewN | apply Kept.drew) | exact HK.out)) (fun k_ e_ => (HO_0.out.1 k_ e_))); clear HO_0; clear HB; clear HK; have HO_0 := n0_; have HB := n1_; have HK := n2_; clear n0_ n1_ n2_; clear hg hw hp_; have p7 : 0 ≤ (x5_1 : Int) := of_decide_eq_true (by assumption); have q7 : (x5_1 : Int) < ((x0_1.length : Int) : Int) := of_decide_eq_true (by assumption); obtain ⟨ce7, hcl7, hM7, hcc7, hfr7⟩ := Kd.R_elem HO_0.out z51 (x5_1 : Int) p7 q7; obtain rfl := k51_openM hM7; have hx7_0 : w15.cell? ⟨go5, (x5_1 : Int).toNat * 6, none⟩ = some (.bool ((rd_T51 y338 x5_1).f0)) := hcc7 0 _ rfl; have hx7_1 : w15.cell? ⟨go5, (x5_1 : Int).toNat * 6 + 1, none⟩ = some (.int .i8 ((rd_T51 y338 x5_1).f1)) := hcc7 1 _ rfl; have hx7_2 : w15.cell? ⟨go5, (x5_1 : Int).toNat * 6 + 2, none⟩ = some (.int .i64 ((rd_T51 y338 x5_1).f2.f0)) := hcc7 2 _ rfl; have hx7_3 : w15.cell? ⟨go5, (x5_1 : Int).toNat * 6 + 3, none⟩ = some (.int .i64 ((rd_T51 y338 x5_1).f2.f1)) := hcc7 3 _ rfl; have hx7_4 : w15.cell? ⟨go5, (x5_1 : Int).toNat * 6 + 4, none⟩ = some (.int .i64 ((rd_T51 y338 x5_1).f2.f2)) := hcc7 4 _ rfl; have hx7_5 : w15.cell? ⟨go5, (x5_1 : Int).toNat * 6 + 5, none⟩ = some (.int .i64 ((rd_T51 y338 x5_1).f2.f3)) := hcc7 5 _ rfl; have hf7_0 : w15.frozen? ⟨go5, (x5_1 : Int).toNat * 6, none⟩ = false := hfr7 0; have hf7_1 : w15.frozen? ⟨go5, (x5_1 : Int).toNat * 6 + 1, none⟩ = false := hfr7 1; have hf7_2 : w15.frozen? ⟨go5, (x5_1 : Int).toNat * 6 + 2, none⟩ = false := hfr7 2; have hf7_3 : w15.frozen? ⟨go5, (x5_1 : Int).toNat * 6 + 3, none⟩ = false := hfr7 3; have hf7_4 : w15.frozen? ⟨go5, (x5_1 : Int).toNat * 6 + 4, none⟩ = false := hfr7 4; have hf7_5 : w15.frozen? ⟨go5, (x5_1 : Int).toNat * 6 + 5, none⟩ = false := hfr7 5; clear hcl7 hcc7 hfr7 hM7; replace p7 := eq_true p7; replace q7 := eq_true q7; have HX16 := Aside0.mk (show Kd.R k51 51 w15 w0.heap.size (fun k_ => (P0_ k_ ∨ w.heap.size ≤ k_)) (.slice (some ⟨go5, 0, none⟩) x0_1.length co11) y338 from (by (with_reducible repeat (first | apply Kd.R_alloc | apply Kd.R_drewN | apply Kd.R_drew)); exact HO_0.out)); obtain ⟨ce16, hcl16, hM16, hcc16, hfr16⟩ := Kd.R_elem HX16.out z51 (x5_1 : Int) (of_decide_eq_true (by assumption)) (by have h_ : (x5_1 : Int) < ((x0_1.length : Int) : Int) := of_decide_eq_true (by assumption); first | exact h_ | (have e_ := (Kd.R_reads' HO_0.out).1; omega) | simpa using h_); obtain rfl := k51_openM hM16; have HP16 := Kd.R_seg HX16.out (x5_1 : Int) (of_decide_eq_true (by assumption)) (by have h_ : (x5_1 : Int) < ((x0_1.length : Int) : Int) := of_decide_eq_true (by assumption); first | exact h_ | (have e_ := (Kd.R_reads' HO_0.out).1; omega) | simpa using h_) (seg := [.int .i64 (wrap64 ((wrap64 (x1_1 + 1)) + 1))]) (j := 2) hcl16 hcc16 (show 3 ≤ 6 from by decide) (x' := (⟨(rd_T51 y338 x5_1).f0, (rd_T51 y338 x5_1).f1, (⟨wrap64 ((wrap64 (x1_1 + 1)) + 1), (rd_T51 y338 x5_1).f2.f1, (rd_T51 y338 x5_1).f2.f2, (rd_T51 y338 x5_1).f2.f3⟩ : S31)⟩ : S51)) (k51_mkM _ _ _ (⟨(rd_T51 y338 x5_1).f0, (rd_T51 y338 x5_1).f1, (⟨wrap64 ((wrap64 (x1_1 + 1)) + 1), (rd_T51 y338 x5_1).f2.f1, (rd_T51 y338 x5_1).f2.f2, (rd_T51 y338 x5_1).f2.f3⟩ : S31)⟩ : S51) ) (fun _ hk => hk); have hx16_2 := hcc16 2 _ rfl; (try simp only [show (k51).sz = 6 from rfl, Nat.mul_one, Nat.add_zero] at hx16_2); have hf16_2 := hfr16 2; (try simp only [show (k51).sz = 6 from rfl, Nat.mul_one, Nat.add_zero] at hf16_2); clear hcl16 hcc16 hfr16 hM16) | ((with_reducible refine gate_store (t := 2) (p := 34) rfl ?_); refine store_event (t := 2) (p := 34) (v := ?vo_w17) (w1 := (w15.setCell ⟨go5, (x5_1 : Int).toNat * 6 + 2, none⟩ (.int .i64 (wrap64 ((wrap64 (x1_1 + 1)) + 1))))) ?hg ?ho ?hn ?hr ?_; (case ho => rfl); (case hg => rfl); (case hn => rfl); (case hr => first | (go_simp; done) | (go_simp; rfl)); intro w17 hw; have hg : w15.grownBy w17 (some go5) := (by rw [hw]; exact HP16.2); have hp_ : Kd.R k51 51 w17 w0.heap.size (fun k_ => (P0_ k_ ∨ w.heap.size ≤ k_)) (.slice (some ⟨go5, 0, none⟩) x0_1.length co11) y339 := (by rw [hw, Ny339.out]; exact HP16.1); clear HP16; have n0_ := Aside0.mk (hp_); have n1_ := Aside0.mk ((by rw [hw]; exact below_set (HB.out) GB5.out : Below w0.heap.size w0 w17)); have n2_ := Aside0.mk (Kept.of_grown (S := (fun k_ => P0_ k_)) hg (by repeat (first | (with_reducible first | exact HK.out | apply Kept.alloc | apply Kept.drewN | apply Kept.drew) | exact HK.out)) (fun k_ e_ => (HO_0.out.1 k_ e_))); clear HO_0; clear HB; clear HK; have HO_0 := n0_; have HB := n1_; have HK := n2_; clear n0_ n1_ n2_; clear hg hw hp_; have p8 : 0 ≤ (x5_1 : Int) := of_decide_eq_true (by assumption); have q8 : (x5_1 : Int) < ((x0_1.length : Int) : Int) := of_decide_eq_true (by assumption); obtain ⟨ce8, hcl8, hM8, hcc8, hfr8⟩ := Kd.R_elem HO_0.out z51 (x5_1 : Int) p8 q8; obtain rfl := k51_openM hM8; have hx8_0 : w17.cell? ⟨go5, (x5_1 : Int).toNat * 6, none⟩ = some (.bool ((rd_T51 y339 x5_1).f0)) := hcc8 0 _ rfl; have hx8_1 : w17.cell? ⟨go5, (x5_1 : Int).toNat * 6 + 1, none⟩ = some (.int .i8 ((rd_T51 y339 x5_1).f1)) := hcc8 1 _ rfl; have hx8_2 : w17.cell? ⟨go5, (x5_1 : Int).toNat * 6 + 2, none⟩ = some (.int .i64 ((rd_T51 y339 x5_1).f2.f0)) := hcc8 2 _ rfl; have hx8_3 : w17.cell? ⟨go5, (x5_1 : Int).toNat * 6 + 3, none⟩ = some (.int .i64 ((rd_T51 y339 x5_1).f2.f1)) := hcc8 3 _ rfl; have hx8_4 : w17.cell? ⟨go5, (x5_1 : Int).toNat * 6 + 4, none⟩ = some (.int .i64 ((rd_T51 y339 x5_1).f2.f2)) := hcc8 4 _ rfl; have hx8_5 : w17.cell? ⟨go5, (x5_1 : Int).toNat * 6 + 5, none⟩ = some (.int .i64 ((rd_T51 y339 x5_1).f2.f3)) := hcc8 5 _ rfl; have hf8_0 : w17.frozen? ⟨go5, (x5_1 : Int).toNat * 6, none⟩ = false := hfr8 0; have hf8_1 : w17.frozen? ⟨go5, (x5_1 : Int).toNat * 6 + 1, none⟩ = false := hfr8 1; have hf8_2 : w17.frozen? ⟨go5, (x5_1 : Int).toNat * 6 + 2, none⟩ = false := hfr8 2; have hf8_3 : w17.frozen? ⟨go5, (x5_1 : Int).toNat * 6 + 3, none⟩ = false := hfr8 3; have hf8_4 : w17.frozen? ⟨go5, (x5_1 : Int).toNat * 6 + 4, none⟩ = false := hfr8 4; have hf8_5 : w17.frozen? ⟨go5, (x5_1 : Int).toNat * 6 + 5, none⟩ = false := hfr8 5; clear hcl8 hcc8 hfr8 hM8; replace p8 := eq_true p8; replace q8 := eq_true q8; have HX18 := Aside0.mk (show Kd.R k51 51 w17 w0.heap.size (fun k_ => (P0_ k_ ∨ w.heap.size ≤ k_)) (.slice (some ⟨go5, 0, none⟩) x0_1.length co11) y339 from (by (with_reducible repeat (first | apply Kd.R_alloc | apply Kd.R_drewN | apply Kd.R_drew)); exact HO_0.out)); obtain ⟨ce18, hcl18, hM18, hcc18, hfr18⟩ := Kd.R_elem HX18.out z51 (x5_1 : Int) (of_decide_eq_true (by assumption)) (by have h_ : (x5_1 : Int) < ((x0_1.length : Int) : Int) := of_decide_eq_true (by assumption); first | exact h_ | (have e_ := (Kd.R_reads' HO_0.out).1; omega) | simpa using h_); obtain rfl := k51_openM hM18; have HP18 := Kd.R_seg HX18.out (x5_1 : Int) (of_decide_eq_true (by assumption)) (by have h_ : (x5_1 : Int) < ((x0_1.length : Int) : Int) := of_decide_eq_true (by assumption); first | exact h_ | (have e_ := (Kd.R_reads' HO_0.out).1; omega) | simpa using h_) (seg := [.int .i64 (wrap64 ((wrap64 ((wrap64 (x1_1 + 1)) + 1)) + 1))]) (j := 3) hcl18 hcc18 (show 4 ≤ 6 from by decide) (x' := (⟨(rd_T51 y339 x5_1).f0, (rd_T51 y339 x5_1).f1, (⟨(rd_T51 y339 x5_1).f2.f0, wrap64 ((wrap64 ((wrap64 (x1_1 + 1)) + 1)) + 1), (rd_T51 y339 x5_1).f2.f2, (rd_T51 y339 x5_1).f2.f3⟩ : S31)⟩ : S51)) (k51_mkM _ _ _ (⟨(rd_T51 y339 x5_1).f0, (rd_T51 y339 x5_1).f1, (⟨(rd_T51 y339 x5_1).f2.f0, wrap64 ((wrap64 ((wrap64 (x1_1 + 1)) + 1)) + 1), (rd_T51 y339 x5_1).f2.f2, (rd_T51 y339 x5_1).f2.f3⟩ : S31)⟩ : S51) ) (fun _ hk => hk); have hx18_3 := hcc18 3 _ rfl; (try simp only [show (k51).sz = 6 from rfl, Nat.mul_one, Nat.add_zero] at hx18_3); have hf18_3 := hfr18 3; (try simp only [show (k51).sz = 6 from rfl, Nat.mul_one, Nat.add_zero] at hf18_3); clear hcl18 hcc18 hfr18 hM18) | ((with_reducible refine gate_store (t := 2) (p := 42) rfl ?_); refine store_event (t := 2) (p := 42) (v := ?vo_w19) (w1 := (w17.setCell ⟨go5, (x5_1 : Int).toNat * 6 + 3, none⟩ (.int .i64 (wrap64 ((wrap64 ((wrap64 (x1_1 + 1)) + 1)) + 1))))) ?hg ?ho ?hn ?hr ?_; (case ho => rfl); (case hg => rfl); (case hn => rfl); (case hr => first | (go_simp; done) | (go_simp; rfl)); intro w19 hw; have hg : w17.grownBy w19 (some go5) := (by rw [hw]; exact HP18.2); have hp_ : Kd.R k51 51 w19 w0.heap.size (fun k_ => (P0_ k_ ∨ w.heap.size ≤ k_)) (.slice (some ⟨go5, 0, none⟩) x0_1.length co11) y340 := (by rw [hw, Ny340.out]; exact HP18.1); clear HP18; have n0_ := Aside0.mk (hp_); have n1_ := Aside0.mk ((by rw [hw]; exact below_set (HB.out) GB5.out : Below w0.heap.size w0 w19)); have n2_ := Aside0.mk (Kept.of_grown (S := (fun k_ => P0_ k_)) hg (by repeat (first | (with_reducible first | exact HK.out | apply Kept.alloc | apply Kept.drewN | apply Kept.drew) | exact HK.out)) (fun k_ e_ => (HO_0.out.1 k_ e_))); clear HO_0; clear HB; clear HK; have HO_0 := n0_; have HB := n1_; have HK := n2_; clear n0_ n1_ n2_; clear hg hw hp_; have p9 : 0 ≤ (x5_1 : Int) := of_decide_eq_true (by assumption); have q9 : (x5_1 : Int) < ((x0_1.length : Int) : Int) := of_decide_eq_true (by assumption); obtain ⟨ce9, hcl9, hM9, hcc9, hfr9⟩ := Kd.R_elem HO_0.out z51 (x5_1 : Int) p9 q9; obtain rfl := k51_openM hM9; have hx9_0 : w19.cell? ⟨go5, (x5_1 : Int).toNat * 6, none⟩ = some (.bool ((rd_T51 y340 x5_1).f0)) := hcc9 0 _ rfl; have hx9_1 : w19.cell? ⟨go5, (x5_1 : Int).toNat * 6 + 1, none⟩ = some (.int .i8 ((rd_T51 y340 x5_1).f1)) := hcc9 1 _ rfl; have hx9_2 : w19.cell? ⟨go5, (x5_1 : Int).toNat * 6 + 2, none⟩ = some (.int .i64 ((rd_T51 y340 x5_1).f2.f0)) := hcc9 2 _ rfl; have hx9_3 : w19.cell? ⟨go5, (x5_1 : Int).toNat * 6 + 3, none⟩ = some (.int .i64 ((rd_T51 y340 x5_1).f2.f1)) := hcc9 3 _ rfl; have hx9_4 : w19.cell? ⟨go5, (x5_1 : Int).toNat * 6 + 4, none⟩ = some (.int .i64 ((rd_T51 y340 x5_1).f2.f2)) := hcc9 4 _ rfl; have hx9_5 : w19.cell? ⟨go5, (x5_1 : Int).toNat * 6 + 5, none⟩ = some (.int .i64 ((rd_T51 y340 x5_1).f2.f3)) := hcc9 5 _ rfl; have hf9_0 : w19.frozen? ⟨go5, (x5_1 : Int).toNat * 6, none⟩ = false := hfr9 0; have hf9_1 : w19.frozen? ⟨go5, (x5_1 : Int).toNat * 6 + 1, none⟩ = false := hfr9 1; have hf9_2 : w19.frozen? ⟨go5, (x5_1 : Int).toNat * 6 + 2, none⟩ = false := hfr9 2; have hf9_3 : w19.frozen? ⟨go5, (x5_1 : Int).toNat * 6 + 3, none⟩ = false := hfr9 3; have hf9_4 : w19.frozen? ⟨go5, (x5_1 : Int).toNat * 6 + 4, none⟩ = false := hfr9 4; have hf9_5 : w19.frozen? ⟨go5, (x5_1 : Int).toNat * 6 + 5, none⟩ = false := hfr9 5; clear hcl9 hcc9 hfr9 hM9; replace p9 := eq_true p9; replace q9 := eq_true q9; have HX20 := Aside0.mk (show Kd.R k51 51 w19 w0.heap.size (fun k_ => (P0_ k_ ∨ w.heap.size ≤ k_)) (.slice (some ⟨go5, 0, none⟩) x0_1.length co11) y340 from (by (with_reducible repeat (first | apply Kd.R_alloc | apply Kd.R_drewN | apply Kd.R_drew)); exact HO_0.out)); obtain ⟨ce20, hcl20, hM20, hcc20, hfr20⟩ := Kd.R_elem HX20.out z51 (x5_1 : Int) (of_decide_eq_true (by assumption)) (by have h_ : (x5_1 : Int) < ((x0_1.length : Int) : Int) := of_decide_eq_true (by assumption); first | exact h_ | (have e_ := (Kd.R_reads' HO_0.out).1; omega) | simpa using h_); obtain rfl := k51_openM hM20; have HP20 := Kd.R_seg HX20.out (x5_1 : Int) (of_decide_eq_true (by assumption)) (by have h_ : (x5_1 : Int) < ((x0_1.length : Int) : Int) := of_decide_eq_true (by assumption); first | exact h_ | (have e_ := (Kd.R_reads' HO_0.out).1; omega) | simpa using h_) (seg := [.int .i64 (wrap64 ((wrap64 ((wrap64 ((wrap64 (x1_1 + 1)) + 1)) + 1)) + 1))]) (j := 4) hcl20 hcc20 (show 5 ≤ 6 from by decide) (x' := (⟨(rd_T51 y340 x5_1).f0, (rd_T51 y340 x5_1).f1, (⟨(rd_T51 y340 x5_1).f2.f0, (rd_T51 y340 x5_1).f2.f1, wrap64 ((wrap64 ((wrap64 ((wrap64 (x1_1 + 1)) + 1)) + 1)) + 1), (rd_T51 y340 x5_1).f2.f3⟩ : S31)⟩ : S51)) (k51_mkM _ _ _ (⟨(rd_T51 y340 x5_1).f0, (rd_T51 y340 x5_1).f1, (⟨(rd_T51 y340 x5_1).f2.f0, (rd_T51 y340 x5_1).f2.f1, wrap64 ((wrap64 ((wrap64 ((wrap64 (x1_1 + 1)) + 1)) + 1)) + 1), (rd_T51 y340 x5_1).f2.f3⟩ : S31)⟩ : S51) ) (fun _ hk => hk); have hx20_4 := hcc20 4 _ rfl; (try simp only [show (k51).sz = 6 from rfl, Nat.mul_one, Nat.add_zero] at hx20_4); have hf20_4 := hfr20 4; (try simp only [show (k51).sz = 6 from rfl, Nat.mul_one, Nat.add_zero] at hf20_4); clear hcl20 hcc20 hfr20 hM20) | ((with_reducible refine gate_store (t := 2) (p := 50) rfl ?_); refine store_event (t := 2) (p := 50) (v := ?vo_w21) (w1 := (w19.setCell ⟨go5, (x5_1 : Int).toNat * 6 + 4, none⟩ (.int .i64 (wrap64 ((wrap64 ((wrap64 ((wrap64 (x1_1 + 1)) + 1)) + 1)) + 1))))) ?hg ?ho ?hn ?hr ?_; (case ho => rfl); (case hg => rfl); (case hn => rfl); (case hr => first | (go_simp; done) | (go_simp; rfl)); intro w21 hw; have hg : w19.grownBy w21 (some go5) := (by rw [hw]; exact HP20.2); have hp_ : Kd.R k51 51 w21 w0.heap.size (fun k_ => (P0_ k_ ∨ w.heap.size ≤ k_)) (.slice (some ⟨go5, 0, none⟩) x0_1.length co11) y341 := (by rw [hw, Ny341.out]; exact HP20.1); clear HP20; have n0_ := Aside0.mk (hp_); have n1_ := Aside0.mk ((by rw [hw]; exact below_set (HB.out) GB5.out : Below w0.heap.size w0 w21)); have n2_ := Aside0.mk (Kept.of_grown (S := (fun k_ => P0_ k_)) hg (by repeat (first | (with_reducible first | exact HK.out | apply Kept.alloc | apply Kept.drewN | apply Kept.drew) | exact HK.out)) (fun k_ e_ => (HO_0.out.1 k_ e_))); clear HO_0; clear HB; clear HK; have HO_0 := n0_; have HB := n1_; have HK := n2_; clear n0_ n1_ n2_; clear hg hw hp_; have p10 : 0 ≤ (x5_1 : Int) := of_decide_eq_true (by assumption); have q10 : (x5_1 : Int) < ((x0_1.length : Int) : Int) := of_decide_eq_true (by assumption); obtain ⟨ce10, hcl10, hM10, hcc10, hfr10⟩ := Kd.R_elem HO_0.out z51 (x5_1 : Int) p10 q10; obtain rfl := k51_openM hM10; have hx10_0 : w21.cell? ⟨go5, (x5_1 : Int).toNat * 6, none⟩ = some (.bool ((rd_T51 y341 x5_1).f0)) := hcc10 0 _ rfl; have hx10_1 : w21.cell? ⟨go5, (x5_1 : Int).toNat * 6 + 1, none⟩ = some (.int .i8 ((rd_T51 y341 x5_1).f1)) := hcc10 1 _ rfl; have hx10_2 : w21.cell? ⟨go5, (x5_1 : Int).toNat * 6 + 2, none⟩ = some (.int .i64 ((rd_T51 y341 x5_1).f2.f0)) := hcc10 2 _ rfl; have hx10_3 : w21.cell? ⟨go5, (x5_1 : Int).toNat * 6 + 3, none⟩ = some (.int .i64 ((rd_T51 y341 x5_1).f2.f1)) := hcc10 3 _ rfl; have hx10_4 : w21.cell? ⟨go5, (x5_1 : Int).toNat * 6 + 4, none⟩ = some (.int .i64 ((rd_T51 y341 x5_1).f2.f2)) := hcc10 4 _ rfl; have hx10_5 : w21.cell? ⟨go5, (x5_1 : Int).toNat * 6 + 5, none⟩ = some (.int .i64 ((rd_T51 y341 x5_1).f2.f3)) := hcc10 5 _ rfl; have hf10_0 : w21.frozen? ⟨go5, (x5_1 : Int).toNat * 6, none⟩ = false := hfr10 0; have hf10_1 : w21.frozen? ⟨go5, (x5_1 : Int).toNat * 6 + 1, none⟩ = false := hfr10 1; have hf10_2 : w21.frozen? ⟨go5, (x5_1 : Int).toNat * 6 + 2, none⟩ = false := hfr10 2; have hf10_3 : w21.frozen? ⟨go5, (x5_1 : Int).toNat * 6 + 3, none⟩ = false := hfr10 3; have hf10_4 : w21.frozen? ⟨go5, (x5_1 : Int).toNat * 6 + 4, none⟩ = false := hfr10 4; have hf10_5 : w21.frozen? ⟨go5, (x5_1 : Int).toNat * 6 + 5, none⟩ = false := hfr10 5; clear hcl10 hcc10 hfr10 hM10; replace p10 := eq_true p10; replace q10 := eq_true q10; have HX22 := Aside0.mk (show Kd.R k51 51 w21 w0.heap.size (fun k_ => (P0_ k_ ∨ w.heap.size ≤ k_)) (.slice (some ⟨go5, 0, none⟩) x0_1.length co11) y341 from (by (with_reducible repeat (first | apply Kd.R_alloc | apply Kd.R_drewN | apply Kd.R_drew)); exact HO_0.out)); obtain ⟨ce22, hcl22, hM22, hcc22, hfr22⟩ := Kd.R_elem HX22.out z51 (x5_1 : Int) (of_decide_eq_true (by assumption)) (by have h_ : (x5_1 : Int) < ((x0_1.length : Int) : Int) := of_decide_eq_true (by assumption); first | exact h_ | (have e_ := (Kd.R_reads' HO_0.out).1; omega) | simpa using h_); obtain rfl := k51_openM hM22; have HP22 := Kd.R_seg HX22.out (x5_1 : Int) (of_decide_eq_true (by assumption)) (by have h_ : (x5_1 : Int) < ((x0_1.length : Int) : Int) := of_decide_eq_true (by assumption); first | exact h_ | (have e_ := (Kd.R_reads' HO_0.out).1; omega) | simpa using h_) (seg := [.int .i64 (wrap64 ((wrap64 ((wrap64 ((wrap64 ((wrap64 (x1_1 + 1)) + 1)) + 1)) + 1)) + 1))]) (j := 5) hcl22 hcc22 (show 6 ≤ 6 from by decide) (x' := (⟨(rd_T51 y341 x5_1).f0, (rd_T51 y341 x5_1).f1, (⟨(rd_T51 y341 x5_1).f2.f0, (rd_T51 y341 x5_1).f2.f1, (rd_T51 y341 x5_1).f2.f2, wrap64 ((wrap64 ((wrap64 ((wrap64 ((wrap64 (x1_1 + 1)) + 1)) + 1)) + 1)) + 1)⟩ : S31)⟩ : S51)) (k51_mkM _ _ _ (⟨(rd_T51 y341 x5_1).f0, (rd_T51 y341 x5_1).f1, (⟨(rd_T51 y341 x5_1).f2.f0, (rd_T51 y341 x5_1).f2.f1, (rd_T51 y341 x5_1).f2.f2, wrap64 ((wrap64 ((wrap64 ((wrap64 ((wrap64 (x1_1 + 1)) + 1)) + 1)) + 1)) + 1)⟩ : S31)⟩ : S51) ) (fun _ hk => hk); have hx22_5 := hcc22 5 _ rfl; (try simp only [show (k51).sz = 6 from rfl, Nat.mul_one, Nat.add_zero] at hx22_5); have hf22_5 := hfr22 5; (try simp only [show (k51).sz = 6 from rfl, Nat.mul_one, Nat.add_zero] at hf22_5); clear hcl22 hcc22 hfr22 hM22) | ((with_reducible refine gate_store (t := 2) (p := 58) rfl ?_); refine store_event (t := 2) (p := 58) (v := ?vo_w23) (w1 := (w21.setCell ⟨go5, (x5_1 : Int).toNat * 6 + 5, none⟩ (.int .i64 (wrap64 ((wrap64 ((wrap64 ((wrap64 ((wrap64 (x1_1 + 1)) + 1)) + 1)) + 1)) + 1))))) ?hg ?ho ?hn ?hr ?_; (case ho => rfl); (case hg => rfl); (case hn => rfl); (case hr => first | (go_simp; done) | (go_simp; rfl)); intro w23 hw; have hg : w21.grownBy w23 (some go5) := (by rw [hw]; exact HP22.2); have hp_ : Kd.R k51 51 w23 w0.heap.size (fun k_ => (P0_ k_ ∨ w.heap.size ≤ k_)) (.slice (some ⟨go5, 0, none⟩) x0_1.length co11) y342 := (by rw [hw, Ny342.out]; exact HP22.1); clear HP22; have n0_ := Aside0.mk (hp_); have n1_ := Aside0.mk ((by rw [hw]; exact below_set (HB.out) GB5.out : Below w0.heap.size w0 w23)); have n2_ := Aside0.mk (Kept.of_grown (S := (fun k_ => P0_ k_)) hg (by repeat (first | (with_reducible first | exact HK.out | apply Kept.alloc | apply Kept.drewN | apply Kept.drew) | exact HK.out)) (fun k_ e_ => (HO_0.out.1 k_ e_))); clear HO_0; clear HB; clear HK; have HO_0 := n0_; have HB := n1_; have HK := n2_; clear n0_ n1_ n2_; clear hg hw hp_))
     go_roundg k1
     case measure => have := HK1.out; omega
     case rel => exact ⟨(y342), (wrap64 ((wrap64 ((wrap64 ((wrap64 ((wrap64 ((wrap64 (x1_1 + 1)) + 1)) + 1)) + 1)) + 1)) + 1)), (wrap64 (x5_1 + 1)), (by first | rfl | (simp; done) | (simp [*]; done)), (by first | rfl | (simp; done) | (simp [*]; done)), H', ⟨by have := HK1.out; omega⟩, ⟨by (with_reducible repeat (first | apply Kd.R_alloc | apply Kd.R_drewN | apply Kd.R_drew)); exact HO_0.out⟩, ⟨by repeat (first | (with_reducible first | exact HK.out | apply Kept.alloc | apply Kept.drewN | apply Kept.drew) | exact HK.out)⟩, ⟨by repeat (first | (with_reducible first | exact HB.out | apply below_alloc | apply pw_below_drewN | apply below_drew1) | exact HB.out)⟩⟩
    ·
     rw [if_neg c4] at H
     exact absurd H (by simp)
   ·
    rw [if_neg c3] at H
    have c3b0 : decide (x5_1 < (x0_1.length : Int)) = false := decide_eq_false c3
    clear c3
    simp only [Option.some.injEq, Prod.mk.injEq] at H
    obtain ⟨rfl, rfl⟩ := H
    obtain ⟨Ao24, co24, eo24⟩ := Kd.R_slice HO_0.out
    subst eo24
    go_wp2
    go_ret
    exact ⟨by first | rfl | (simp [errW_none, errW_some] <;> rfl) | (simp [*, errW_none, errW_some] <;> rfl), by (with_reducible repeat (first | apply Kd.R_alloc | apply Kd.R_drewN | apply Kd.R_drew)); exact HO_0.out, by repeat (first | (with_reducible first | exact HB.out | apply below_alloc | apply pw_below_drewN | apply below_drew1) | exact HB.out), by repeat (first | (with_reducible first | exact HK.out | apply Kept.alloc | apply Kept.drewN | apply Kept.drew) | exact HK.out)⟩
/-! ### laws_heldTurnS: function 16 -/
def laws_heldTurnS.l0 : Nat → List (S51) → Int → Int → Option (Int)
 | 0, _, _, _ => none
 | k + 1, x0, x1, x5 => if x5 < (x0.length : Int) then (if 0 ≤ x5 then (if (((rd_T51 x0 x5).f0) != ((Int.tmod x1 3) == 0)) = true then (some (-1)) else (if ((rd_T51 x0 x5).f1) = (IntKind.i8.wrap (wrap64 (x1 + 1))) then (if ((rd_T51 x0 x5).f2.f0) = (wrap64 ((wrap64 (x1 + 1)) + 1)) then (if ((rd_T51 x0 x5).f2.f1) = (wrap64 ((wrap64 ((wrap64 (x1 + 1)) + 1)) + 1)) then (if ((rd_T51 x0 x5).f2.f2) = (wrap64 ((wrap64 ((wrap64 ((wrap64 (x1 + 1)) + 1)) + 1)) + 1)) then (if ((rd_T51 x0 x5).f2.f3) = (wrap64 ((wrap64 ((wrap64 ((wrap64 ((wrap64 (x1 + 1)) + 1)) + 1)) + 1)) + 1)) then (laws_heldTurnS.l0 k x0 (wrap64 ((wrap64 ((wrap64 ((wrap64 ((wrap64 ((wrap64 (x1 + 1)) + 1)) + 1)) + 1)) + 1)) + 1)) (wrap64 (x5 + 1))) else (some (-1))) else (some (-1))) else (some (-1))) else (some (-1))) else (some (-1)))) else (none)) else (some x1)
def laws_heldTurnS.f (k : Nat) (l0 : List (S51)) (a1 : Int) : Option (Int) := laws_heldTurnS.l0 k l0 a1 0
theorem laws_heldTurnS.mono_l : ∀ k, (∀ y0 y1 y2, LeO (laws_heldTurnS.l0 k y0 y1 y2) (laws_heldTurnS.l0 (k + 1) y0 y1 y2))
 | 0 => fun _ _ _ r h => by simp [laws_heldTurnS.l0] at h
 | k + 1 => by
  have ih0 := laws_heldTurnS.mono_l k
  ·
   intro y0 y1 y2
   unfold laws_heldTurnS.l0
   repeat' first
   | (with_reducible exact ih0 _ _ _)
   | (with_reducible exact LeO.refl _)
   | (with_reducible exact LeO.none _)
   | (with_reducible refine LeO.ite ?_ ?_)
   | (with_reducible refine LeO.bind ?_ (fun _ => ?_))
   | exact ih0 _ _ _
   | exact LeO.none _
   | refine LeO.ite ?_ ?_
   | refine LeO.bind ?_ (fun _ => ?_)
theorem laws_heldTurnS.mono : ∀ a0 a1 k, LeO (laws_heldTurnS.f k a0 a1) (laws_heldTurnS.f (k + 1) a0 a1) := by
 intro a0 a1 k
 have ih0 := laws_heldTurnS.mono_l k
 unfold laws_heldTurnS.f
 repeat' first
   | (with_reducible exact ih0 _ _ _)
   | (with_reducible exact LeO.refl _)
   | (with_reducible exact LeO.none _)
   | (with_reducible refine LeO.ite ?_ ?_)
   | (with_reducible refine LeO.bind ?_ (fun _ => ?_))
   | exact ih0 _ _ _
   | exact LeO.none _
   | refine LeO.ite ?_ ?_
   | refine LeO.bind ?_ (fun _ => ?_)
set_option maxHeartbeats 8000000 in
set_option maxRecDepth 100000 in
theorem laws_heldTurnS.calls (k : Nat) (A0 : Option Addr) (c0 : Nat) (l0 : List (S51)) (a1 : Int) (r : Int) (w : World) (hr0 : Kd.C k51 w A0 l0.length l0) (hc0 : l0.length ≤ c0) (h : laws_heldTurnS.f k l0 a1 = some r) :
  Calls Try.prog 16 #[.slice A0 l0.length c0, .int .i64 a1] w fun e w' => e = .returned (.int .i64 r) ∧ Drawn0 w w' := by
 have HR0 := Aside0.mk hr0
 have HC0 := Aside0.mk hc0
 clear hr0 hc0
 have H : (laws_heldTurnS.l0 k l0 a1 0) = some r := h
 clear h
 have H' := Aside0.mk H
 clear H
 go_enter Try.func16, Try.ntmps16
 go_wp2
 go_loopg [1, 5] k (fun kq v1 v5 w' => ∃ (x1_1 : Int) (x5_1 : Int), v1 = .int .i64 x1_1 ∧ v5 = .int .i64 x5_1 ∧ Aside0 (laws_heldTurnS.l0 kq l0 x1_1 x5_1 = some r) ∧ Aside0 (kq ≤ k) ∧ Drawn0 w w')
 case atStart => exact ⟨(a1), (0), (by first | rfl | (simp; done) | (simp [*]; done)), (by first | rfl | (simp; done) | (simp [*]; done)), H', ⟨Nat.le_refl _⟩, by repeat (first | exact Drawn0.refl _ | apply Drawn0.step)⟩
 case round =>
  clear H'
  try clear c1
  try clear p2
  obtain ⟨x1_1, x5_1, rfl, rfl, HA, HK1, ⟨m1, rfl⟩⟩ := hrel
  cases gk with
  | zero => exact absurd HA.out (by simp [laws_heldTurnS.l0])
  | succ k1 =>
   have H := HA.out
   clear HA
   simp only [laws_heldTurnS.l0] at H
   by_cases c3 : x5_1 < (l0.length : Int)
   ·
    rw [if_pos c3] at H
    have c3b0 : decide (x5_1 < (l0.length : Int)) = true := decide_eq_true c3
    clear c3
    by_cases c4 : 0 ≤ x5_1
    ·
     rw [if_pos c4] at H
     have c4b0 : decide (0 ≤ x5_1) = true := decide_eq_true c4
     clear c4
     by_cases c5 : (((rd_T51 l0 x5_1).f0) != ((Int.tmod x1_1 3) == 0)) = true
     ·
      rw [if_pos c5] at H
      have c5b0 : (((rd_T51 l0 x5_1).f0) != ((Int.tmod x1_1 3) == 0)) = true := c5
      (try (have c5b1 : decide (((rd_T51 l0 x5_1).f0) = ((Int.tmod x1_1 3) == 0)) = false := by simpa using c5))
      (try (have c5b2 : (((rd_T51 l0 x5_1).f0) == ((Int.tmod x1_1 3) == 0)) = false := by simpa using c5))
      (try (have c5b3 : ¬ (((rd_T51 l0 x5_1).f0) = ((Int.tmod x1_1 3) == 0)) := by simpa using c5))
      clear c5
      obtain rfl := Option.some.inj H
      have p343 : 0 ≤ (x5_1 : Int) := of_decide_eq_true (by assumption)
      have q343 : x5_1 < (l0.length : Int) := of_decide_eq_true (by assumption)
      obtain ⟨ad343, e343, hx343_0, hx343_1, hx343_2, hx343_3, hx343_4, hx343_5⟩ := at_T51 HR0.out x5_1 p343 q343
      cases e343
      replace p343 := eq_true p343
      replace q343 := eq_true q343
      go_wp2
      go_ret
      exact ⟨by first | rfl | (simp; done) | (simp [*]; done), by repeat (first | exact Drawn0.refl _ | apply Drawn0.step)⟩
     ·
      rw [if_neg c5] at H
      have c5b0 : (((rd_T51 l0 x5_1).f0) != ((Int.tmod x1_1 3) == 0)) = false := by simpa using c5
      (try (have c5b1 : decide (((rd_T51 l0 x5_1).f0) = ((Int.tmod x1_1 3) == 0)) = true := by simpa using c5))
      (try (have c5b2 : (((rd_T51 l0 x5_1).f0) == ((Int.tmod x1_1 3) == 0)) = true := by simpa using c5))
      clear c5
      by_cases c6 : ((rd_T51 l0 x5_1).f1) = (IntKind.i8.wrap (wrap64 (x1_1 + 1)))
      ·
       rw [if_pos c6] at H
       have c6b0 : (((rd_T51 l0 x5_1).f1) == (IntKind.i8.wrap (wrap64 (x1_1 + 1)))) = true := beq_iff_eq.mpr c6
       have c6b1 : (((rd_T51 l0 x5_1).f1) != (IntKind.i8.wrap (wrap64 (x1_1 + 1)))) = false := bne_eq_false_iff_eq.mpr c6
       clear c6
       by_cases c7 : ((rd_T51 l0 x5_1).f2.f0) = (wrap64 ((wrap64 (x1_1 + 1)) + 1))
       ·
        rw [if_pos c7] at H
        have c7b0 : (((rd_T51 l0 x5_1).f2.f0) == (wrap64 ((wrap64 (x1_1 + 1)) + 1))) = true := beq_iff_eq.mpr c7
        have c7b1 : (((rd_T51 l0 x5_1).f2.f0) != (wrap64 ((wrap64 (x1_1 + 1)) + 1))) = false := bne_eq_false_iff_eq.mpr c7
        clear c7
        by_cases c8 : ((rd_T51 l0 x5_1).f2.f1) = (wrap64 ((wrap64 ((wrap64 (x1_1 + 1)) + 1)) + 1))
        ·
         rw [if_pos c8] at H
         have c8b0 : (((rd_T51 l0 x5_1).f2.f1) == (wrap64 ((wrap64 ((wrap64 (x1_1 + 1)) + 1)) + 1))) = true := beq_iff_eq.mpr c8
         have c8b1 : (((rd_T51 l0 x5_1).f2.f1) != (wrap64 ((wrap64 ((wrap64 (x1_1 + 1)) + 1)) + 1))) = false := bne_eq_false_iff_eq.mpr c8
         clear c8
         by_cases c9 : ((rd_T51 l0 x5_1).f2.f2) = (wrap64 ((wrap64 ((wrap64 ((wrap64 (x1_1 + 1)) + 1)) + 1)) + 1))
         ·
          rw [if_pos c9] at H
          have c9b0 : (((rd_T51 l0 x5_1).f2.f2) == (wrap64 ((wrap64 ((wrap64 ((wrap64 (x1_1 + 1)) + 1)) + 1)) + 1))) = true := beq_iff_eq.mpr c9
          have c9b1 : (((rd_T51 l0 x5_1).f2.f2) != (wrap64 ((wrap64 ((wrap64 ((wrap64 (x1_1 + 1)) + 1)) + 1)) + 1))) = false := bne_eq_false_iff_eq.mpr c9
          clear c9
          by_cases c10 : ((rd_T51 l0 x5_1).f2.f3) = (wrap64 ((wrap64 ((wrap64 ((wrap64 ((wrap64 (x1_1 + 1)) + 1)) + 1)) + 1)) + 1))
          ·
           rw [if_pos c10] at H
           have c10b0 : (((rd_T51 l0 x5_1).f2.f3) == (wrap64 ((wrap64 ((wrap64 ((wrap64 ((wrap64 (x1_1 + 1)) + 1)) + 1)) + 1)) + 1))) = true := beq_iff_eq.mpr c10
           have c10b1 : (((rd_T51 l0 x5_1).f2.f3) != (wrap64 ((wrap64 ((wrap64 ((wrap64 ((wrap64 (x1_1 + 1)) + 1)) + 1)) + 1)) + 1))) = false := bne_eq_false_iff_eq.mpr c10
           clear c10
           have H' := Aside0.mk H
           clear H
           have p343 : 0 ≤ (x5_1 : Int) := of_decide_eq_true (by assumption)
           have q343 : x5_1 < (l0.length : Int) := of_decide_eq_true (by assumption)
           obtain ⟨ad343, e343, hx343_0, hx343_1, hx343_2, hx343_3, hx343_4, hx343_5⟩ := at_T51 HR0.out x5_1 p343 q343
           cases e343
           replace p343 := eq_true p343
           replace q343 := eq_true q343
           have p344 : 0 ≤ (x5_1 : Int) := of_decide_eq_true (by assumption)
           have q344 : x5_1 < (l0.length : Int) := of_decide_eq_true (by assumption)
           obtain ⟨ad344, e344, hx344_0, hx344_1, hx344_2, hx344_3, hx344_4, hx344_5⟩ := at_T51 HR0.out x5_1 p344 q344
           obtain rfl : ad343 = ad344 := (by injection e344)
           replace p344 := eq_true p344
           replace q344 := eq_true q344
           have p345 : 0 ≤ (x5_1 : Int) := of_decide_eq_true (by assumption)
           have q345 : x5_1 < (l0.length : Int) := of_decide_eq_true (by assumption)
           obtain ⟨ad345, e345, hx345_0, hx345_1, hx345_2, hx345_3, hx345_4, hx345_5⟩ := at_T51 HR0.out x5_1 p345 q345
           obtain rfl : ad343 = ad345 := (by injection e345)
           replace p345 := eq_true p345
           replace q345 := eq_true q345
           have p346 : 0 ≤ (x5_1 : Int) := of_decide_eq_true (by assumption)
           have q346 : x5_1 < (l0.length : Int) := of_decide_eq_true (by assumption)
           obtain ⟨ad346, e346, hx346_0, hx346_1, hx346_2, hx346_3, hx346_4, hx346_5⟩ := at_T51 HR0.out x5_1 p346 q346
           obtain rfl : ad343 = ad346 := (by injection e346)
           replace p346 := eq_true p346
           replace q346 := eq_true q346
           have p347 : 0 ≤ (x5_1 : Int) := of_decide_eq_true (by assumption)
           have q347 : x5_1 < (l0.length : Int) := of_decide_eq_true (by assumption)
           obtain ⟨ad347, e347, hx347_0, hx347_1, hx347_2, hx347_3, hx347_4, hx347_5⟩ := at_T51 HR0.out x5_1 p347 q347
           obtain rfl : ad343 = ad347 := (by injection e347)
           replace p347 := eq_true p347
           replace q347 := eq_true q347
           have p348 : 0 ≤ (x5_1 : Int) := of_decide_eq_true (by assumption)
           have q348 : x5_1 < (l0.length : Int) := of_decide_eq_true (by assumption)
           obtain ⟨ad348, e348, hx348_0, hx348_1, hx348_2, hx348_3, hx348_4, hx348_5⟩ := at_T51 HR0.out x5_1 p348 q348
           obtain rfl : ad343 = ad348 := (by injection e348)
           replace p348 := eq_true p348
           replace q348 := eq_true q348
           go_wp2
           go_roundg k1
           case measure => have := HK1.out; omega
           case rel => exact ⟨(wrap64 ((wrap64 ((wrap64 ((wrap64 ((wrap64 ((wrap64 (x1_1 + 1)) + 1)) + 1)) + 1)) + 1)) + 1)), (wrap64 (x5_1 + 1)), (by first | rfl | (simp; done) | (simp [*]; done)), (by first | rfl | (simp; done) | (simp [*]; done)), H', ⟨by have := HK1.out; omega⟩, by repeat (first | exact Drawn0.refl _ | apply Drawn0.step)⟩
          ·
           rw [if_neg c10] at H
           have c10b0 : (((rd_T51 l0 x5_1).f2.f3) == (wrap64 ((wrap64 ((wrap64 ((wrap64 ((wrap64 (x1_1 + 1)) + 1)) + 1)) + 1)) + 1))) = false := beq_eq_false_iff_ne.mpr c10
           have c10b1 : (((rd_T51 l0 x5_1).f2.f3) != (wrap64 ((wrap64 ((wrap64 ((wrap64 ((wrap64 (x1_1 + 1)) + 1)) + 1)) + 1)) + 1))) = true := bne_iff_ne.mpr c10
           obtain rfl := Option.some.inj H
           have p343 : 0 ≤ (x5_1 : Int) := of_decide_eq_true (by assumption)
           have q343 : x5_1 < (l0.length : Int) := of_decide_eq_true (by assumption)
           obtain ⟨ad343, e343, hx343_0, hx343_1, hx343_2, hx343_3, hx343_4, hx343_5⟩ := at_T51 HR0.out x5_1 p343 q343
           cases e343
           replace p343 := eq_true p343
           replace q343 := eq_true q343
           have p344 : 0 ≤ (x5_1 : Int) := of_decide_eq_true (by assumption)
           have q344 : x5_1 < (l0.length : Int) := of_decide_eq_true (by assumption)
           obtain ⟨ad344, e344, hx344_0, hx344_1, hx344_2, hx344_3, hx344_4, hx344_5⟩ := at_T51 HR0.out x5_1 p344 q344
           obtain rfl : ad343 = ad344 := (by injection e344)
           replace p344 := eq_true p344
           replace q344 := eq_true q344
           have p345 : 0 ≤ (x5_1 : Int) := of_decide_eq_true (by assumption)
           have q345 : x5_1 < (l0.length : Int) := of_decide_eq_true (by assumption)
           obtain ⟨ad345, e345, hx345_0, hx345_1, hx345_2, hx345_3, hx345_4, hx345_5⟩ := at_T51 HR0.out x5_1 p345 q345
           obtain rfl : ad343 = ad345 := (by injection e345)
           replace p345 := eq_true p345
           replace q345 := eq_true q345
           have p346 : 0 ≤ (x5_1 : Int) := of_decide_eq_true (by assumption)
           have q346 : x5_1 < (l0.length : Int) := of_decide_eq_true (by assumption)
           obtain ⟨ad346, e346, hx346_0, hx346_1, hx346_2, hx346_3, hx346_4, hx346_5⟩ := at_T51 HR0.out x5_1 p346 q346
           obtain rfl : ad343 = ad346 := (by injection e346)
           replace p346 := eq_true p346
           replace q346 := eq_true q346
           have p347 : 0 ≤ (x5_1 : Int) := of_decide_eq_true (by assumption)
           have q347 : x5_1 < (l0.length : Int) := of_decide_eq_true (by assumption)
           obtain ⟨ad347, e347, hx347_0, hx347_1, hx347_2, hx347_3, hx347_4, hx347_5⟩ := at_T51 HR0.out x5_1 p347 q347
           obtain rfl : ad343 = ad347 := (by injection e347)
           replace p347 := eq_true p347
           replace q347 := eq_true q347
           have p348 : 0 ≤ (x5_1 : Int) := of_decide_eq_true (by assumption)
           have q348 : x5_1 < (l0.length : Int) := of_decide_eq_true (by assumption)
           obtain ⟨ad348, e348, hx348_0, hx348_1, hx348_2, hx348_3, hx348_4, hx348_5⟩ := at_T51 HR0.out x5_1 p348 q348
           obtain rfl : ad343 = ad348 := (by injection e348)
           replace p348 := eq_true p348
           replace q348 := eq_true q348
           go_wp2
           go_ret
           exact ⟨by first | rfl | (simp; done) | (simp [*]; done), by repeat (first | exact Drawn0.refl _ | apply Drawn0.step)⟩
         ·
          rw [if_neg c9] at H
          have c9b0 : (((rd_T51 l0 x5_1).f2.f2) == (wrap64 ((wrap64 ((wrap64 ((wrap64 (x1_1 + 1)) + 1)) + 1)) + 1))) = false := beq_eq_false_iff_ne.mpr c9
          have c9b1 : (((rd_T51 l0 x5_1).f2.f2) != (wrap64 ((wrap64 ((wrap64 ((wrap64 (x1_1 + 1)) + 1)) + 1)) + 1))) = true := bne_iff_ne.mpr c9
          obtain rfl := Option.some.inj H
          have p343 : 0 ≤ (x5_1 : Int) := of_decide_eq_true (by assumption)
          have q343 : x5_1 < (l0.length : Int) := of_decide_eq_true (by assumption)
          obtain ⟨ad343, e343, hx343_0, hx343_1, hx343_2, hx343_3, hx343_4, hx343_5⟩ := at_T51 HR0.out x5_1 p343 q343
          cases e343
          replace p343 := eq_true p343
          replace q343 := eq_true q343
          have p344 : 0 ≤ (x5_1 : Int) := of_decide_eq_true (by assumption)
          have q344 : x5_1 < (l0.length : Int) := of_decide_eq_true (by assumption)
          obtain ⟨ad344, e344, hx344_0, hx344_1, hx344_2, hx344_3, hx344_4, hx344_5⟩ := at_T51 HR0.out x5_1 p344 q344
          obtain rfl : ad343 = ad344 := (by injection e344)
          replace p344 := eq_true p344
          replace q344 := eq_true q344
          have p345 : 0 ≤ (x5_1 : Int) := of_decide_eq_true (by assumption)
          have q345 : x5_1 < (l0.length : Int) := of_decide_eq_true (by assumption)
          obtain ⟨ad345, e345, hx345_0, hx345_1, hx345_2, hx345_3, hx345_4, hx345_5⟩ := at_T51 HR0.out x5_1 p345 q345
          obtain rfl : ad343 = ad345 := (by injection e345)
          replace p345 := eq_true p345
          replace q345 := eq_true q345
          have p346 : 0 ≤ (x5_1 : Int) := of_decide_eq_true (by assumption)
          have q346 : x5_1 < (l0.length : Int) := of_decide_eq_true (by assumption)
          obtain ⟨ad346, e346, hx346_0, hx346_1, hx346_2, hx346_3, hx346_4, hx346_5⟩ := at_T51 HR0.out x5_1 p346 q346
          obtain rfl : ad343 = ad346 := (by injection e346)
          replace p346 := eq_true p346
          replace q346 := eq_true q346
          have p347 : 0 ≤ (x5_1 : Int) := of_decide_eq_true (by assumption)
          have q347 : x5_1 < (l0.length : Int) := of_decide_eq_true (by assumption)
          obtain ⟨ad347, e347, hx347_0, hx347_1, hx347_2, hx347_3, hx347_4, hx347_5⟩ := at_T51 HR0.out x5_1 p347 q347
          obtain rfl : ad343 = ad347 := (by injection e347)
          replace p347 := eq_true p347
          replace q347 := eq_true q347
          go_wp2
          go_ret
          exact ⟨by first | rfl | (simp; done) | (simp [*]; done), by repeat (first | exact Drawn0.refl _ | apply Drawn0.step)⟩
        ·
         rw [if_neg c8] at H
         have c8b0 : (((rd_T51 l0 x5_1).f2.f1) == (wrap64 ((wrap64 ((wrap64 (x1_1 + 1)) + 1)) + 1))) = false := beq_eq_false_iff_ne.mpr c8
         have c8b1 : (((rd_T51 l0 x5_1).f2.f1) != (wrap64 ((wrap64 ((wrap64 (x1_1 + 1)) + 1)) + 1))) = true := bne_iff_ne.mpr c8
         obtain rfl := Option.some.inj H
         have p343 : 0 ≤ (x5_1 : Int) := of_decide_eq_true (by assumption)
         have q343 : x5_1 < (l0.length : Int) := of_decide_eq_true (by assumption)
         obtain ⟨ad343, e343, hx343_0, hx343_1, hx343_2, hx343_3, hx343_4, hx343_5⟩ := at_T51 HR0.out x5_1 p343 q343
         cases e343
         replace p343 := eq_true p343
         replace q343 := eq_true q343
         have p344 : 0 ≤ (x5_1 : Int) := of_decide_eq_true (by assumption)
         have q344 : x5_1 < (l0.length : Int) := of_decide_eq_true (by assumption)
         obtain ⟨ad344, e344, hx344_0, hx344_1, hx344_2, hx344_3, hx344_4, hx344_5⟩ := at_T51 HR0.out x5_1 p344 q344
         obtain rfl : ad343 = ad344 := (by injection e344)
         replace p344 := eq_true p344
         replace q344 := eq_true q344
         have p345 : 0 ≤ (x5_1 : Int) := of_decide_eq_true (by assumption)
         have q345 : x5_1 < (l0.length : Int) := of_decide_eq_true (by assumption)
         obtain ⟨ad345, e345, hx345_0, hx345_1, hx345_2, hx345_3, hx345_4, hx345_5⟩ := at_T51 HR0.out x5_1 p345 q345
         obtain rfl : ad343 = ad345 := (by injection e345)
         replace p345 := eq_true p345
         replace q345 := eq_true q345
         have p346 : 0 ≤ (x5_1 : Int) := of_decide_eq_true (by assumption)
         have q346 : x5_1 < (l0.length : Int) := of_decide_eq_true (by assumption)
         obtain ⟨ad346, e346, hx346_0, hx346_1, hx346_2, hx346_3, hx346_4, hx346_5⟩ := at_T51 HR0.out x5_1 p346 q346
         obtain rfl : ad343 = ad346 := (by injection e346)
         replace p346 := eq_true p346
         replace q346 := eq_true q346
         go_wp2
         go_ret
         exact ⟨by first | rfl | (simp; done) | (simp [*]; done), by repeat (first | exact Drawn0.refl _ | apply Drawn0.step)⟩
       ·
        rw [if_neg c7] at H
        have c7b0 : (((rd_T51 l0 x5_1).f2.f0) == (wrap64 ((wrap64 (x1_1 + 1)) + 1))) = false := beq_eq_false_iff_ne.mpr c7
        have c7b1 : (((rd_T51 l0 x5_1).f2.f0) != (wrap64 ((wrap64 (x1_1 + 1)) + 1))) = true := bne_iff_ne.mpr c7
        obtain rfl := Option.some.inj H
        have p343 : 0 ≤ (x5_1 : Int) := of_decide_eq_true (by assumption)
        have q343 : x5_1 < (l0.length : Int) := of_decide_eq_true (by assumption)
        obtain ⟨ad343, e343, hx343_0, hx343_1, hx343_2, hx343_3, hx343_4, hx343_5⟩ := at_T51 HR0.out x5_1 p343 q343
        cases e343
        replace p343 := eq_true p343
        replace q343 := eq_true q343
        have p344 : 0 ≤ (x5_1 : Int) := of_decide_eq_true (by assumption)
        have q344 : x5_1 < (l0.length : Int) := of_decide_eq_true (by assumption)
        obtain ⟨ad344, e344, hx344_0, hx344_1, hx344_2, hx344_3, hx344_4, hx344_5⟩ := at_T51 HR0.out x5_1 p344 q344
        obtain rfl : ad343 = ad344 := (by injection e344)
        replace p344 := eq_true p344
        replace q344 := eq_true q344
        have p345 : 0 ≤ (x5_1 : Int) := of_decide_eq_true (by assumption)
        have q345 : x5_1 < (l0.length : Int) := of_decide_eq_true (by assumption)
        obtain ⟨ad345, e345, hx345_0, hx345_1, hx345_2, hx345_3, hx345_4, hx345_5⟩ := at_T51 HR0.out x5_1 p345 q345
        obtain rfl : ad343 = ad345 := (by injection e345)
        replace p345 := eq_true p345
        replace q345 := eq_true q345
        go_wp2
        go_ret
        exact ⟨by first | rfl | (simp; done) | (simp [*]; done), by repeat (first | exact Drawn0.refl _ | apply Drawn0.step)⟩
      ·
       rw [if_neg c6] at H
       have c6b0 : (((rd_T51 l0 x5_1).f1) == (IntKind.i8.wrap (wrap64 (x1_1 + 1)))) = false := beq_eq_false_iff_ne.mpr c6
       have c6b1 : (((rd_T51 l0 x5_1).f1) != (IntKind.i8.wrap (wrap64 (x1_1 + 1)))) = true := bne_iff_ne.mpr c6
       obtain rfl := Option.some.inj H
       have p343 : 0 ≤ (x5_1 : Int) := of_decide_eq_true (by assumption)
       have q343 : x5_1 < (l0.length : Int) := of_decide_eq_true (by assumption)
       obtain ⟨ad343, e343, hx343_0, hx343_1, hx343_2, hx343_3, hx343_4, hx343_5⟩ := at_T51 HR0.out x5_1 p343 q343
       cases e343
       replace p343 := eq_true p343
       replace q343 := eq_true q343
       have p344 : 0 ≤ (x5_1 : Int) := of_decide_eq_true (by assumption)
       have q344 : x5_1 < (l0.length : Int) := of_decide_eq_true (by assumption)
       obtain ⟨ad344, e344, hx344_0, hx344_1, hx344_2, hx344_3, hx344_4, hx344_5⟩ := at_T51 HR0.out x5_1 p344 q344
       obtain rfl : ad343 = ad344 := (by injection e344)
       replace p344 := eq_true p344
       replace q344 := eq_true q344
       go_wp2
       go_ret
       exact ⟨by first | rfl | (simp; done) | (simp [*]; done), by repeat (first | exact Drawn0.refl _ | apply Drawn0.step)⟩
    ·
     rw [if_neg c4] at H
     exact absurd H (by simp)
   ·
    rw [if_neg c3] at H
    have c3b0 : decide (x5_1 < (l0.length : Int)) = false := decide_eq_false c3
    clear c3
    obtain rfl := Option.some.inj H
    go_wp2
    go_ret
    exact ⟨by first | rfl | (simp; done) | (simp [*]; done), by repeat (first | exact Drawn0.refl _ | apply Drawn0.step)⟩
end Go.Proofs.Ytififhihgkbafaa.PM

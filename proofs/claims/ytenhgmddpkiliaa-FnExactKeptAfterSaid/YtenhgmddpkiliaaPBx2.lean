import Derived.Test.YtenhgmddpkiliaaPBx0
import Derived.Test.YtenhgmddpkiliaaPBx1
namespace Go.Proofs.Ytenhgmddpkiliaa.PB
open Go.RowKit Go.Proofs.YtenhgmddpkiliaaW.PrintWords Go.Proofs.YtenhgmddpkiliaaW.PrintLast Go.Proofs.YtenhgmddpkiliaaW.PrintMore Go.Proofs.YtenhgmddpkiliaaRP
attribute [local go_sem] max2_int min2_int max_two min_two max_three min_three max_four min_four Go.Proofs.YtenhgmddpkiliaaRP.max_eight Go.Proofs.YtenhgmddpkiliaaRP.tmod_len   -- for this text's walks alone
set_option linter.unusedVariables false
set_option linter.unusedSimpArgs false
theorem z2_1_ {P : Prop} (h : P := by repeat (first | (with_reducible first | exact HB.out | apply below_alloc | apply pw_below_drewN | apply below_drew1) | exact HB.out)) : P := h
theorem z2_2_ {P : Prop} (h : P := by (try simp only [List.map_toArray, List.map_cons, List.map_nil]); first | done | rfl | (simp only [List.length_drop, List.length_take]; rfl)) : P := h
theorem z2_3_ {P : Prop} (h : P := by first | rfl | (simp; done) | (simp [*]; done) | (simp [isE_]; done)) : P := h
theorem z2_4_ {P : Prop} (h : P := by repeat (first | (with_reducible first | exact HK.out | apply Kept.alloc | apply Kept.drewN | apply Kept.drew) | exact HK.out)) : P := h
theorem z2_5_ {P : Prop} (h : P := by first | rfl | (simp [errW_none, errW_some] <;> rfl) | (simp [*, errW_none, errW_some] <;> rfl)) : P := h
theorem z2_6_ {P : Prop} (h : P := by (with_reducible repeat (first | apply Kd.R_alloc | apply Kd.R_drewN | apply Kd.R_drew)); exact HO_0.out) : P := h
theorem z2_7_ {P : Prop} (h : P := by repeat (first | exact Drawn0.refl _ | apply Drawn0.step)) : P := h
theorem z2_8_ {P : Prop} (h : P := by (with_reducible repeat (first | apply Kd.R_alloc | apply Kd.R_drewN | apply Kd.R_drew)); exact HO_6.out) : P := h
theorem z2_9_ {P : Prop} (h : P := by repeat (first | (with_reducible first | exact HB.out | apply below_alloc | apply pw_below_drewN | apply below_drew1 | refine below_set ?_ GE144.out) | exact HB.out)) : P := h
theorem z2_10_ {P : Prop} (h : P := by (with_reducible repeat (first | apply Kd.R_alloc | apply Kd.R_drewN | apply Kd.R_drew)); exact HO152.out) : P := h
/-! ### laws_markLineS: function 27 -/
def laws_markLineS.l0 : Nat → List (S45) → Int → Int → Option (Int × (List (S45)))
 | 0, _, _, _ => none
 | k + 1, x0, x1, x5 => if x5 < (x0.length : Int) then ((laws_markText.f k x1).bind fun t126 => (if 0 ≤ x5 then ((some (x0.set (x5 : Int).toNat (⟨t126, (rd_T45 x0 x5).f1, (rd_T45 x0 x5).f2, (rd_T45 x0 x5).f3, (rd_T45 x0 x5).f4, (rd_T45 x0 x5).f5⟩ : S45) : List (S45))).bind fun y127 => ((some (y127.set (x5 : Int).toNat (⟨(rd_T45 y127 x5).f0, IntKind.i8.wrap (wrap64 (x1 + 1)), (rd_T45 y127 x5).f2, (rd_T45 y127 x5).f3, (rd_T45 y127 x5).f4, (rd_T45 y127 x5).f5⟩ : S45) : List (S45))).bind fun y128 => ((laws_markText.f k (wrap64 ((wrap64 (x1 + 1)) + 1))).bind fun t129 => ((some (y128.set (x5 : Int).toNat (⟨(rd_T45 y128 x5).f0, (rd_T45 y128 x5).f1, t129, (rd_T45 y128 x5).f3, (rd_T45 y128 x5).f4, (rd_T45 y128 x5).f5⟩ : S45) : List (S45))).bind fun y130 => ((laws_markText.f k (wrap64 ((wrap64 ((wrap64 (x1 + 1)) + 1)) + 1))).bind fun t131 => ((some (y130.set (x5 : Int).toNat (⟨(rd_T45 y130 x5).f0, (rd_T45 y130 x5).f1, (rd_T45 y130 x5).f2, t131, (rd_T45 y130 x5).f4, (rd_T45 y130 x5).f5⟩ : S45) : List (S45))).bind fun y132 => ((some (y132.set (x5 : Int).toNat (⟨(rd_T45 y132 x5).f0, (rd_T45 y132 x5).f1, (rd_T45 y132 x5).f2, (rd_T45 y132 x5).f3, wrap64 ((wrap64 ((wrap64 ((wrap64 (x1 + 1)) + 1)) + 1)) + 1), (rd_T45 y132 x5).f5⟩ : S45) : List (S45))).bind fun y133 => (laws_markLineS.l0 k (y133.set (x5 : Int).toNat (⟨(rd_T45 y133 x5).f0, (rd_T45 y133 x5).f1, (rd_T45 y133 x5).f2, (rd_T45 y133 x5).f3, (rd_T45 y133 x5).f4, wrap64 ((wrap64 ((wrap64 ((wrap64 ((wrap64 (x1 + 1)) + 1)) + 1)) + 1)) + 1)⟩ : S45)) (wrap64 ((wrap64 ((wrap64 ((wrap64 ((wrap64 ((wrap64 (x1 + 1)) + 1)) + 1)) + 1)) + 1)) + 1)) (wrap64 (x5 + 1)))))))))) else (none))) else (some (x1, x0))
def laws_markLineS.f (k : Nat) (l0 : List (S45)) (a1 : Int) : Option (Int × (List (S45))) := laws_markLineS.l0 k l0 a1 0
theorem laws_markLineS.mono_l : ∀ k, (∀ y0 y1 y2, LeO (laws_markLineS.l0 k y0 y1 y2) (laws_markLineS.l0 (k + 1) y0 y1 y2))
 | 0 => fun _ _ _ r h => by simp [laws_markLineS.l0] at h
 | k + 1 => by
  have ih0 := laws_markLineS.mono_l k
  ·
   intro y0 y1 y2
   unfold laws_markLineS.l0
   repeat' first
   | (with_reducible exact ih0 _ _ _)
   | (with_reducible exact laws_markText.mono _ _)
   | (with_reducible exact LeO.refl _)
   | (with_reducible exact LeO.none _)
   | (with_reducible refine LeO.ite ?_ ?_)
   | (with_reducible refine LeO.bind ?_ (fun _ => ?_))
   | exact ih0 _ _ _
   | exact LeO.none _
   | refine LeO.ite ?_ ?_
   | refine LeO.bind ?_ (fun _ => ?_)
theorem laws_markLineS.mono : ∀ a0 a1 k, LeO (laws_markLineS.f k a0 a1) (laws_markLineS.f (k + 1) a0 a1) := by
 intro a0 a1 k
 have ih0 := laws_markLineS.mono_l k
 unfold laws_markLineS.f
 repeat' first
   | (with_reducible exact ih0 _ _ _)
   | (with_reducible exact laws_markText.mono _ _)
   | (with_reducible exact LeO.refl _)
   | (with_reducible exact LeO.none _)
   | (with_reducible refine LeO.ite ?_ ?_)
   | (with_reducible refine LeO.bind ?_ (fun _ => ?_))
   | exact ih0 _ _ _
   | exact LeO.none _
   | refine LeO.ite ?_ ?_
   | refine LeO.bind ?_ (fun _ => ?_)
set_option maxHeartbeats 8000000 in
set_option maxRecDepth 100000 in
theorem laws_markLineS.calls (k : Nat) (P0_ : Nat → Prop) (u9000_ : Value) (l0 : List (S45)) (a1 : Int) (r1 : Int) (r2 : List (S45)) (w0 w : World) (hB : Below w0.heap.size w0 w) (ho0 : Kd.R k45 45 w w0.heap.size P0_ u9000_ l0) (h : laws_markLineS.f k l0 a1 = some (r1, r2)) :
  Calls Try.prog 27 #[u9000_, .int .i64 a1] w fun e w' => e = .returned (.int .i64 r1) ∧ Kd.R k45 45 w' w0.heap.size (fun k_ => (P0_ k_ ∨ w.heap.size ≤ k_)) u9000_ r2 ∧ Below w0.heap.size w0 w' ∧ Kept w w' (fun k_ => P0_ k_) := by
 have HO0 := A_ (show Kd.R k45 45 w w0.heap.size (fun k_ => (P0_ k_ ∨ w.heap.size ≤ k_)) u9000_ l0 from Kd.R_mono ho0 (fun k_ hk => (.inl hk)))
 have HK := A_ (Kept.refl w (fun k_ => P0_ k_))
 have HW0 := A_ hB.size
 have HB := A_ hB
 clear hB
 have H : (laws_markLineS.l0 k l0 a1 0) = some (r1, r2) := h
 clear h
 have H' := A_ H
 clear H
 go_enter Try.func27, Try.ntmps27
 go_wp2
 go_loopg [1, 5] k (fun kq v1 v5 w' => ∃ (x0_1 : List (S45)) (x1_1 : Int) (x5_1 : Int), v1 = .int .i64 x1_1 ∧ v5 = .int .i64 x5_1 ∧ Aside0 (laws_markLineS.l0 kq x0_1 x1_1 x5_1 = some (r1, r2)) ∧ Aside0 (kq ≤ k) ∧ Aside0 (Kd.R k45 45 w' w0.heap.size (fun k_ => (P0_ k_ ∨ w.heap.size ≤ k_)) u9000_ x0_1) ∧ Aside0 (Kept w w' (fun k_ => P0_ k_)) ∧ Aside0 (Below w0.heap.size w0 w'))
 case atStart => exact ⟨(l0), (a1), (0), z2_3_, z2_3_, H', ⟨Nat.le_refl _⟩, ⟨(by (with_reducible repeat (first | apply Kd.R_alloc | apply Kd.R_drewN | apply Kd.R_drew)); exact HO0.out)⟩, ⟨z2_4_⟩, ⟨z2_1_⟩⟩
 case round =>
  clear H'
  try clear c2
  try clear p2
  obtain ⟨x0_1, x1_1, x5_1, rfl, rfl, HA, HK1, HO_0, HK, HB⟩ := hrel
  cases gk with
  | zero => exact absurd HA.out (by simp [laws_markLineS.l0])
  | succ k1 =>
   have H := HA.out
   clear HA
   simp only [laws_markLineS.l0] at H
   by_cases c3 : x5_1 < (x0_1.length : Int)
   ·
    rw [if_pos c3] at H
    have c3b0 := decide_eq_true c3
    clear c3
    replace H := Option.bind_eq_some_iff.mp H
    obtain ⟨t126, A40, H⟩ := H
    try dsimp only at H
    have A4 := A_ A40
    clear A40
    by_cases c5 : 0 ≤ x5_1
    ·
     rw [if_pos c5] at H
     have c5b0 := decide_eq_true c5
     clear c5
     obtain ⟨y127, hy127⟩ : ∃ y_ : List (S45), y_ = (x0_1.set (x5_1 : Int).toNat (⟨t126, (rd_T45 x0_1 x5_1).f1, (rd_T45 x0_1 x5_1).f2, (rd_T45 x0_1 x5_1).f3, (rd_T45 x0_1 x5_1).f4, (rd_T45 x0_1 x5_1).f5⟩ : S45)) := ⟨_, rfl⟩
     replace H : ((some (y127.set (x5_1 : Int).toNat (⟨(rd_T45 y127 x5_1).f0, IntKind.i8.wrap (wrap64 (x1_1 + 1)), (rd_T45 y127 x5_1).f2, (rd_T45 y127 x5_1).f3, (rd_T45 y127 x5_1).f4, (rd_T45 y127 x5_1).f5⟩ : S45) : List (S45))).bind fun y128 => ((laws_markText.f k1 (wrap64 ((wrap64 (x1_1 + 1)) + 1))).bind fun t129 => ((some (y128.set (x5_1 : Int).toNat (⟨(rd_T45 y128 x5_1).f0, (rd_T45 y128 x5_1).f1, t129, (rd_T45 y128 x5_1).f3, (rd_T45 y128 x5_1).f4, (rd_T45 y128 x5_1).f5⟩ : S45) : List (S45))).bind fun y130 => ((laws_markText.f k1 (wrap64 ((wrap64 ((wrap64 (x1_1 + 1)) + 1)) + 1))).bind fun t131 => ((some (y130.set (x5_1 : Int).toNat (⟨(rd_T45 y130 x5_1).f0, (rd_T45 y130 x5_1).f1, (rd_T45 y130 x5_1).f2, t131, (rd_T45 y130 x5_1).f4, (rd_T45 y130 x5_1).f5⟩ : S45) : List (S45))).bind fun y132 => ((some (y132.set (x5_1 : Int).toNat (⟨(rd_T45 y132 x5_1).f0, (rd_T45 y132 x5_1).f1, (rd_T45 y132 x5_1).f2, (rd_T45 y132 x5_1).f3, wrap64 ((wrap64 ((wrap64 ((wrap64 (x1_1 + 1)) + 1)) + 1)) + 1), (rd_T45 y132 x5_1).f5⟩ : S45) : List (S45))).bind fun y133 => (laws_markLineS.l0 k1 (y133.set (x5_1 : Int).toNat (⟨(rd_T45 y133 x5_1).f0, (rd_T45 y133 x5_1).f1, (rd_T45 y133 x5_1).f2, (rd_T45 y133 x5_1).f3, (rd_T45 y133 x5_1).f4, wrap64 ((wrap64 ((wrap64 ((wrap64 ((wrap64 (x1_1 + 1)) + 1)) + 1)) + 1)) + 1)⟩ : S45)) (wrap64 ((wrap64 ((wrap64 ((wrap64 ((wrap64 ((wrap64 (x1_1 + 1)) + 1)) + 1)) + 1)) + 1)) + 1)) (wrap64 (x5_1 + 1))))))))) = some (r1, r2) := by first | (rw [hy127]; with_reducible exact H) | (have H2_ := (Option.bind_some _ _).symm.trans H; rw [hy127]; with_reducible exact H2_) | (have H2_ := (Option.bind_some _ _).symm.trans H; with_reducible exact H2_) | with_reducible exact H | (rw [hy127]; exact H) | exact H
     have Ny127 := A_ hy127
     clear hy127
     obtain ⟨y128, hy128⟩ : ∃ y_ : List (S45), y_ = (y127.set (x5_1 : Int).toNat (⟨(rd_T45 y127 x5_1).f0, IntKind.i8.wrap (wrap64 (x1_1 + 1)), (rd_T45 y127 x5_1).f2, (rd_T45 y127 x5_1).f3, (rd_T45 y127 x5_1).f4, (rd_T45 y127 x5_1).f5⟩ : S45)) := ⟨_, rfl⟩
     replace H : ((laws_markText.f k1 (wrap64 ((wrap64 (x1_1 + 1)) + 1))).bind fun t129 => ((some (y128.set (x5_1 : Int).toNat (⟨(rd_T45 y128 x5_1).f0, (rd_T45 y128 x5_1).f1, t129, (rd_T45 y128 x5_1).f3, (rd_T45 y128 x5_1).f4, (rd_T45 y128 x5_1).f5⟩ : S45) : List (S45))).bind fun y130 => ((laws_markText.f k1 (wrap64 ((wrap64 ((wrap64 (x1_1 + 1)) + 1)) + 1))).bind fun t131 => ((some (y130.set (x5_1 : Int).toNat (⟨(rd_T45 y130 x5_1).f0, (rd_T45 y130 x5_1).f1, (rd_T45 y130 x5_1).f2, t131, (rd_T45 y130 x5_1).f4, (rd_T45 y130 x5_1).f5⟩ : S45) : List (S45))).bind fun y132 => ((some (y132.set (x5_1 : Int).toNat (⟨(rd_T45 y132 x5_1).f0, (rd_T45 y132 x5_1).f1, (rd_T45 y132 x5_1).f2, (rd_T45 y132 x5_1).f3, wrap64 ((wrap64 ((wrap64 ((wrap64 (x1_1 + 1)) + 1)) + 1)) + 1), (rd_T45 y132 x5_1).f5⟩ : S45) : List (S45))).bind fun y133 => (laws_markLineS.l0 k1 (y133.set (x5_1 : Int).toNat (⟨(rd_T45 y133 x5_1).f0, (rd_T45 y133 x5_1).f1, (rd_T45 y133 x5_1).f2, (rd_T45 y133 x5_1).f3, (rd_T45 y133 x5_1).f4, wrap64 ((wrap64 ((wrap64 ((wrap64 ((wrap64 (x1_1 + 1)) + 1)) + 1)) + 1)) + 1)⟩ : S45)) (wrap64 ((wrap64 ((wrap64 ((wrap64 ((wrap64 ((wrap64 (x1_1 + 1)) + 1)) + 1)) + 1)) + 1)) + 1)) (wrap64 (x5_1 + 1)))))))) = some (r1, r2) := by first | (rw [hy128]; with_reducible exact H) | (have H2_ := (Option.bind_some _ _).symm.trans H; rw [hy128]; with_reducible exact H2_) | (have H2_ := (Option.bind_some _ _).symm.trans H; with_reducible exact H2_) | with_reducible exact H | (rw [hy128]; exact H) | exact H
     have Ny128 := A_ hy128
     clear hy128
     replace H := Option.bind_eq_some_iff.mp H
     obtain ⟨t129, A80, H⟩ := H
     try dsimp only at H
     have A8 := A_ A80
     clear A80
     obtain ⟨y130, hy130⟩ : ∃ y_ : List (S45), y_ = (y128.set (x5_1 : Int).toNat (⟨(rd_T45 y128 x5_1).f0, (rd_T45 y128 x5_1).f1, t129, (rd_T45 y128 x5_1).f3, (rd_T45 y128 x5_1).f4, (rd_T45 y128 x5_1).f5⟩ : S45)) := ⟨_, rfl⟩
     replace H : ((laws_markText.f k1 (wrap64 ((wrap64 ((wrap64 (x1_1 + 1)) + 1)) + 1))).bind fun t131 => ((some (y130.set (x5_1 : Int).toNat (⟨(rd_T45 y130 x5_1).f0, (rd_T45 y130 x5_1).f1, (rd_T45 y130 x5_1).f2, t131, (rd_T45 y130 x5_1).f4, (rd_T45 y130 x5_1).f5⟩ : S45) : List (S45))).bind fun y132 => ((some (y132.set (x5_1 : Int).toNat (⟨(rd_T45 y132 x5_1).f0, (rd_T45 y132 x5_1).f1, (rd_T45 y132 x5_1).f2, (rd_T45 y132 x5_1).f3, wrap64 ((wrap64 ((wrap64 ((wrap64 (x1_1 + 1)) + 1)) + 1)) + 1), (rd_T45 y132 x5_1).f5⟩ : S45) : List (S45))).bind fun y133 => (laws_markLineS.l0 k1 (y133.set (x5_1 : Int).toNat (⟨(rd_T45 y133 x5_1).f0, (rd_T45 y133 x5_1).f1, (rd_T45 y133 x5_1).f2, (rd_T45 y133 x5_1).f3, (rd_T45 y133 x5_1).f4, wrap64 ((wrap64 ((wrap64 ((wrap64 ((wrap64 (x1_1 + 1)) + 1)) + 1)) + 1)) + 1)⟩ : S45)) (wrap64 ((wrap64 ((wrap64 ((wrap64 ((wrap64 ((wrap64 (x1_1 + 1)) + 1)) + 1)) + 1)) + 1)) + 1)) (wrap64 (x5_1 + 1)))))) = some (r1, r2) := by first | (rw [hy130]; with_reducible exact H) | (have H2_ := (Option.bind_some _ _).symm.trans H; rw [hy130]; with_reducible exact H2_) | (have H2_ := (Option.bind_some _ _).symm.trans H; with_reducible exact H2_) | with_reducible exact H | (rw [hy130]; exact H) | exact H
     have Ny130 := A_ hy130
     clear hy130
     replace H := Option.bind_eq_some_iff.mp H
     obtain ⟨t131, A100, H⟩ := H
     try dsimp only at H
     have A10 := A_ A100
     clear A100
     obtain ⟨y132, hy132⟩ : ∃ y_ : List (S45), y_ = (y130.set (x5_1 : Int).toNat (⟨(rd_T45 y130 x5_1).f0, (rd_T45 y130 x5_1).f1, (rd_T45 y130 x5_1).f2, t131, (rd_T45 y130 x5_1).f4, (rd_T45 y130 x5_1).f5⟩ : S45)) := ⟨_, rfl⟩
     replace H : ((some (y132.set (x5_1 : Int).toNat (⟨(rd_T45 y132 x5_1).f0, (rd_T45 y132 x5_1).f1, (rd_T45 y132 x5_1).f2, (rd_T45 y132 x5_1).f3, wrap64 ((wrap64 ((wrap64 ((wrap64 (x1_1 + 1)) + 1)) + 1)) + 1), (rd_T45 y132 x5_1).f5⟩ : S45) : List (S45))).bind fun y133 => (laws_markLineS.l0 k1 (y133.set (x5_1 : Int).toNat (⟨(rd_T45 y133 x5_1).f0, (rd_T45 y133 x5_1).f1, (rd_T45 y133 x5_1).f2, (rd_T45 y133 x5_1).f3, (rd_T45 y133 x5_1).f4, wrap64 ((wrap64 ((wrap64 ((wrap64 ((wrap64 (x1_1 + 1)) + 1)) + 1)) + 1)) + 1)⟩ : S45)) (wrap64 ((wrap64 ((wrap64 ((wrap64 ((wrap64 ((wrap64 (x1_1 + 1)) + 1)) + 1)) + 1)) + 1)) + 1)) (wrap64 (x5_1 + 1)))) = some (r1, r2) := by first | (rw [hy132]; with_reducible exact H) | (have H2_ := (Option.bind_some _ _).symm.trans H; rw [hy132]; with_reducible exact H2_) | (have H2_ := (Option.bind_some _ _).symm.trans H; with_reducible exact H2_) | with_reducible exact H | (rw [hy132]; exact H) | exact H
     have Ny132 := A_ hy132
     clear hy132
     obtain ⟨y133, hy133⟩ : ∃ y_ : List (S45), y_ = (y132.set (x5_1 : Int).toNat (⟨(rd_T45 y132 x5_1).f0, (rd_T45 y132 x5_1).f1, (rd_T45 y132 x5_1).f2, (rd_T45 y132 x5_1).f3, wrap64 ((wrap64 ((wrap64 ((wrap64 (x1_1 + 1)) + 1)) + 1)) + 1), (rd_T45 y132 x5_1).f5⟩ : S45)) := ⟨_, rfl⟩
     replace H : (laws_markLineS.l0 k1 (y133.set (x5_1 : Int).toNat (⟨(rd_T45 y133 x5_1).f0, (rd_T45 y133 x5_1).f1, (rd_T45 y133 x5_1).f2, (rd_T45 y133 x5_1).f3, (rd_T45 y133 x5_1).f4, wrap64 ((wrap64 ((wrap64 ((wrap64 ((wrap64 (x1_1 + 1)) + 1)) + 1)) + 1)) + 1)⟩ : S45)) (wrap64 ((wrap64 ((wrap64 ((wrap64 ((wrap64 ((wrap64 (x1_1 + 1)) + 1)) + 1)) + 1)) + 1)) + 1)) (wrap64 (x5_1 + 1))) = some (r1, r2) := by first | (rw [hy133]; with_reducible exact H) | (have H2_ := (Option.bind_some _ _).symm.trans H; rw [hy133]; with_reducible exact H2_) | (have H2_ := (Option.bind_some _ _).symm.trans H; with_reducible exact H2_) | with_reducible exact H | (rw [hy133]; exact H) | exact H
     have Ny133 := A_ hy133
     clear hy133
     obtain ⟨y134, hy134⟩ : ∃ y_ : List (S45), y_ = (y133.set (x5_1 : Int).toNat (⟨(rd_T45 y133 x5_1).f0, (rd_T45 y133 x5_1).f1, (rd_T45 y133 x5_1).f2, (rd_T45 y133 x5_1).f3, (rd_T45 y133 x5_1).f4, wrap64 ((wrap64 ((wrap64 ((wrap64 ((wrap64 (x1_1 + 1)) + 1)) + 1)) + 1)) + 1)⟩ : S45)) := ⟨_, rfl⟩
     replace H : (laws_markLineS.l0 k1 y134 (wrap64 ((wrap64 ((wrap64 ((wrap64 ((wrap64 ((wrap64 (x1_1 + 1)) + 1)) + 1)) + 1)) + 1)) + 1)) (wrap64 (x5_1 + 1))) = some (r1, r2) := by first | (rw [hy134]; with_reducible exact H) | (have H2_ := (Option.bind_some _ _).symm.trans H; rw [hy134]; with_reducible exact H2_) | (have H2_ := (Option.bind_some _ _).symm.trans H; with_reducible exact H2_) | with_reducible exact H | (rw [hy134]; exact H) | exact H
     have Ny134 := A_ hy134
     clear hy134
     have H' := A_ H
     clear H
     obtain ⟨Ao14, co14, eo14⟩ := Kd.R_slice HO_0.out
     subst eo14
     go_wp2_with (first | ((with_reducible refine gate_callee (f := 76) rfl ?_); refine goesL_ (some 15) rfl rfl Try.func76 (by kernel_rfl) rfl #[.int .i64 x1_1] rfl z2_2_ ?_; (with_reducible refine (laws_markText.calls k1 x1_1 t126 _ A4.out).mono ?_); rintro e w15 ⟨rfl, hb⟩; refine ⟨_, rfl, ?_⟩; have _ := A_ (Kd.R_below z2_6_ hb); have _ := A_ (Kept.below (S := (fun k_ => P0_ k_)) z2_4_ hb); have _ := A_ (below_step z2_1_ hb); clear HO_0 HK HB; rename_i HO_0 HK HB; (try clear hb); have p6 : 0 ≤ (x5_1 : Int) := of_decide_eq_true (by assumption); have q6 : (x5_1 : Int) < ((x0_1.length : Int) : Int) := of_decide_eq_true (by assumption); obtain ⟨go6, co6, eo6, gb6, gl6, cl6, HG6⟩ := Kd.R_form HO_0.out (by omega); (first | cases eo6 | (injection eo6 with ea_ en_ ec_; (first | subst ea_ | (injection ea_ with ea_; subst ea_)); subst ec_; clear en_)); have GB6 := A_ gb6; have GG6 := A_ HG6; clear gb6 gl6 HG6; have HMgo6 := A_ (show (P0_ go6 ∨ w.heap.size ≤ go6) from (HO_0.out.1 _ rfl)); obtain ⟨ce6, hcl6, hM6, hcc6, hfr6⟩ := Kd.R_elem HO_0.out z45 (x5_1 : Int) p6 q6; obtain rfl := k45_openM hM6; have hx6_0 : w15.cell? ⟨go6, (x5_1 : Int).toNat * 6, none⟩ = some (.string ((rd_T45 x0_1 x5_1).f0)) := hcc6 0 _ rfl; have hx6_1 : w15.cell? ⟨go6, (x5_1 : Int).toNat * 6 + 1, none⟩ = some (.int .i8 ((rd_T45 x0_1 x5_1).f1)) := hcc6 1 _ rfl; have hx6_2 : w15.cell? ⟨go6, (x5_1 : Int).toNat * 6 + 2, none⟩ = some (.string ((rd_T45 x0_1 x5_1).f2)) := hcc6 2 _ rfl; have hx6_3 : w15.cell? ⟨go6, (x5_1 : Int).toNat * 6 + 3, none⟩ = some (.string ((rd_T45 x0_1 x5_1).f3)) := hcc6 3 _ rfl; have hx6_4 : w15.cell? ⟨go6, (x5_1 : Int).toNat * 6 + 4, none⟩ = some (.int .i64 ((rd_T45 x0_1 x5_1).f4)) := hcc6 4 _ rfl; have hx6_5 : w15.cell? ⟨go6, (x5_1 : Int).toNat * 6 + 5, none⟩ = some (.int .i64 ((rd_T45 x0_1 x5_1).f5)) := hcc6 5 _ rfl; have hf6_0 : w15.frozen? ⟨go6, (x5_1 : Int).toNat * 6, none⟩ = false := hfr6 0; have hf6_1 : w15.frozen? ⟨go6, (x5_1 : Int).toNat * 6 + 1, none⟩ = false := hfr6 1; have hf6_2 : w15.frozen? ⟨go6, (x5_1 : Int).toNat * 6 + 2, none⟩ = false := hfr6 2; have hf6_3 : w15.frozen? ⟨go6, (x5_1 : Int).toNat * 6 + 3, none⟩ = false := hfr6 3; have hf6_4 : w15.frozen? ⟨go6, (x5_1 : Int).toNat * 6 + 4, none⟩ = false := hfr6 4; have hf6_5 : w15.frozen? ⟨go6, (x5_1 : Int).toNat * 6 + 5, none⟩ = false := hfr6 5; clear hcl6 hcc6 hfr6 hM6; replace p6 := eq_true p6; replace q6 := eq_true q6; have HX16 := A_ (show Kd.R k45 45 w15 w0.heap.size (fun k_ => (P0_ k_ ∨ w.heap.size ≤ k_)) (.slice (some ⟨go6, 0, none⟩) x0_1.length co14) x0_1 from z2_6_); obtain ⟨ce16, hcl16, hM16, hcc16, hfr16⟩ := Kd.R_elem HX16.out z45 (x5_1 : Int) (of_decide_eq_true (by assumption)) (by have h_ : (x5_1 : Int) < ((x0_1.length : Int) : Int) := of_decide_eq_true (by assumption); first | exact h_ | (have e_ := (Kd.R_reads' HO_0.out).1; omega) | simpa using h_); obtain rfl := k45_openM hM16; have HP16 := Kd.R_seg HX16.out (x5_1 : Int) (of_decide_eq_true (by assumption)) (by have h_ : (x5_1 : Int) < ((x0_1.length : Int) : Int) := of_decide_eq_true (by assumption); first | exact h_ | (have e_ := (Kd.R_reads' HO_0.out).1; omega) | simpa using h_) (seg := [.string t126]) (j := 0) hcl16 hcc16 (show 1 ≤ 6 from by decide) (x' := (⟨t126, (rd_T45 x0_1 x5_1).f1, (rd_T45 x0_1 x5_1).f2, (rd_T45 x0_1 x5_1).f3, (rd_T45 x0_1 x5_1).f4, (rd_T45 x0_1 x5_1).f5⟩ : S45)) (k45_mkM _ _ _ (⟨t126, (rd_T45 x0_1 x5_1).f1, (rd_T45 x0_1 x5_1).f2, (rd_T45 x0_1 x5_1).f3, (rd_T45 x0_1 x5_1).f4, (rd_T45 x0_1 x5_1).f5⟩ : S45) ) (fun _ hk => hk); have hx16_0 := hcc16 0 _ rfl; (try simp only [show (k45).sz = 6 from rfl, Nat.mul_one, Nat.add_zero] at hx16_0); have hf16_0 := hfr16 0; (try simp only [show (k45).sz = 6 from rfl, Nat.mul_one, Nat.add_zero] at hf16_0); clear hcl16 hcc16 hfr16 hM16) | ((with_reducible refine gate_store (t := 9) (p := 17) rfl ?_); refine store_event (t := 9) (p := 17) (v := ?vo_w17) (w1 := (w15.setCell ⟨go6, (x5_1 : Int).toNat * 6, none⟩ (.string t126))) ?hg ?ho ?hn ?hr ?_; (case ho => rfl); (case hg => rfl); (case hn => rfl); (case hr => first | (go_simp; done) | (go_simp; rfl)); intro w17 hw; have hg : w15.grownBy w17 (some go6) := (by rw [hw]; exact HP16.2); have hp_ : Kd.R k45 45 w17 w0.heap.size (fun k_ => (P0_ k_ ∨ w.heap.size ≤ k_)) (.slice (some ⟨go6, 0, none⟩) x0_1.length co14) y127 := (by rw [hw, Ny127.out]; exact HP16.1); clear HP16; have _ := A_ (hp_); have _ := A_ ((by rw [hw]; exact below_set (HB.out) GB6.out : Below w0.heap.size w0 w17)); have _ := A_ (Kept.of_grown (S := (fun k_ => P0_ k_)) hg z2_4_ (fun k_ e_ => (HO_0.out.1 k_ e_))); clear HO_0 HB HK; rename_i HO_0 HB HK; clear hg hw hp_; have p7 : 0 ≤ (x5_1 : Int) := of_decide_eq_true (by assumption); have q7 : (x5_1 : Int) < ((x0_1.length : Int) : Int) := of_decide_eq_true (by assumption); obtain ⟨ce7, hcl7, hM7, hcc7, hfr7⟩ := Kd.R_elem HO_0.out z45 (x5_1 : Int) p7 q7; obtain rfl := k45_openM hM7; have hx7_0 : w17.cell? ⟨go6, (x5_1 : Int).toNat * 6, none⟩ = some (.string ((rd_T45 y127 x5_1).f0)) := hcc7 0 _ rfl; have hx7_1 : w17.cell? ⟨go6, (x5_1 : Int).toNat * 6 + 1, none⟩ = some (.int .i8 ((rd_T45 y127 x5_1).f1)) := hcc7 1 _ rfl; have hx7_2 : w17.cell? ⟨go6, (x5_1 : Int).toNat * 6 + 2, none⟩ = some (.string ((rd_T45 y127 x5_1).f2)) := hcc7 2 _ rfl; have hx7_3 : w17.cell? ⟨go6, (x5_1 : Int).toNat * 6 + 3, none⟩ = some (.string ((rd_T45 y127 x5_1).f3)) := hcc7 3 _ rfl; have hx7_4 : w17.cell? ⟨go6, (x5_1 : Int).toNat * 6 + 4, none⟩ = some (.int .i64 ((rd_T45 y127 x5_1).f4)) := hcc7 4 _ rfl; have hx7_5 : w17.cell? ⟨go6, (x5_1 : Int).toNat * 6 + 5, none⟩ = some (.int .i64 ((rd_T45 y127 x5_1).f5)) := hcc7 5 _ rfl; have hf7_0 : w17.frozen? ⟨go6, (x5_1 : Int).toNat * 6, none⟩ = false := hfr7 0; have hf7_1 : w17.frozen? ⟨go6, (x5_1 : Int).toNat * 6 + 1, none⟩ = false := hfr7 1; have hf7_2 : w17.frozen? ⟨go6, (x5_1 : Int).toNat * 6 + 2, none⟩ = false := hfr7 2; have hf7_3 : w17.frozen? ⟨go6, (x5_1 : Int).toNat * 6 + 3, none⟩ = false := hfr7 3; have hf7_4 : w17.frozen? ⟨go6, (x5_1 : Int).toNat * 6 + 4, none⟩ = false := hfr7 4; have hf7_5 : w17.frozen? ⟨go6, (x5_1 : Int).toNat * 6 + 5, none⟩ = false := hfr7 5; clear hcl7 hcc7 hfr7 hM7; replace p7 := eq_true p7; replace q7 := eq_true q7; have HX18 := A_ (show Kd.R k45 45 w17 w0.heap.size (fun k_ => (P0_ k_ ∨ w.heap.size ≤ k_)) (.slice (some ⟨go6, 0, none⟩) x0_1.length co14) y127 from z2_6_); obtain ⟨ce18, hcl18, hM18, hcc18, hfr18⟩ := Kd.R_elem HX18.out z45 (x5_1 : Int) (of_decide_eq_true (by assumption)) (by have h_ : (x5_1 : Int) < ((x0_1.length : Int) : Int) := of_decide_eq_true (by assumption); first | exact h_ | (have e_ := (Kd.R_reads' HO_0.out).1; omega) | simpa using h_); obtain rfl := k45_openM hM18; have HP18 := Kd.R_seg HX18.out (x5_1 : Int) (of_decide_eq_true (by assumption)) (by have h_ : (x5_1 : Int) < ((x0_1.length : Int) : Int) := of_decide_eq_true (by assumption); first | exact h_ | (have e_ := (Kd.R_reads' HO_0.out).1; omega) | simpa using h_) (seg := [.int .i8 (IntKind.i8.wrap (wrap64 (x1_1 + 1)))]) (j := 1) hcl18 hcc18 (show 2 ≤ 6 from by decide) (x' := (⟨(rd_T45 y127 x5_1).f0, IntKind.i8.wrap (wrap64 (x1_1 + 1)), (rd_T45 y127 x5_1).f2, (rd_T45 y127 x5_1).f3, (rd_T45 y127 x5_1).f4, (rd_T45 y127 x5_1).f5⟩ : S45)) (k45_mkM _ _ _ (⟨(rd_T45 y127 x5_1).f0, IntKind.i8.wrap (wrap64 (x1_1 + 1)), (rd_T45 y127 x5_1).f2, (rd_T45 y127 x5_1).f3, (rd_T45 y127 x5_1).f4, (rd_T45 y127 x5_1).f5⟩ : S45) ) (fun _ hk => hk); have hx18_1 := hcc18 1 _ rfl; (try simp only [show (k45).sz = 6 from rfl, Nat.mul_one, Nat.add_zero] at hx18_1); have hf18_1 := hfr18 1; (try simp only [show (k45).sz = 6 from rfl, Nat.mul_one, Nat.add_zero] at hf18_1); clear hcl18 hcc18 hfr18 hM18) | ((with_reducible refine gate_store (t := 40) (p := 25) rfl ?_); refine store_event (t := 40) (p := 25) (v := ?vo_w19) (w1 := (w17.setCell ⟨go6, (x5_1 : Int).toNat * 6 + 1, none⟩ (.int .i8 (IntKind.i8.wrap (wrap64 (x1_1 + 1)))))) ?hg ?ho ?hn ?hr ?_; (case ho => rfl); (case hg => rfl); (case hn => rfl); (case hr => first | (go_simp; done) | (go_simp; rfl)); intro w19 hw; have hg : w17.grownBy w19 (some go6) := (by rw [hw]; exact HP18.2); have hp_ : Kd.R k45 45 w19 w0.heap.size (fun k_ => (P0_ k_ ∨ w.heap.size ≤ k_)) (.slice (some ⟨go6, 0, none⟩) x0_1.length co14) y128 := (by rw [hw, Ny128.out]; exact HP18.1); clear HP18; have _ := A_ (hp_); have _ := A_ ((by rw [hw]; exact below_set (HB.out) GB6.out : Below w0.heap.size w0 w19)); have _ := A_ (Kept.of_grown (S := (fun k_ => P0_ k_)) hg z2_4_ (fun k_ e_ => (HO_0.out.1 k_ e_))); clear HO_0 HB HK; rename_i HO_0 HB HK; clear hg hw hp_) | ((with_reducible refine gate_callee (f := 76) rfl ?_); refine goesL_ (some 31) rfl rfl Try.func76 (by kernel_rfl) rfl #[.int .i64 (wrap64 ((wrap64 (x1_1 + 1)) + 1))] rfl z2_2_ ?_; (with_reducible refine (laws_markText.calls k1 (wrap64 ((wrap64 (x1_1 + 1)) + 1)) t129 _ A8.out).mono ?_); rintro e w20 ⟨rfl, hb⟩; refine ⟨_, rfl, ?_⟩; have _ := A_ (Kd.R_below z2_6_ hb); have _ := A_ (Kept.below (S := (fun k_ => P0_ k_)) z2_4_ hb); have _ := A_ (below_step z2_1_ hb); clear HO_0 HK HB; rename_i HO_0 HK HB; (try clear hb); have p9 : 0 ≤ (x5_1 : Int) := of_decide_eq_true (by assumption); have q9 : (x5_1 : Int) < ((x0_1.length : Int) : Int) := of_decide_eq_true (by assumption); obtain ⟨ce9, hcl9, hM9, hcc9, hfr9⟩ := Kd.R_elem HO_0.out z45 (x5_1 : Int) p9 q9; obtain rfl := k45_openM hM9; have hx9_0 : w20.cell? ⟨go6, (x5_1 : Int).toNat * 6, none⟩ = some (.string ((rd_T45 y128 x5_1).f0)) := hcc9 0 _ rfl; have hx9_1 : w20.cell? ⟨go6, (x5_1 : Int).toNat * 6 + 1, none⟩ = some (.int .i8 ((rd_T45 y128 x5_1).f1)) := hcc9 1 _ rfl; have hx9_2 : w20.cell? ⟨go6, (x5_1 : Int).toNat * 6 + 2, none⟩ = some (.string ((rd_T45 y128 x5_1).f2)) := hcc9 2 _ rfl; have hx9_3 : w20.cell? ⟨go6, (x5_1 : Int).toNat * 6 + 3, none⟩ = some (.string ((rd_T45 y128 x5_1).f3)) := hcc9 3 _ rfl; have hx9_4 : w20.cell? ⟨go6, (x5_1 : Int).toNat * 6 + 4, none⟩ = some (.int .i64 ((rd_T45 y128 x5_1).f4)) := hcc9 4 _ rfl; have hx9_5 : w20.cell? ⟨go6, (x5_1 : Int).toNat * 6 + 5, none⟩ = some (.int .i64 ((rd_T45 y128 x5_1).f5)) := hcc9 5 _ rfl; have hf9_0 : w20.frozen? ⟨go6, (x5_1 : Int).toNat * 6, none⟩ = false := hfr9 0; have hf9_1 : w20.frozen? ⟨go6, (x5_1 : Int).toNat * 6 + 1, none⟩ = false := hfr9 1; have hf9_2 : w20.frozen? ⟨go6, (x5_1 : Int).toNat * 6 + 2, none⟩ = false := hfr9 2; have hf9_3 : w20.frozen? ⟨go6, (x5_1 : Int).toNat * 6 + 3, none⟩ = false := hfr9 3; have hf9_4 : w20.frozen? ⟨go6, (x5_1 : Int).toNat * 6 + 4, none⟩ = false := hfr9 4; have hf9_5 : w20.frozen? ⟨go6, (x5_1 : Int).toNat * 6 + 5, none⟩ = false := hfr9 5; clear hcl9 hcc9 hfr9 hM9; replace p9 := eq_true p9; replace q9 := eq_true q9; have HX21 := A_ (show Kd.R k45 45 w20 w0.heap.size (fun k_ => (P0_ k_ ∨ w.heap.size ≤ k_)) (.slice (some ⟨go6, 0, none⟩) x0_1.length co14) y128 from z2_6_); obtain ⟨ce21, hcl21, hM21, hcc21, hfr21⟩ := Kd.R_elem HX21.out z45 (x5_1 : Int) (of_decide_eq_true (by assumption)) (by have h_ : (x5_1 : Int) < ((x0_1.length : Int) : Int) := of_decide_eq_true (by assumption); first | exact h_ | (have e_ := (Kd.R_reads' HO_0.out).1; omega) | simpa using h_); obtain rfl := k45_openM hM21; have HP21 := Kd.R_seg HX21.out (x5_1 : Int) (of_decide_eq_true (by assumption)) (by have h_ : (x5_1 : Int) < ((x0_1.length : Int) : Int) := of_decide_eq_true (by assumption); first | exact h_ | (have e_ := (Kd.R_reads' HO_0.out).1; omega) | simpa using h_) (seg := [.string t129]) (j := 2) hcl21 hcc21 (show 3 ≤ 6 from by decide) (x' := (⟨(rd_T45 y128 x5_1).f0, (rd_T45 y128 x5_1).f1, t129, (rd_T45 y128 x5_1).f3, (rd_T45 y128 x5_1).f4, (rd_T45 y128 x5_1).f5⟩ : S45)) (k45_mkM _ _ _ (⟨(rd_T45 y128 x5_1).f0, (rd_T45 y128 x5_1).f1, t129, (rd_T45 y128 x5_1).f3, (rd_T45 y128 x5_1).f4, (rd_T45 y128 x5_1).f5⟩ : S45) ) (fun _ hk => hk); have hx21_2 := hcc21 2 _ rfl; (try simp only [show (k45).sz = 6 from rfl, Nat.mul_one, Nat.add_zero] at hx21_2); have hf21_2 := hfr21 2; (try simp only [show (k45).sz = 6 from rfl, Nat.mul_one, Nat.add_zero] at hf21_2); clear hcl21 hcc21 hfr21 hM21) | ((with_reducible refine gate_store (t := 9) (p := 33) rfl ?_); refine store_event (t := 9) (p := 33) (v := ?vo_w22) (w1 := (w20.setCell ⟨go6, (x5_1 : Int).toNat * 6 + 2, none⟩ (.string t129))) ?hg ?ho ?hn ?hr ?_; (case ho => rfl); (case hg => rfl); (case hn => rfl); (case hr => first | (go_simp; done) | (go_simp; rfl)); intro w22 hw; have hg : w20.grownBy w22 (some go6) := (by rw [hw]; exact HP21.2); have hp_ : Kd.R k45 45 w22 w0.heap.size (fun k_ => (P0_ k_ ∨ w.heap.size ≤ k_)) (.slice (some ⟨go6, 0, none⟩) x0_1.length co14) y130 := (by rw [hw, Ny130.out]; exact HP21.1); clear HP21; have _ := A_ (hp_); have _ := A_ ((by rw [hw]; exact below_set (HB.out) GB6.out : Below w0.heap.size w0 w22)); have _ := A_ (Kept.of_grown (S := (fun k_ => P0_ k_)) hg z2_4_ (fun k_ e_ => (HO_0.out.1 k_ e_))); clear HO_0 HB HK; rename_i HO_0 HB HK; clear hg hw hp_) | ((with_reducible refine gate_callee (f := 76) rfl ?_); refine goesL_ (some 39) rfl rfl Try.func76 (by kernel_rfl) rfl #[.int .i64 (wrap64 ((wrap64 ((wrap64 (x1_1 + 1)) + 1)) + 1))] rfl z2_2_ ?_; (with_reducible refine (laws_markText.calls k1 (wrap64 ((wrap64 ((wrap64 (x1_1 + 1)) + 1)) + 1)) t131 _ A10.out).mono ?_); rintro e w23 ⟨rfl, hb⟩; refine ⟨_, rfl, ?_⟩; have _ := A_ (Kd.R_below z2_6_ hb); have _ := A_ (Kept.below (S := (fun k_ => P0_ k_)) z2_4_ hb); have _ := A_ (below_step z2_1_ hb); clear HO_0 HK HB; rename_i HO_0 HK HB; (try clear hb); have p11 : 0 ≤ (x5_1 : Int) := of_decide_eq_true (by assumption); have q11 : (x5_1 : Int) < ((x0_1.length : Int) : Int) := of_decide_eq_true (by assumption); obtain ⟨ce11, hcl11, hM11, hcc11, hfr11⟩ := Kd.R_elem HO_0.out z45 (x5_1 : Int) p11 q11; obtain rfl := k45_openM hM11; have hx11_0 : w23.cell? ⟨go6, (x5_1 : Int).toNat * 6, none⟩ = some (.string ((rd_T45 y130 x5_1).f0)) := hcc11 0 _ rfl; have hx11_1 : w23.cell? ⟨go6, (x5_1 : Int).toNat * 6 + 1, none⟩ = some (.int .i8 ((rd_T45 y130 x5_1).f1)) := hcc11 1 _ rfl; have hx11_2 : w23.cell? ⟨go6, (x5_1 : Int).toNat * 6 + 2, none⟩ = some (.string ((rd_T45 y130 x5_1).f2)) := hcc11 2 _ rfl; have hx11_3 : w23.cell? ⟨go6, (x5_1 : Int).toNat * 6 + 3, none⟩ = some (.string ((rd_T45 y130 x5_1).f3)) := hcc11 3 _ rfl; have hx11_4 : w23.cell? ⟨go6, (x5_1 : Int).toNat * 6 + 4, none⟩ = some (.int .i64 ((rd_T45 y130 x5_1).f4)) := hcc11 4 _ rfl; have hx11_5 : w23.cell? ⟨go6, (x5_1 : Int).toNat * 6 + 5, none⟩ = some (.int .i64 ((rd_T45 y130 x5_1).f5)) := hcc11 5 _ rfl; have hf11_0 : w23.frozen? ⟨go6, (x5_1 : Int).toNat * 6, none⟩ = false := hfr11 0; have hf11_1 : w23.frozen? ⟨go6, (x5_1 : Int).toNat * 6 + 1, none⟩ = false := hfr11 1; have hf11_2 : w23.frozen? ⟨go6, (x5_1 : Int).toNat * 6 + 2, none⟩ = false := hfr11 2; have hf11_3 : w23.frozen? ⟨go6, (x5_1 : Int).toNat * 6 + 3, none⟩ = false := hfr11 3; have hf11_4 : w23.frozen? ⟨go6, (x5_1 : Int).toNat * 6 + 4, none⟩ = false := hfr11 4; have hf11_5 : w23.frozen? ⟨go6, (x5_1 : Int).toNat * 6 + 5, none⟩ = false := hfr11 5; clear hcl11 hcc11 hfr11 hM11; replace p11 := eq_true p11; replace q11 := eq_true q11; have HX24 := A_ (show Kd.R k45 45 w23 w0.heap.size (fun k_ => (P0_ k_ ∨ w.heap.size ≤ k_)) (.slice (some ⟨go6, 0, none⟩) x0_1.length co14) y130 from z2_6_); obtain ⟨ce24, hcl24, hM24, hcc24, hfr24⟩ := Kd.R_elem HX24.out z45 (x5_1 : Int) (of_decide_eq_true (by assumption)) (by have h_ : (x5_1 : Int) < ((x0_1.length : Int) : Int) := of_decide_eq_true (by assumption); first | exact h_ | (have e_ := (Kd.R_reads' HO_0.out).1; omega) | simpa using h_); obtain rfl := k45_openM hM24; have HP24 := Kd.R_seg HX24.out (x5_1 : Int) (of_decide_eq_true (by assumption)) (by have h_ : (x5_1 : Int) < ((x0_1.length : Int) : Int) := of_decide_eq_true (by assumption); first | exact h_ | (have e_ := (Kd.R_reads' HO_0.out).1; omega) | simpa using h_) (seg := [.string t131]) (j := 3) hcl24 hcc24 (show 4 ≤ 6 from by decide) (x' := (⟨(rd_T45 y130 x5_1).f0, (rd_T45 y130 x5_1).f1, (rd_T45 y130 x5_1).f2, t131, (rd_T45 y130 x5_1).f4, (rd_T45 y130 x5_1).f5⟩ : S45)) (k45_mkM _ _ _ (⟨(rd_T45 y130 x5_1).f0, (rd_T45 y130 x5_1).f1, (rd_T45 y130 x5_1).f2, t131, (rd_T45 y130 x5_1).f4, (rd_T45 y130 x5_1).f5⟩ : S45) ) (fun _ hk => hk); have hx24_3 := hcc24 3 _ rfl; (try simp only [show (k45).sz = 6 from rfl, Nat.mul_one, Nat.add_zero] at hx24_3); have hf24_3 := hfr24 3; (try simp only [show (k45).sz = 6 from rfl, Nat.mul_one, Nat.add_zero] at hf24_3); clear hcl24 hcc24 hfr24 hM24) | ((with_reducible refine gate_store (t := 9) (p := 41) rfl ?_); refine store_event (t := 9) (p := 41) (v := ?vo_w25) (w1 := (w23.setCell ⟨go6, (x5_1 : Int).toNat * 6 + 3, none⟩ (.string t131))) ?hg ?ho ?hn ?hr ?_; (case ho => rfl); (case hg => rfl); (case hn => rfl); (case hr => first | (go_simp; done) | (go_simp; rfl)); intro w25 hw; have hg : w23.grownBy w25 (some go6) := (by rw [hw]; exact HP24.2); have hp_ : Kd.R k45 45 w25 w0.heap.size (fun k_ => (P0_ k_ ∨ w.heap.size ≤ k_)) (.slice (some ⟨go6, 0, none⟩) x0_1.length co14) y132 := (by rw [hw, Ny132.out]; exact HP24.1); clear HP24; have _ := A_ (hp_); have _ := A_ ((by rw [hw]; exact below_set (HB.out) GB6.out : Below w0.heap.size w0 w25)); have _ := A_ (Kept.of_grown (S := (fun k_ => P0_ k_)) hg z2_4_ (fun k_ e_ => (HO_0.out.1 k_ e_))); clear HO_0 HB HK; rename_i HO_0 HB HK; clear hg hw hp_; have p12 : 0 ≤ (x5_1 : Int) := of_decide_eq_true (by assumption); have q12 : (x5_1 : Int) < ((x0_1.length : Int) : Int) := of_decide_eq_true (by assumption); obtain ⟨ce12, hcl12, hM12, hcc12, hfr12⟩ := Kd.R_elem HO_0.out z45 (x5_1 : Int) p12 q12; obtain rfl := k45_openM hM12; have hx12_0 : w25.cell? ⟨go6, (x5_1 : Int).toNat * 6, none⟩ = some (.string ((rd_T45 y132 x5_1).f0)) := hcc12 0 _ rfl; have hx12_1 : w25.cell? ⟨go6, (x5_1 : Int).toNat * 6 + 1, none⟩ = some (.int .i8 ((rd_T45 y132 x5_1).f1)) := hcc12 1 _ rfl; have hx12_2 : w25.cell? ⟨go6, (x5_1 : Int).toNat * 6 + 2, none⟩ = some (.string ((rd_T45 y132 x5_1).f2)) := hcc12 2 _ rfl; have hx12_3 : w25.cell? ⟨go6, (x5_1 : Int).toNat * 6 + 3, none⟩ = some (.string ((rd_T45 y132 x5_1).f3)) := hcc12 3 _ rfl; have hx12_4 : w25.cell? ⟨go6, (x5_1 : Int).toNat * 6 + 4, none⟩ = some (.int .i64 ((rd_T45 y132 x5_1).f4)) := hcc12 4 _ rfl; have hx12_5 : w25.cell? ⟨go6, (x5_1 : Int).toNat * 6 + 5, none⟩ = some (.int .i64 ((rd_T45 y132 x5_1).f5)) := hcc12 5 _ rfl; have hf12_0 : w25.frozen? ⟨go6, (x5_1 : Int).toNat * 6, none⟩ = false := hfr12 0; have hf12_1 : w25.frozen? ⟨go6, (x5_1 : Int).toNat * 6 + 1, none⟩ = false := hfr12 1; have hf12_2 : w25.frozen? ⟨go6, (x5_1 : Int).toNat * 6 + 2, none⟩ = false := hfr12 2; have hf12_3 : w25.frozen? ⟨go6, (x5_1 : Int).toNat * 6 + 3, none⟩ = false := hfr12 3; have hf12_4 : w25.frozen? ⟨go6, (x5_1 : Int).toNat * 6 + 4, none⟩ = false := hfr12 4; have hf12_5 : w25.frozen? ⟨go6, (x5_1 : Int).toNat * 6 + 5, none⟩ = false := hfr12 5; clear hcl12 hcc12 hfr12 hM12; replace p12 := eq_true p12; replace q12 := eq_true q12; have HX26 := A_ (show Kd.R k45 45 w25 w0.heap.size (fun k_ => (P0_ k_ ∨ w.heap.size ≤ k_)) (.slice (some ⟨go6, 0, none⟩) x0_1.length co14) y132 from z2_6_); obtain ⟨ce26, hcl26, hM26, hcc26, hfr26⟩ := Kd.R_elem HX26.out z45 (x5_1 : Int) (of_decide_eq_true (by assumption)) (by have h_ : (x5_1 : Int) < ((x0_1.length : Int) : Int) := of_decide_eq_true (by assumption); first | exact h_ | (have e_ := (Kd.R_reads' HO_0.out).1; omega) | simpa using h_); obtain rfl := k45_openM hM26; have HP26 := Kd.R_seg HX26.out (x5_1 : Int) (of_decide_eq_true (by assumption)) (by have h_ : (x5_1 : Int) < ((x0_1.length : Int) : Int) := of_decide_eq_true (by assumption); first | exact h_ | (have e_ := (Kd.R_reads' HO_0.out).1; omega) | simpa using h_) (seg := [.int .i64 (wrap64 ((wrap64 ((wrap64 ((wrap64 (x1_1 + 1)) + 1)) + 1)) + 1))]) (j := 4) hcl26 hcc26 (show 5 ≤ 6 from by decide) (x' := (⟨(rd_T45 y132 x5_1).f0, (rd_T45 y132 x5_1).f1, (rd_T45 y132 x5_1).f2, (rd_T45 y132 x5_1).f3, wrap64 ((wrap64 ((wrap64 ((wrap64 (x1_1 + 1)) + 1)) + 1)) + 1), (rd_T45 y132 x5_1).f5⟩ : S45)) (k45_mkM _ _ _ (⟨(rd_T45 y132 x5_1).f0, (rd_T45 y132 x5_1).f1, (rd_T45 y132 x5_1).f2, (rd_T45 y132 x5_1).f3, wrap64 ((wrap64 ((wrap64 ((wrap64 (x1_1 + 1)) + 1)) + 1)) + 1), (rd_T45 y132 x5_1).f5⟩ : S45) ) (fun _ hk => hk); have hx26_4 := hcc26 4 _ rfl; (try simp only [show (k45).sz = 6 from rfl, Nat.mul_one, Nat.add_zero] at hx26_4); have hf26_4 := hfr26 4; (try simp only [show (k45).sz = 6 from rfl, Nat.mul_one, Nat.add_zero] at hf26_4); clear hcl26 hcc26 hfr26 hM26) | ((with_reducible refine gate_store (t := 2) (p := 48) rfl ?_); refine store_event (t := 2) (p := 48) (v := ?vo_w27) (w1 := (w25.setCell ⟨go6, (x5_1 : Int).toNat * 6 + 4, none⟩ (.int .i64 (wrap64 ((wrap64 ((wrap64 ((wrap64 (x1_1 + 1)) + 1)) + 1)) + 1))))) ?hg ?ho ?hn ?hr ?_; (case ho => rfl); (case hg => rfl); (case hn => rfl); (case hr => first | (go_simp; done) | (go_simp; rfl)); intro w27 hw; have hg : w25.grownBy w27 (some go6) := (by rw [hw]; exact HP26.2); have hp_ : Kd.R k45 45 w27 w0.heap.size (fun k_ => (P0_ k_ ∨ w.heap.size ≤ k_)) (.slice (some ⟨go6, 0, none⟩) x0_1.length co14) y133 := (by rw [hw, Ny133.out]; exact HP26.1); clear HP26; have _ := A_ (hp_); have _ := A_ ((by rw [hw]; exact below_set (HB.out) GB6.out : Below w0.heap.size w0 w27)); have _ := A_ (Kept.of_grown (S := (fun k_ => P0_ k_)) hg z2_4_ (fun k_ e_ => (HO_0.out.1 k_ e_))); clear HO_0 HB HK; rename_i HO_0 HB HK; clear hg hw hp_; have p13 : 0 ≤ (x5_1 : Int) := of_decide_eq_true (by assumption); have q13 : (x5_1 : Int) < ((x0_1.length : Int) : Int) := of_decide_eq_true (by assumption); obtain ⟨ce13, hcl13, hM13, hcc13, hfr13⟩ := Kd.R_elem HO_0.out z45 (x5_1 : Int) p13 q13; obtain rfl := k45_openM hM13; have hx13_0 : w27.cell? ⟨go6, (x5_1 : Int).toNat * 6, none⟩ = some (.string ((rd_T45 y133 x5_1).f0)) := hcc13 0 _ rfl; have hx13_1 : w27.cell? ⟨go6, (x5_1 : Int).toNat * 6 + 1, none⟩ = some (.int .i8 ((rd_T45 y133 x5_1).f1)) := hcc13 1 _ rfl; have hx13_2 : w27.cell? ⟨go6, (x5_1 : Int).toNat * 6 + 2, none⟩ = some (.string ((rd_T45 y133 x5_1).f2)) := hcc13 2 _ rfl; have hx13_3 : w27.cell? ⟨go6, (x5_1 : Int).toNat * 6 + 3, none⟩ = some (.string ((rd_T45 y133 x5_1).f3)) := hcc13 3 _ rfl; have hx13_4 : w27.cell? ⟨go6, (x5_1 : Int).toNat * 6 + 4, none⟩ = some (.int .i64 ((rd_T45 y133 x5_1).f4)) := hcc13 4 _ rfl; have hx13_5 : w27.cell? ⟨go6, (x5_1 : Int).toNat * 6 + 5, none⟩ = some (.int .i64 ((rd_T45 y133 x5_1).f5)) := hcc13 5 _ rfl; have hf13_0 : w27.frozen? ⟨go6, (x5_1 : Int).toNat * 6, none⟩ = false := hfr13 0; have hf13_1 : w27.frozen? ⟨go6, (x5_1 : Int).toNat * 6 + 1, none⟩ = false := hfr13 1; have hf13_2 : w27.frozen? ⟨go6, (x5_1 : Int).toNat * 6 + 2, none⟩ = false := hfr13 2; have hf13_3 : w27.frozen? ⟨go6, (x5_1 : Int).toNat * 6 + 3, none⟩ = false := hfr13 3; have hf13_4 : w27.frozen? ⟨go6, (x5_1 : Int).toNat * 6 + 4, none⟩ = false := hfr13 4; have hf13_5 : w27.frozen? ⟨go6, (x5_1 : Int).toNat * 6 + 5, none⟩ = false := hfr13 5; clear hcl13 hcc13 hfr13 hM13; replace p13 := eq_true p13; replace q13 := eq_true q13; have HX28 := A_ (show Kd.R k45 45 w27 w0.heap.size (fun k_ => (P0_ k_ ∨ w.heap.size ≤ k_)) (.slice (some ⟨go6, 0, none⟩) x0_1.length co14) y133 from z2_6_); obtain ⟨ce28, hcl28, hM28, hcc28, hfr28⟩ := Kd.R_elem HX28.out z45 (x5_1 : Int) (of_decide_eq_true (by assumption)) (by have h_ : (x5_1 : Int) < ((x0_1.length : Int) : Int) := of_decide_eq_true (by assumption); first | exact h_ | (have e_ := (Kd.R_reads' HO_0.out).1; omega) | simpa using h_); obtain rfl := k45_openM hM28; have HP28 := Kd.R_seg HX28.out (x5_1 : Int) (of_decide_eq_true (by assumption)) (by have h_ : (x5_1 : Int) < ((x0_1.length : Int) : Int) := of_decide_eq_true (by assumption); first | exact h_ | (have e_ := (Kd.R_reads' HO_0.out).1; omega) | simpa using h_) (seg := [.int .i64 (wrap64 ((wrap64 ((wrap64 ((wrap64 ((wrap64 (x1_1 + 1)) + 1)) + 1)) + 1)) + 1))]) (j := 5) hcl28 hcc28 (show 6 ≤ 6 from by decide) (x' := (⟨(rd_T45 y133 x5_1).f0, (rd_T45 y133 x5_1).f1, (rd_T45 y133 x5_1).f2, (rd_T45 y133 x5_1).f3, (rd_T45 y133 x5_1).f4, wrap64 ((wrap64 ((wrap64 ((wrap64 ((wrap64 (x1_1 + 1)) + 1)) + 1)) + 1)) + 1)⟩ : S45)) (k45_mkM _ _ _ (⟨(rd_T45 y133 x5_1).f0, (rd_T45 y133 x5_1).f1, (rd_T45 y133 x5_1).f2, (rd_T45 y133 x5_1).f3, (rd_T45 y133 x5_1).f4, wrap64 ((wrap64 ((wrap64 ((wrap64 ((wrap64 (x1_1 + 1)) + 1)) + 1)) + 1)) + 1)⟩ : S45) ) (fun _ hk => hk); have hx28_5 := hcc28 5 _ rfl; (try simp only [show (k45).sz = 6 from rfl, Nat.mul_one, Nat.add_zero] at hx28_5); have hf28_5 := hfr28 5; (try simp only [show (k45).sz = 6 from rfl, Nat.mul_one, Nat.add_zero] at hf28_5); clear hcl28 hcc28 hfr28 hM28) | ((with_reducible refine gate_store (t := 2) (p := 55) rfl ?_); refine store_event (t := 2) (p := 55) (v := ?vo_w29) (w1 := (w27.setCell ⟨go6, (x5_1 : Int).toNat * 6 + 5, none⟩ (.int .i64 (wrap64 ((wrap64 ((wrap64 ((wrap64 ((wrap64 (x1_1 + 1)) + 1)) + 1)) + 1)) + 1))))) ?hg ?ho ?hn ?hr ?_; (case ho => rfl); (case hg => rfl); (case hn => rfl); (case hr => first | (go_simp; done) | (go_simp; rfl)); intro w29 hw; have hg : w27.grownBy w29 (some go6) := (by rw [hw]; exact HP28.2); have hp_ : Kd.R k45 45 w29 w0.heap.size (fun k_ => (P0_ k_ ∨ w.heap.size ≤ k_)) (.slice (some ⟨go6, 0, none⟩) x0_1.length co14) y134 := (by rw [hw, Ny134.out]; exact HP28.1); clear HP28; have _ := A_ (hp_); have _ := A_ ((by rw [hw]; exact below_set (HB.out) GB6.out : Below w0.heap.size w0 w29)); have _ := A_ (Kept.of_grown (S := (fun k_ => P0_ k_)) hg z2_4_ (fun k_ e_ => (HO_0.out.1 k_ e_))); clear HO_0 HB HK; rename_i HO_0 HB HK; clear hg hw hp_))
     go_roundg k1
     case measure => have := HK1.out; omega
     case rel => exact ⟨(y134), (wrap64 ((wrap64 ((wrap64 ((wrap64 ((wrap64 ((wrap64 (x1_1 + 1)) + 1)) + 1)) + 1)) + 1)) + 1)), (wrap64 (x5_1 + 1)), z2_3_, z2_3_, H', ⟨(by have := HK1.out; omega)⟩, ⟨z2_6_⟩, ⟨z2_4_⟩, ⟨z2_1_⟩⟩
    ·
     rw [if_neg c5] at H
     exact absurd H (by simp)
   ·
    rw [if_neg c3] at H
    have c3b0 := decide_eq_false c3
    clear c3
    simp only [Option.some.injEq, Prod.mk.injEq] at H
    obtain ⟨rfl, rfl⟩ := H
    obtain ⟨Ao30, co30, eo30⟩ := Kd.R_slice HO_0.out
    subst eo30
    go_wp2
    go_ret
    exact ⟨z2_5_, z2_6_, z2_1_, z2_4_⟩
/-! ### laws_heldLineS: function 28 -/
def laws_heldLineS.l0 : Nat → List (S45) → Int → Int → Option (Int)
 | 0, _, _, _ => none
 | k + 1, x0, x1, x5 => if x5 < (x0.length : Int) then (if 0 ≤ x5 then ((laws_markText.f k x1).bind fun t136 => (if ((rd_T45 x0 x5).f0).toList = t136.toList then (if ((rd_T45 x0 x5).f1) = (IntKind.i8.wrap (wrap64 (x1 + 1))) then ((laws_markText.f k (wrap64 ((wrap64 (x1 + 1)) + 1))).bind fun t139 => (if ((rd_T45 x0 x5).f2).toList = t139.toList then ((laws_markText.f k (wrap64 ((wrap64 ((wrap64 (x1 + 1)) + 1)) + 1))).bind fun t141 => (if ((rd_T45 x0 x5).f3).toList = t141.toList then (if ((rd_T45 x0 x5).f4) = (wrap64 ((wrap64 ((wrap64 ((wrap64 (x1 + 1)) + 1)) + 1)) + 1)) then (if ((rd_T45 x0 x5).f5) = (wrap64 ((wrap64 ((wrap64 ((wrap64 ((wrap64 (x1 + 1)) + 1)) + 1)) + 1)) + 1)) then (laws_heldLineS.l0 k x0 (wrap64 ((wrap64 ((wrap64 ((wrap64 ((wrap64 ((wrap64 (x1 + 1)) + 1)) + 1)) + 1)) + 1)) + 1)) (wrap64 (x5 + 1))) else (some (-1))) else (some (-1))) else (some (-1)))) else (some (-1)))) else (some (-1))) else (some (-1)))) else (none)) else (some x1)
def laws_heldLineS.f (k : Nat) (l0 : List (S45)) (a1 : Int) : Option (Int) := laws_heldLineS.l0 k l0 a1 0
theorem laws_heldLineS.mono_l : ∀ k, (∀ y0 y1 y2, LeO (laws_heldLineS.l0 k y0 y1 y2) (laws_heldLineS.l0 (k + 1) y0 y1 y2))
 | 0 => fun _ _ _ r h => by simp [laws_heldLineS.l0] at h
 | k + 1 => by
  have ih0 := laws_heldLineS.mono_l k
  ·
   intro y0 y1 y2
   unfold laws_heldLineS.l0
   repeat' first
   | (with_reducible exact ih0 _ _ _)
   | (with_reducible exact laws_markText.mono _ _)
   | (with_reducible exact LeO.refl _)
   | (with_reducible exact LeO.none _)
   | (with_reducible refine LeO.ite ?_ ?_)
   | (with_reducible refine LeO.bind ?_ (fun _ => ?_))
   | exact ih0 _ _ _
   | exact LeO.none _
   | refine LeO.ite ?_ ?_
   | refine LeO.bind ?_ (fun _ => ?_)
theorem laws_heldLineS.mono : ∀ a0 a1 k, LeO (laws_heldLineS.f k a0 a1) (laws_heldLineS.f (k + 1) a0 a1) := by
 intro a0 a1 k
 have ih0 := laws_heldLineS.mono_l k
 unfold laws_heldLineS.f
 repeat' first
   | (with_reducible exact ih0 _ _ _)
   | (with_reducible exact laws_markText.mono _ _)
   | (with_reducible exact LeO.refl _)
   | (with_reducible exact LeO.none _)
   | (with_reducible refine LeO.ite ?_ ?_)
   | (with_reducible refine LeO.bind ?_ (fun _ => ?_))
   | exact ih0 _ _ _
   | exact LeO.none _
   | refine LeO.ite ?_ ?_
   | refine LeO.bind ?_ (fun _ => ?_)
def laws_heldLineS.T4 : Bool × List (List Nat × List Nat) := (true, [([], []), ([], []), ([0, 1], [0, 1]), ([2], [2]), ([3], [3]), ([], []), ([5], [5]), ([4, 6], [4, 6])])
def laws_heldLineS.B4 : List Nat := [0, 0, 3, 7, 15, 0, 32, 127]
theorem laws_heldLineS.tab4 : rtab .any (opsOf Try.f28 4) = laws_heldLineS.T4 := by kernel_rfl
theorem laws_heldLineS.bits4 : waitsOk laws_heldLineS.T4.2 laws_heldLineS.B4 = true := by kernel_rfl
def laws_heldLineS.T10 : Bool × List (List Nat × List Nat) := (true, [([], []), ([], []), ([0, 1], [0, 1]), ([2], [2]), ([3], [3]), ([], []), ([5], [5]), ([4, 6], [4, 6])])
def laws_heldLineS.B10 : List Nat := [0, 0, 3, 7, 15, 0, 32, 127]
theorem laws_heldLineS.tab10 : rtab .any (opsOf Try.f28 10) = laws_heldLineS.T10 := by kernel_rfl
theorem laws_heldLineS.bits10 : waitsOk laws_heldLineS.T10.2 laws_heldLineS.B10 = true := by kernel_rfl
def laws_heldLineS.T13 : Bool × List (List Nat × List Nat) := (true, [([], []), ([], []), ([0, 1], [0, 1]), ([2], [2]), ([3], [3]), ([], []), ([5], [5]), ([4, 6], [4, 6])])
def laws_heldLineS.B13 : List Nat := [0, 0, 3, 7, 15, 0, 32, 127]
theorem laws_heldLineS.tab13 : rtab .any (opsOf Try.f28 13) = laws_heldLineS.T13 := by kernel_rfl
theorem laws_heldLineS.bits13 : waitsOk laws_heldLineS.T13.2 laws_heldLineS.B13 = true := by kernel_rfl
set_option maxHeartbeats 8000000 in
set_option maxRecDepth 100000 in
theorem laws_heldLineS.calls (k : Nat) (A0 : Option Addr) (c0 : Nat) (l0 : List (S45)) (a1 : Int) (r : Int) (w : World) (hr0 : Kd.C k45 w A0 l0.length l0) (hc0 : l0.length ≤ c0) (h : laws_heldLineS.f k l0 a1 = some r) :
  Calls Try.prog 28 #[.slice A0 l0.length c0, .int .i64 a1] w fun e w' => e = .returned (.int .i64 r) ∧ Below w.heap.size w w' := by
 have HR0 := A_ hr0
 have HC0 := A_ hc0
 clear hr0 hc0
 have HB := A_ (Below.refl w.heap.size w)
 have H : (laws_heldLineS.l0 k l0 a1 0) = some r := h
 clear h
 have H' := A_ H
 clear H
 go_enter Try.func28, Try.ntmps28
 go_wp2
 go_loopg [1, 5] k (fun kq v1 v5 w' => ∃ (x1_1 : Int) (x5_1 : Int), v1 = .int .i64 x1_1 ∧ v5 = .int .i64 x5_1 ∧ Aside0 (laws_heldLineS.l0 kq l0 x1_1 x5_1 = some r) ∧ Aside0 (kq ≤ k) ∧ Aside0 (Below w.heap.size w w'))
 case atStart => exact ⟨(a1), (0), z2_3_, z2_3_, H', ⟨Nat.le_refl _⟩, ⟨z2_1_⟩⟩
 case round =>
  clear H'
  try clear c2
  try clear p2
  obtain ⟨x1_1, x5_1, rfl, rfl, HA, HK1, HB⟩ := hrel
  cases gk with
  | zero => exact absurd HA.out (by simp [laws_heldLineS.l0])
  | succ k1 =>
   have H := HA.out
   clear HA
   simp only [laws_heldLineS.l0] at H
   by_cases c3 : x5_1 < (l0.length : Int)
   ·
    rw [if_pos c3] at H
    have c3b0 := decide_eq_true c3
    clear c3
    by_cases c4 : 0 ≤ x5_1
    ·
     rw [if_pos c4] at H
     have c4b0 := decide_eq_true c4
     clear c4
     replace H := Option.bind_eq_some_iff.mp H
     obtain ⟨t136, A50, H⟩ := H
     try dsimp only at H
     have A5 := A_ A50
     clear A50
     have HZ_ := A_ H
     clear H
     try go_wp2
     have _ := A_ (below_drew1 HB.out)
     clear HB
     rename_i HB
     have p135 : 0 ≤ (x5_1 : Int) := of_decide_eq_true (by assumption)
     have q135 : x5_1 < (l0.length : Int) := of_decide_eq_true (by assumption)
     obtain ⟨ad135, e135, hx135_0, hx135_1, hx135_2, hx135_3, hx135_4, hx135_5⟩ := at_T45 HR0.out x5_1 p135 q135
     have hw135_5 := hx135_5
     have hw135_4 := hx135_4
     have hw135_3 := hx135_3
     have hw135_2 := hx135_2
     have hw135_1 := hx135_1
     have hw135_0 := hx135_0
     cases e135
     replace hx135_0 := cel HB.out hx135_0
     replace hx135_1 := cel HB.out hx135_1
     replace hx135_2 := cel HB.out hx135_2
     replace hx135_3 := cel HB.out hx135_3
     replace hx135_4 := cel HB.out hx135_4
     replace hx135_5 := cel HB.out hx135_5
     replace p135 := eq_true p135
     replace q135 := eq_true q135
     refine start_ (n := 8) (S := fun w' => w'.cell? (ad135.add ((x5_1).toNat * 6)) = some (.string ((rd_T45 l0 x5_1).f0)) ∧ w'.cell? ⟨(ad135.add ((x5_1).toNat * 6)).block, (ad135.add ((x5_1).toNat * 6)).off + 1, none⟩ = some (.int .i8 ((rd_T45 l0 x5_1).f1)) ∧ w'.cell? ⟨(ad135.add ((x5_1).toNat * 6)).block, (ad135.add ((x5_1).toNat * 6)).off + 2, none⟩ = some (.string ((rd_T45 l0 x5_1).f2)) ∧ w'.cell? ⟨(ad135.add ((x5_1).toNat * 6)).block, (ad135.add ((x5_1).toNat * 6)).off + 3, none⟩ = some (.string ((rd_T45 l0 x5_1).f3)) ∧ w'.cell? ⟨(ad135.add ((x5_1).toNat * 6)).block, (ad135.add ((x5_1).toNat * 6)).off + 4, none⟩ = some (.int .i64 ((rd_T45 l0 x5_1).f4)) ∧ w'.cell? ⟨(ad135.add ((x5_1).toNat * 6)).block, (ad135.add ((x5_1).toNat * 6)).off + 5, none⟩ = some (.int .i64 ((rd_T45 l0 x5_1).f5))) (ds := []) #[false, false, false, false, false, false, false, false] (by kernel_rfl) rfl rfl ⟨(cel HB.out hw135_0), (cel HB.out hw135_1), (cel HB.out hw135_2), (cel HB.out hw135_3), (cel HB.out hw135_4), (cel HB.out hw135_5)⟩ (fun hHeld => ?_); refine with_tabW laws_heldLineS.tab4 laws_heldLineS.bits4 (fun HT_ HW_ => ?_)
     generalize wr.drew = w14 at HB hx135_0 hx135_1 hx135_2 hx135_3 hx135_4 hx135_5 hHeld ⊢
     refine pure_ (i := 0) (N := some 12) (v := ?_) (a' := ?_) #[true, false, false, false, false, false, false, false] rfl rfl (any_of HT_.out (by kernel_rfl)) (fun _ _ _ h => h) (Or.inl ⟨by rfl, ?_⟩) ?_ ?_
     rotate_left
     ·
      intro w'
      go_simp
      with_reducible rfl
     rotate_left
     ·
      simp only [Act.put, sA_, sB_, sC_, i64_w, i32_w]
      rfl
     refine pure_ (i := 1) (N := some 13) (v := ?_) (a' := ?_) #[true, true, false, false, false, false, false, false] rfl rfl (any_of HT_.out (by kernel_rfl)) (fun _ _ _ h => h) (Or.inl ⟨by rfl, ?_⟩) ?_ ?_
     rotate_left
     ·
      intro w'
      go_simp
      with_reducible rfl
     rotate_left
     ·
      simp only [Act.put, sA_, sB_, sC_, i64_w, i32_w]
      rfl
     refine pure_ (i := 2) (N := some 14) (v := ?_) (a' := ?_) #[true, true, true, false, false, false, false, false] rfl rfl (any_of HT_.out (by kernel_rfl)) (fun _ _ _ h => h) (Or.inl ⟨by rfl, ?_⟩) ?_ ?_
     rotate_left
     ·
      intro w'
      go_simp
      with_reducible rfl
     rotate_left
     ·
      simp only [Act.put, sA_, sB_, sC_, i64_w, i32_w]
      rfl
     refine pure_ (i := 3) (N := some 15) (v := ?_) (a' := ?_) #[true, true, true, true, false, false, false, false] rfl rfl (any_of HT_.out (by kernel_rfl)) (fun _ _ _ h => h) (Or.inl ⟨by rfl, ?_⟩) ?_ ?_
     rotate_left
     ·
      intro w'
      go_simp
      with_reducible rfl
     rotate_left
     ·
      simp only [Act.put, sA_, sB_, sC_, i64_w, i32_w]
      rfl
     refine pure_ (i := 5) (N := some 17) (v := ?_) (a' := ?_) #[true, true, true, true, false, true, false, false] rfl rfl (any_of HT_.out (by kernel_rfl)) (fun _ _ _ h => h) (Or.inl ⟨by rfl, ?_⟩) ?_ ?_
     rotate_left
     ·
      intro w'
      go_simp
      with_reducible rfl
     rotate_left
     ·
      simp only [Act.put, sA_, sB_, sC_, i64_w, i32_w]
      rfl
     refine take_ (i := 4) (N := some 16) (v := ?_) (a' := ?_) #[true, true, true, true, true, true, false, false] rfl rfl (take_ofW HT_.out HW_.out (by kernel_rfl)) (fun _ _ _ h => h) (Or.inl ⟨by rfl, ?_⟩) hHeld ?_ ?_
     rotate_left
     ·
      rintro w' ⟨s0, s1, s2, s3, s4, s5⟩
      go_simp
      with_reducible rfl
     rotate_left
     ·
      simp only [Act.put, sA_, sB_, sC_, i64_w, i32_w]
      rfl
     refine one_ (i := 6) (N := some 18) #[true, true, true, true, true, true, true, false] rfl rfl (one_of HT_.out (by kernel_rfl)) (by decide) (fun K hK => ?_)
     refine goes_ Try.func76 (by kernel_rfl) rfl #[.int .i64 x1_1] (by rfl) rfl rfl z2_2_ ?_
     with_reducible refine (laws_markText.calls k1 x1_1 t136 _ A5.out).mono ?_
     rintro e w15 ⟨rfl, hb⟩
     refine ⟨_, rfl, ?_⟩
     have _ := A_ (below_step z2_1_ hb)
     clear HB
     rename_i HB
     (try clear hb)
     (try clear hb2)
     (try clear hk)
     (try clear hi)
     refine hK.out _ _ ⟨(cel HB.out hw135_0), (cel HB.out hw135_1), (cel HB.out hw135_2), (cel HB.out hw135_3), (cel HB.out hw135_4), (cel HB.out hw135_5)⟩ (fun hHeld => ?_)
     clear hK K
     refine norm_ (a' := ?_) ?_ ?_
     rotate_left
     ·
      show Act.put _ (some 18) _ = _
      simp only [Act.put, sA_, sB_, sC_, i64_w, i32_w]
      rfl
     refine pure_ (i := 7) (N := some 19) (v := ?_) (a' := ?_) #[true, true, true, true, true, true, true, true] rfl rfl (any_of HT_.out (by kernel_rfl)) (fun _ _ _ h => h) (Or.inl ⟨by rfl, ?_⟩) ?_ ?_
     rotate_left
     ·
      intro w'
      go_simp
      with_reducible rfl
     rotate_left
     ·
      simp only [Act.put, sA_, sB_, sC_, i64_w, i32_w]
      rfl
     refine done_ (done_of HT_.out (by kernel_rfl)) ?_
     have H := HZ_.out
     clear HZ_
     by_cases c6 : ((rd_T45 l0 x5_1).f0).toList = t136.toList
     ·
      rw [if_pos c6] at H
      have c6b0 := beq_iff_eq.mpr c6
      have c6b1 := bne_eq_false_iff_eq.mpr c6
      clear c6
      have HZ_ := A_ H
      clear H
      try simp only [c6b0, c6b1, Bool.not_true, Bool.not_false]
      have p137 : 0 ≤ (x5_1 : Int) := of_decide_eq_true (by assumption)
      have q137 : x5_1 < (l0.length : Int) := of_decide_eq_true (by assumption)
      obtain ⟨ad137, e137, hx137_0, hx137_1, hx137_2, hx137_3, hx137_4, hx137_5⟩ := at_T45 HR0.out x5_1 p137 q137
      obtain rfl : ad135 = ad137 := (by injection e137)
      replace hx137_0 := cel HB.out hx137_0
      replace hx137_1 := cel HB.out hx137_1
      replace hx137_2 := cel HB.out hx137_2
      replace hx137_3 := cel HB.out hx137_3
      replace hx137_4 := cel HB.out hx137_4
      replace hx137_5 := cel HB.out hx137_5
      replace p137 := eq_true p137
      replace q137 := eq_true q137
      have H := HZ_.out
      clear HZ_
      by_cases c7 : ((rd_T45 l0 x5_1).f1) = (IntKind.i8.wrap (wrap64 (x1_1 + 1)))
      ·
       rw [if_pos c7] at H
       have c7b0 := beq_iff_eq.mpr c7
       have c7b1 := bne_eq_false_iff_eq.mpr c7
       clear c7
       replace H := Option.bind_eq_some_iff.mp H
       obtain ⟨t139, A80, H⟩ := H
       try dsimp only at H
       have A8 := A_ A80
       clear A80
       have HZ_ := A_ H
       clear H
       try simp only [c7b0, c7b1, Bool.not_true, Bool.not_false]
       try go_wp2
       have _ := A_ (below_drew1 HB.out)
       clear HB
       rename_i HB
       have p138 : 0 ≤ (x5_1 : Int) := of_decide_eq_true (by assumption)
       have q138 : x5_1 < (l0.length : Int) := of_decide_eq_true (by assumption)
       obtain ⟨ad138, e138, hx138_0, hx138_1, hx138_2, hx138_3, hx138_4, hx138_5⟩ := at_T45 HR0.out x5_1 p138 q138
       have hw138_5 := hx138_5
       have hw138_4 := hx138_4
       have hw138_3 := hx138_3
       have hw138_2 := hx138_2
       have hw138_1 := hx138_1
       have hw138_0 := hx138_0
       obtain rfl : ad135 = ad138 := (by injection e138)
       replace hx138_0 := cel HB.out hx138_0
       replace hx138_1 := cel HB.out hx138_1
       replace hx138_2 := cel HB.out hx138_2
       replace hx138_3 := cel HB.out hx138_3
       replace hx138_4 := cel HB.out hx138_4
       replace hx138_5 := cel HB.out hx138_5
       replace p138 := eq_true p138
       replace q138 := eq_true q138
       refine start_ (n := 8) (S := fun w' => w'.cell? (ad135.add ((x5_1).toNat * 6)) = some (.string ((rd_T45 l0 x5_1).f0)) ∧ w'.cell? ⟨(ad135.add ((x5_1).toNat * 6)).block, (ad135.add ((x5_1).toNat * 6)).off + 1, none⟩ = some (.int .i8 ((rd_T45 l0 x5_1).f1)) ∧ w'.cell? ⟨(ad135.add ((x5_1).toNat * 6)).block, (ad135.add ((x5_1).toNat * 6)).off + 2, none⟩ = some (.string ((rd_T45 l0 x5_1).f2)) ∧ w'.cell? ⟨(ad135.add ((x5_1).toNat * 6)).block, (ad135.add ((x5_1).toNat * 6)).off + 3, none⟩ = some (.string ((rd_T45 l0 x5_1).f3)) ∧ w'.cell? ⟨(ad135.add ((x5_1).toNat * 6)).block, (ad135.add ((x5_1).toNat * 6)).off + 4, none⟩ = some (.int .i64 ((rd_T45 l0 x5_1).f4)) ∧ w'.cell? ⟨(ad135.add ((x5_1).toNat * 6)).block, (ad135.add ((x5_1).toNat * 6)).off + 5, none⟩ = some (.int .i64 ((rd_T45 l0 x5_1).f5))) (ds := []) #[false, false, false, false, false, false, false, false] (by kernel_rfl) rfl rfl ⟨(cel HB.out hw138_0), (cel HB.out hw138_1), (cel HB.out hw138_2), (cel HB.out hw138_3), (cel HB.out hw138_4), (cel HB.out hw138_5)⟩ (fun hHeld => ?_); refine with_tabW laws_heldLineS.tab10 laws_heldLineS.bits10 (fun HT_ HW_ => ?_)
       generalize w15.drew = w16 at HB hx138_0 hx138_1 hx138_2 hx138_3 hx138_4 hx138_5 hHeld ⊢
       refine pure_ (i := 0) (N := some 32) (v := ?_) (a' := ?_) #[true, false, false, false, false, false, false, false] rfl rfl (any_of HT_.out (by kernel_rfl)) (fun _ _ _ h => h) (Or.inl ⟨by rfl, ?_⟩) ?_ ?_
       rotate_left
       ·
        intro w'
        go_simp
        with_reducible rfl
       rotate_left
       ·
        simp only [Act.put, sA_, sB_, sC_, i64_w, i32_w]
        rfl
       refine pure_ (i := 1) (N := some 33) (v := ?_) (a' := ?_) #[true, true, false, false, false, false, false, false] rfl rfl (any_of HT_.out (by kernel_rfl)) (fun _ _ _ h => h) (Or.inl ⟨by rfl, ?_⟩) ?_ ?_
       rotate_left
       ·
        intro w'
        go_simp
        with_reducible rfl
       rotate_left
       ·
        simp only [Act.put, sA_, sB_, sC_, i64_w, i32_w]
        rfl
       refine pure_ (i := 2) (N := some 34) (v := ?_) (a' := ?_) #[true, true, true, false, false, false, false, false] rfl rfl (any_of HT_.out (by kernel_rfl)) (fun _ _ _ h => h) (Or.inl ⟨by rfl, ?_⟩) ?_ ?_
       rotate_left
       ·
        intro w'
        go_simp
        with_reducible rfl
       rotate_left
       ·
        simp only [Act.put, sA_, sB_, sC_, i64_w, i32_w]
        rfl
       refine pure_ (i := 3) (N := some 35) (v := ?_) (a' := ?_) #[true, true, true, true, false, false, false, false] rfl rfl (any_of HT_.out (by kernel_rfl)) (fun _ _ _ h => h) (Or.inl ⟨by rfl, ?_⟩) ?_ ?_
       rotate_left
       ·
        intro w'
        go_simp
        with_reducible rfl
       rotate_left
       ·
        simp only [Act.put, sA_, sB_, sC_, i64_w, i32_w]
        rfl
       refine pure_ (i := 5) (N := some 37) (v := ?_) (a' := ?_) #[true, true, true, true, false, true, false, false] rfl rfl (any_of HT_.out (by kernel_rfl)) (fun _ _ _ h => h) (Or.inl ⟨by rfl, ?_⟩) ?_ ?_
       rotate_left
       ·
        intro w'
        go_simp
        with_reducible rfl
       rotate_left
       ·
        simp only [Act.put, sA_, sB_, sC_, i64_w, i32_w]
        rfl
       refine take_ (i := 4) (N := some 36) (v := ?_) (a' := ?_) #[true, true, true, true, true, true, false, false] rfl rfl (take_ofW HT_.out HW_.out (by kernel_rfl)) (fun _ _ _ h => h) (Or.inl ⟨by rfl, ?_⟩) hHeld ?_ ?_
       rotate_left
       ·
        rintro w' ⟨s0, s1, s2, s3, s4, s5⟩
        go_simp
        with_reducible rfl
       rotate_left
       ·
        simp only [Act.put, sA_, sB_, sC_, i64_w, i32_w]
        rfl
       refine one_ (i := 6) (N := some 38) #[true, true, true, true, true, true, true, false] rfl rfl (one_of HT_.out (by kernel_rfl)) (by decide) (fun K hK => ?_)
       refine goes_ Try.func76 (by kernel_rfl) rfl #[.int .i64 (wrap64 ((wrap64 (x1_1 + 1)) + 1))] (by rfl) rfl rfl z2_2_ ?_
       with_reducible refine (laws_markText.calls k1 (wrap64 ((wrap64 (x1_1 + 1)) + 1)) t139 _ A8.out).mono ?_
       rintro e w17 ⟨rfl, hb⟩
       refine ⟨_, rfl, ?_⟩
       have _ := A_ (below_step z2_1_ hb)
       clear HB
       rename_i HB
       (try clear hb)
       (try clear hb2)
       (try clear hk)
       (try clear hi)
       refine hK.out _ _ ⟨(cel HB.out hw138_0), (cel HB.out hw138_1), (cel HB.out hw138_2), (cel HB.out hw138_3), (cel HB.out hw138_4), (cel HB.out hw138_5)⟩ (fun hHeld => ?_)
       clear hK K
       refine norm_ (a' := ?_) ?_ ?_
       rotate_left
       ·
        show Act.put _ (some 38) _ = _
        simp only [Act.put, sA_, sB_, sC_, i64_w, i32_w]
        rfl
       refine pure_ (i := 7) (N := some 39) (v := ?_) (a' := ?_) #[true, true, true, true, true, true, true, true] rfl rfl (any_of HT_.out (by kernel_rfl)) (fun _ _ _ h => h) (Or.inl ⟨by rfl, ?_⟩) ?_ ?_
       rotate_left
       ·
        intro w'
        go_simp
        with_reducible rfl
       rotate_left
       ·
        simp only [Act.put, sA_, sB_, sC_, i64_w, i32_w]
        rfl
       refine done_ (done_of HT_.out (by kernel_rfl)) ?_
       have H := HZ_.out
       clear HZ_
       by_cases c9 : ((rd_T45 l0 x5_1).f2).toList = t139.toList
       ·
        rw [if_pos c9] at H
        have c9b0 := beq_iff_eq.mpr c9
        have c9b1 := bne_eq_false_iff_eq.mpr c9
        clear c9
        replace H := Option.bind_eq_some_iff.mp H
        obtain ⟨t141, A100, H⟩ := H
        try dsimp only at H
        have A10 := A_ A100
        clear A100
        have HZ_ := A_ H
        clear H
        try simp only [c9b0, c9b1, Bool.not_true, Bool.not_false]
        try go_wp2
        have _ := A_ (below_drew1 HB.out)
        clear HB
        rename_i HB
        have p140 : 0 ≤ (x5_1 : Int) := of_decide_eq_true (by assumption)
        have q140 : x5_1 < (l0.length : Int) := of_decide_eq_true (by assumption)
        obtain ⟨ad140, e140, hx140_0, hx140_1, hx140_2, hx140_3, hx140_4, hx140_5⟩ := at_T45 HR0.out x5_1 p140 q140
        have hw140_5 := hx140_5
        have hw140_4 := hx140_4
        have hw140_3 := hx140_3
        have hw140_2 := hx140_2
        have hw140_1 := hx140_1
        have hw140_0 := hx140_0
        obtain rfl : ad135 = ad140 := (by injection e140)
        replace hx140_0 := cel HB.out hx140_0
        replace hx140_1 := cel HB.out hx140_1
        replace hx140_2 := cel HB.out hx140_2
        replace hx140_3 := cel HB.out hx140_3
        replace hx140_4 := cel HB.out hx140_4
        replace hx140_5 := cel HB.out hx140_5
        replace p140 := eq_true p140
        replace q140 := eq_true q140
        refine start_ (n := 8) (S := fun w' => w'.cell? (ad135.add ((x5_1).toNat * 6)) = some (.string ((rd_T45 l0 x5_1).f0)) ∧ w'.cell? ⟨(ad135.add ((x5_1).toNat * 6)).block, (ad135.add ((x5_1).toNat * 6)).off + 1, none⟩ = some (.int .i8 ((rd_T45 l0 x5_1).f1)) ∧ w'.cell? ⟨(ad135.add ((x5_1).toNat * 6)).block, (ad135.add ((x5_1).toNat * 6)).off + 2, none⟩ = some (.string ((rd_T45 l0 x5_1).f2)) ∧ w'.cell? ⟨(ad135.add ((x5_1).toNat * 6)).block, (ad135.add ((x5_1).toNat * 6)).off + 3, none⟩ = some (.string ((rd_T45 l0 x5_1).f3)) ∧ w'.cell? ⟨(ad135.add ((x5_1).toNat * 6)).block, (ad135.add ((x5_1).toNat * 6)).off + 4, none⟩ = some (.int .i64 ((rd_T45 l0 x5_1).f4)) ∧ w'.cell? ⟨(ad135.add ((x5_1).toNat * 6)).block, (ad135.add ((x5_1).toNat * 6)).off + 5, none⟩ = some (.int .i64 ((rd_T45 l0 x5_1).f5))) (ds := []) #[false, false, false, false, false, false, false, false] (by kernel_rfl) rfl rfl ⟨(cel HB.out hw140_0), (cel HB.out hw140_1), (cel HB.out hw140_2), (cel HB.out hw140_3), (cel HB.out hw140_4), (cel HB.out hw140_5)⟩ (fun hHeld => ?_); refine with_tabW laws_heldLineS.tab13 laws_heldLineS.bits13 (fun HT_ HW_ => ?_)
        generalize w17.drew = w18 at HB hx140_0 hx140_1 hx140_2 hx140_3 hx140_4 hx140_5 hHeld ⊢
        refine pure_ (i := 0) (N := some 42) (v := ?_) (a' := ?_) #[true, false, false, false, false, false, false, false] rfl rfl (any_of HT_.out (by kernel_rfl)) (fun _ _ _ h => h) (Or.inl ⟨by rfl, ?_⟩) ?_ ?_
        rotate_left
        ·
         intro w'
         go_simp
         with_reducible rfl
        rotate_left
        ·
         simp only [Act.put, sA_, sB_, sC_, i64_w, i32_w]
         rfl
        refine pure_ (i := 1) (N := some 43) (v := ?_) (a' := ?_) #[true, true, false, false, false, false, false, false] rfl rfl (any_of HT_.out (by kernel_rfl)) (fun _ _ _ h => h) (Or.inl ⟨by rfl, ?_⟩) ?_ ?_
        rotate_left
        ·
         intro w'
         go_simp
         with_reducible rfl
        rotate_left
        ·
         simp only [Act.put, sA_, sB_, sC_, i64_w, i32_w]
         rfl
        refine pure_ (i := 2) (N := some 44) (v := ?_) (a' := ?_) #[true, true, true, false, false, false, false, false] rfl rfl (any_of HT_.out (by kernel_rfl)) (fun _ _ _ h => h) (Or.inl ⟨by rfl, ?_⟩) ?_ ?_
        rotate_left
        ·
         intro w'
         go_simp
         with_reducible rfl
        rotate_left
        ·
         simp only [Act.put, sA_, sB_, sC_, i64_w, i32_w]
         rfl
        refine pure_ (i := 3) (N := some 45) (v := ?_) (a' := ?_) #[true, true, true, true, false, false, false, false] rfl rfl (any_of HT_.out (by kernel_rfl)) (fun _ _ _ h => h) (Or.inl ⟨by rfl, ?_⟩) ?_ ?_
        rotate_left
        ·
         intro w'
         go_simp
         with_reducible rfl
        rotate_left
        ·
         simp only [Act.put, sA_, sB_, sC_, i64_w, i32_w]
         rfl
        refine pure_ (i := 5) (N := some 47) (v := ?_) (a' := ?_) #[true, true, true, true, false, true, false, false] rfl rfl (any_of HT_.out (by kernel_rfl)) (fun _ _ _ h => h) (Or.inl ⟨by rfl, ?_⟩) ?_ ?_
        rotate_left
        ·
         intro w'
         go_simp
         with_reducible rfl
        rotate_left
        ·
         simp only [Act.put, sA_, sB_, sC_, i64_w, i32_w]
         rfl
        refine take_ (i := 4) (N := some 46) (v := ?_) (a' := ?_) #[true, true, true, true, true, true, false, false] rfl rfl (take_ofW HT_.out HW_.out (by kernel_rfl)) (fun _ _ _ h => h) (Or.inl ⟨by rfl, ?_⟩) hHeld ?_ ?_
        rotate_left
        ·
         rintro w' ⟨s0, s1, s2, s3, s4, s5⟩
         go_simp
         with_reducible rfl
        rotate_left
        ·
         simp only [Act.put, sA_, sB_, sC_, i64_w, i32_w]
         rfl
        refine one_ (i := 6) (N := some 48) #[true, true, true, true, true, true, true, false] rfl rfl (one_of HT_.out (by kernel_rfl)) (by decide) (fun K hK => ?_)
        refine goes_ Try.func76 (by kernel_rfl) rfl #[.int .i64 (wrap64 ((wrap64 ((wrap64 (x1_1 + 1)) + 1)) + 1))] (by rfl) rfl rfl z2_2_ ?_
        with_reducible refine (laws_markText.calls k1 (wrap64 ((wrap64 ((wrap64 (x1_1 + 1)) + 1)) + 1)) t141 _ A10.out).mono ?_
        rintro e w19 ⟨rfl, hb⟩
        refine ⟨_, rfl, ?_⟩
        have _ := A_ (below_step z2_1_ hb)
        clear HB
        rename_i HB
        (try clear hb)
        (try clear hb2)
        (try clear hk)
        (try clear hi)
        refine hK.out _ _ ⟨(cel HB.out hw140_0), (cel HB.out hw140_1), (cel HB.out hw140_2), (cel HB.out hw140_3), (cel HB.out hw140_4), (cel HB.out hw140_5)⟩ (fun hHeld => ?_)
        clear hK K
        refine norm_ (a' := ?_) ?_ ?_
        rotate_left
        ·
         show Act.put _ (some 48) _ = _
         simp only [Act.put, sA_, sB_, sC_, i64_w, i32_w]
         rfl
        refine pure_ (i := 7) (N := some 49) (v := ?_) (a' := ?_) #[true, true, true, true, true, true, true, true] rfl rfl (any_of HT_.out (by kernel_rfl)) (fun _ _ _ h => h) (Or.inl ⟨by rfl, ?_⟩) ?_ ?_
        rotate_left
        ·
         intro w'
         go_simp
         with_reducible rfl
        rotate_left
        ·
         simp only [Act.put, sA_, sB_, sC_, i64_w, i32_w]
         rfl
        refine done_ (done_of HT_.out (by kernel_rfl)) ?_
        have H := HZ_.out
        clear HZ_
        by_cases c11 : ((rd_T45 l0 x5_1).f3).toList = t141.toList
        ·
         rw [if_pos c11] at H
         have c11b0 := beq_iff_eq.mpr c11
         have c11b1 := bne_eq_false_iff_eq.mpr c11
         clear c11
         have HZ_ := A_ H
         clear H
         try simp only [c11b0, c11b1, Bool.not_true, Bool.not_false]
         have p142 : 0 ≤ (x5_1 : Int) := of_decide_eq_true (by assumption)
         have q142 : x5_1 < (l0.length : Int) := of_decide_eq_true (by assumption)
         obtain ⟨ad142, e142, hx142_0, hx142_1, hx142_2, hx142_3, hx142_4, hx142_5⟩ := at_T45 HR0.out x5_1 p142 q142
         obtain rfl : ad135 = ad142 := (by injection e142)
         replace hx142_0 := cel HB.out hx142_0
         replace hx142_1 := cel HB.out hx142_1
         replace hx142_2 := cel HB.out hx142_2
         replace hx142_3 := cel HB.out hx142_3
         replace hx142_4 := cel HB.out hx142_4
         replace hx142_5 := cel HB.out hx142_5
         replace p142 := eq_true p142
         replace q142 := eq_true q142
         have H := HZ_.out
         clear HZ_
         by_cases c12 : ((rd_T45 l0 x5_1).f4) = (wrap64 ((wrap64 ((wrap64 ((wrap64 (x1_1 + 1)) + 1)) + 1)) + 1))
         ·
          rw [if_pos c12] at H
          have c12b0 := beq_iff_eq.mpr c12
          have c12b1 := bne_eq_false_iff_eq.mpr c12
          clear c12
          have HZ_ := A_ H
          clear H
          try simp only [c12b0, c12b1, Bool.not_true, Bool.not_false]
          have p143 : 0 ≤ (x5_1 : Int) := of_decide_eq_true (by assumption)
          have q143 : x5_1 < (l0.length : Int) := of_decide_eq_true (by assumption)
          obtain ⟨ad143, e143, hx143_0, hx143_1, hx143_2, hx143_3, hx143_4, hx143_5⟩ := at_T45 HR0.out x5_1 p143 q143
          obtain rfl : ad135 = ad143 := (by injection e143)
          replace hx143_0 := cel HB.out hx143_0
          replace hx143_1 := cel HB.out hx143_1
          replace hx143_2 := cel HB.out hx143_2
          replace hx143_3 := cel HB.out hx143_3
          replace hx143_4 := cel HB.out hx143_4
          replace hx143_5 := cel HB.out hx143_5
          replace p143 := eq_true p143
          replace q143 := eq_true q143
          have H := HZ_.out
          clear HZ_
          by_cases c13 : ((rd_T45 l0 x5_1).f5) = (wrap64 ((wrap64 ((wrap64 ((wrap64 ((wrap64 (x1_1 + 1)) + 1)) + 1)) + 1)) + 1))
          ·
           rw [if_pos c13] at H
           have c13b0 := beq_iff_eq.mpr c13
           have c13b1 := bne_eq_false_iff_eq.mpr c13
           clear c13
           have H' := A_ H
           clear H
           try go_wp2
           go_roundg k1
           case measure => have := HK1.out; omega
           case rel => exact ⟨(wrap64 ((wrap64 ((wrap64 ((wrap64 ((wrap64 ((wrap64 (x1_1 + 1)) + 1)) + 1)) + 1)) + 1)) + 1)), (wrap64 (x5_1 + 1)), z2_3_, z2_3_, H', ⟨(by have := HK1.out; omega)⟩, ⟨z2_1_⟩⟩
          ·
           rw [if_neg c13] at H
           have c13b0 : (((rd_T45 l0 x5_1).f5) == (wrap64 ((wrap64 ((wrap64 ((wrap64 ((wrap64 (x1_1 + 1)) + 1)) + 1)) + 1)) + 1))) = false := beq_eq_false_iff_ne.mpr c13
           have c13b1 : (((rd_T45 l0 x5_1).f5) != (wrap64 ((wrap64 ((wrap64 ((wrap64 ((wrap64 (x1_1 + 1)) + 1)) + 1)) + 1)) + 1))) = true := bne_iff_ne.mpr c13
           obtain rfl := Option.some.inj H
           try go_wp2
           go_ret
           exact ⟨z2_5_, z2_1_⟩
         ·
          rw [if_neg c12] at H
          have c12b0 : (((rd_T45 l0 x5_1).f4) == (wrap64 ((wrap64 ((wrap64 ((wrap64 (x1_1 + 1)) + 1)) + 1)) + 1))) = false := beq_eq_false_iff_ne.mpr c12
          have c12b1 : (((rd_T45 l0 x5_1).f4) != (wrap64 ((wrap64 ((wrap64 ((wrap64 (x1_1 + 1)) + 1)) + 1)) + 1))) = true := bne_iff_ne.mpr c12
          obtain rfl := Option.some.inj H
          try simp only [c12b0, c12b1, Bool.not_true, Bool.not_false]
          try go_wp2
          go_ret
          exact ⟨z2_5_, z2_1_⟩
        ·
         rw [if_neg c11] at H
         have c11b0 : (((rd_T45 l0 x5_1).f3).toList == t141.toList) = false := beq_eq_false_iff_ne.mpr c11
         have c11b1 : (((rd_T45 l0 x5_1).f3).toList != t141.toList) = true := bne_iff_ne.mpr c11
         obtain rfl := Option.some.inj H
         try simp only [c11b0, c11b1, Bool.not_true, Bool.not_false]
         try go_wp2
         go_ret
         exact ⟨z2_5_, z2_1_⟩
       ·
        rw [if_neg c9] at H
        have c9b0 : (((rd_T45 l0 x5_1).f2).toList == t139.toList) = false := beq_eq_false_iff_ne.mpr c9
        have c9b1 : (((rd_T45 l0 x5_1).f2).toList != t139.toList) = true := bne_iff_ne.mpr c9
        obtain rfl := Option.some.inj H
        try simp only [c9b0, c9b1, Bool.not_true, Bool.not_false]
        try go_wp2
        go_ret
        exact ⟨z2_5_, z2_1_⟩
      ·
       rw [if_neg c7] at H
       have c7b0 : (((rd_T45 l0 x5_1).f1) == (IntKind.i8.wrap (wrap64 (x1_1 + 1)))) = false := beq_eq_false_iff_ne.mpr c7
       have c7b1 : (((rd_T45 l0 x5_1).f1) != (IntKind.i8.wrap (wrap64 (x1_1 + 1)))) = true := bne_iff_ne.mpr c7
       obtain rfl := Option.some.inj H
       try simp only [c7b0, c7b1, Bool.not_true, Bool.not_false]
       try go_wp2
       go_ret
       exact ⟨z2_5_, z2_1_⟩
     ·
      rw [if_neg c6] at H
      have c6b0 : (((rd_T45 l0 x5_1).f0).toList == t136.toList) = false := beq_eq_false_iff_ne.mpr c6
      have c6b1 : (((rd_T45 l0 x5_1).f0).toList != t136.toList) = true := bne_iff_ne.mpr c6
      obtain rfl := Option.some.inj H
      try simp only [c6b0, c6b1, Bool.not_true, Bool.not_false]
      try go_wp2
      go_ret
      exact ⟨z2_5_, z2_1_⟩
    ·
     rw [if_neg c4] at H
     exact absurd H (by simp)
   ·
    rw [if_neg c3] at H
    have c3b0 := decide_eq_false c3
    clear c3
    obtain rfl := Option.some.inj H
    go_wp2
    go_ret
    exact ⟨z2_5_, z2_1_⟩
/-! ### laws_szKept: function 96 -/
def laws_szKept.f (a0_0 : ByteArray) (a0_1 : Int) (a0_2 : Bool) (a0_3 : Int) (a0_4 : Int) (a0_5 : Int) (a0_6 : Int) (a0_7 : Int) (a0_8 : Int) (a1 : Int) : Option (Int) := if (wrap64 (a1 - (a0_0.size : Int))) < 0 then (some (-1)) else (some (wrap64 (a1 - (a0_0.size : Int))))
set_option maxHeartbeats 8000000 in
set_option maxRecDepth 100000 in
theorem laws_szKept.calls (a0_0 : ByteArray) (a0_1 : Int) (a0_2 : Bool) (a0_3 : Int) (a0_4 : Int) (a0_5 : Int) (a0_6 : Int) (a0_7 : Int) (a0_8 : Int) (a1 : Int) (r : Int) (w : World) (h : laws_szKept.f a0_0 a0_1 a0_2 a0_3 a0_4 a0_5 a0_6 a0_7 a0_8 a1 = some r) :
  Calls Try.prog 96 #[.agg #[.string a0_0, .int .i64 a0_1, .bool a0_2, .int .u32 a0_3, .int .u32 a0_4, .int .u32 a0_5, .int .u32 a0_6, .int .u32 a0_7, .int .u32 a0_8], .int .i64 a1] w fun e w' => e = .returned (.int .i64 r) ∧ Below w.heap.size w w' := by
 have hu120 := Try.underlying120
 have HB := A_ (Below.refl w.heap.size w)
 have H : (if (wrap64 (a1 - (a0_0.size : Int))) < 0 then (some (-1)) else (some (wrap64 (a1 - (a0_0.size : Int))))) = some r := h
 clear h
 by_cases c3 : (wrap64 (a1 - (a0_0.size : Int))) < 0
 ·
  rw [if_pos c3] at H
  have c3b0 := decide_eq_true c3
  clear c3
  obtain rfl := Option.some.inj H
  go_enter Try.func96, Try.ntmps96
  go_wp2_with (first | ((with_reducible refine gate_dst (N := 2) rfl ?_); refine box_event ?hg (N := 2) ?hd (cs := #[.string a0_0, .int .i64 a0_1, .bool a0_2, .int .u32 a0_3, .int .u32 a0_4, .int .u32 a0_5, .int .u32 a0_6, .int .u32 a0_7, .int .u32 a0_8]) (t := 120) ?hr ?_; (case hd => rfl); (case hg => rfl); (case hr => first | (go_simp; done) | (go_simp; rfl)); intro gb144 hg w4 hbox hb; have _ := A_ (below_step z2_1_ hb); have _ := A_ (hbox); have _ := A_ ((by rw [hg]; exact (below_size z2_1_) : w.heap.size ≤ gb144)); have _ := A_ ((by rw [hg]; exact (below_size z2_1_) : w.heap.size ≤ gb144)); clear HB; rename_i HB BK144 GW144 GE144; clear hb hbox hg; obtain ⟨hcz5_0, hcz5_1, hcz5_2, hcz5_3, hcz5_4, hcz5_5, hcz5_6, hcz5_7, hcz5_8⟩ := bc9 BK144.out; obtain ⟨hfz5_0, hfz5_1, hfz5_2, hfz5_3, hfz5_4, hfz5_5, hfz5_6, hfz5_7, hfz5_8⟩ := bf9 BK144.out))
  go_ret
  exact ⟨z2_5_, z2_9_⟩
 ·
  rw [if_neg c3] at H
  have c3b0 := decide_eq_false c3
  clear c3
  obtain rfl := Option.some.inj H
  go_enter Try.func96, Try.ntmps96
  go_wp2_with (first | ((with_reducible refine gate_dst (N := 2) rfl ?_); refine box_event ?hg (N := 2) ?hd (cs := #[.string a0_0, .int .i64 a0_1, .bool a0_2, .int .u32 a0_3, .int .u32 a0_4, .int .u32 a0_5, .int .u32 a0_6, .int .u32 a0_7, .int .u32 a0_8]) (t := 120) ?hr ?_; (case hd => rfl); (case hg => rfl); (case hr => first | (go_simp; done) | (go_simp; rfl)); intro gb144 hg w6 hbox hb; have _ := A_ (below_step z2_1_ hb); have _ := A_ (hbox); have _ := A_ ((by rw [hg]; exact (below_size z2_1_) : w.heap.size ≤ gb144)); have _ := A_ ((by rw [hg]; exact (below_size z2_1_) : w.heap.size ≤ gb144)); clear HB; rename_i HB BK144 GW144 GE144; clear hb hbox hg; obtain ⟨hcz7_0, hcz7_1, hcz7_2, hcz7_3, hcz7_4, hcz7_5, hcz7_6, hcz7_7, hcz7_8⟩ := bc9 BK144.out; obtain ⟨hfz7_0, hfz7_1, hfz7_2, hfz7_3, hfz7_4, hfz7_5, hfz7_6, hfz7_7, hfz7_8⟩ := bf9 BK144.out))
  go_ret
  exact ⟨z2_5_, z2_9_⟩
/-! ### laws_szKeptS: function 55 -/
def laws_szKeptS.l0 : Nat → List (S120) → Int → Int → Option (Int)
 | 0, _, _, _ => none
 | k + 1, x0, x1, x5 => if x5 < (x0.length : Int) then (if 0 ≤ x5 then ((laws_szKept.f ((rd_T120 x0 x5).f0) ((rd_T120 x0 x5).f1) ((rd_T120 x0 x5).f2.f0) ((rd_T120 x0 x5).f2.f1.f0) ((rd_T120 x0 x5).f2.f1.f1) ((rd_T120 x0 x5).f2.f1.f2) ((rd_T120 x0 x5).f2.f1.f3) ((rd_T120 x0 x5).f2.f1.f4) ((rd_T120 x0 x5).f2.f1.f5) x1).bind fun t146 => (if t146 < 0 then (some (-1)) else (laws_szKeptS.l0 k x0 t146 (wrap64 (x5 + 1))))) else (none)) else (some x1)
def laws_szKeptS.f (k : Nat) (l0 : List (S120)) (a1 : Int) : Option (Int) := if (wrap64 (a1 - (l0.length : Int))) < 0 then (some (-1)) else (laws_szKeptS.l0 k l0 (wrap64 (a1 - (l0.length : Int))) 0)
theorem laws_szKeptS.mono_l : ∀ k, (∀ y0 y1 y2, LeO (laws_szKeptS.l0 k y0 y1 y2) (laws_szKeptS.l0 (k + 1) y0 y1 y2))
 | 0 => fun _ _ _ r h => by simp [laws_szKeptS.l0] at h
 | k + 1 => by
  have ih0 := laws_szKeptS.mono_l k
  ·
   intro y0 y1 y2
   unfold laws_szKeptS.l0
   repeat' first
   | (with_reducible exact ih0 _ _ _)
   | (with_reducible exact LeO.refl _)
   | (with_reducible exact LeO.none _)
   | (with_reducible refine LeO.ite ?_ ?_)
   | (with_reducible refine LeO.bind ?_ (fun _ => ?_))
   | exact ih0 _ _ _
   | exact LeO.none _
   | refine LeO.ite ?_ ?_
   | refine LeO.bind ?_ (fun _ => ?_)
theorem laws_szKeptS.mono : ∀ a0 a1 k, LeO (laws_szKeptS.f k a0 a1) (laws_szKeptS.f (k + 1) a0 a1) := by
 intro a0 a1 k
 have ih0 := laws_szKeptS.mono_l k
 unfold laws_szKeptS.f
 repeat' first
   | (with_reducible exact ih0 _ _ _)
   | (with_reducible exact LeO.refl _)
   | (with_reducible exact LeO.none _)
   | (with_reducible refine LeO.ite ?_ ?_)
   | (with_reducible refine LeO.bind ?_ (fun _ => ?_))
   | exact ih0 _ _ _
   | exact LeO.none _
   | refine LeO.ite ?_ ?_
   | refine LeO.bind ?_ (fun _ => ?_)
set_option maxHeartbeats 8000000 in
set_option maxRecDepth 100000 in
theorem laws_szKeptS.calls (k : Nat) (A0 : Option Addr) (c0 : Nat) (l0 : List (S120)) (a1 : Int) (r : Int) (w : World) (hr0 : Kd.C k120 w A0 l0.length l0) (hc0 : l0.length ≤ c0) (h : laws_szKeptS.f k l0 a1 = some r) :
  Calls Try.prog 55 #[.slice A0 l0.length c0, .int .i64 a1] w fun e w' => e = .returned (.int .i64 r) ∧ Below w.heap.size w w' := by
 have hu120 := Try.underlying120
 have HR0 := A_ hr0
 have HC0 := A_ hc0
 clear hr0 hc0
 have HB := A_ (Below.refl w.heap.size w)
 have H : (if (wrap64 (a1 - (l0.length : Int))) < 0 then (some (-1)) else (laws_szKeptS.l0 k l0 (wrap64 (a1 - (l0.length : Int))) 0)) = some r := h
 clear h
 by_cases c3 : (wrap64 (a1 - (l0.length : Int))) < 0
 ·
  rw [if_pos c3] at H
  have c3b0 := decide_eq_true c3
  clear c3
  obtain rfl := Option.some.inj H
  go_enter Try.func55, Try.ntmps55
  go_wp2
  go_ret
  exact ⟨z2_5_, z2_1_⟩
 ·
  rw [if_neg c3] at H
  have c3b0 := decide_eq_false c3
  clear c3
  have H' := A_ H
  clear H
  go_enter Try.func55, Try.ntmps55
  go_wp2
  go_loopg [1, 5] k (fun kq v1 v5 w' => ∃ (x1_1 : Int) (x5_1 : Int), v1 = .int .i64 x1_1 ∧ v5 = .int .i64 x5_1 ∧ Aside0 (laws_szKeptS.l0 kq l0 x1_1 x5_1 = some r) ∧ Aside0 (kq ≤ k) ∧ Aside0 (Below w.heap.size w w'))
  case atStart => exact ⟨(wrap64 (a1 - (l0.length : Int))), (0), z2_3_, z2_3_, H', ⟨Nat.le_refl _⟩, ⟨z2_1_⟩⟩
  case round =>
   clear H'
   try clear p2
   try clear c3
   try clear c3b0
   obtain ⟨x1_1, x5_1, rfl, rfl, HA, HK1, HB⟩ := hrel
   cases gk with
   | zero => exact absurd HA.out (by simp [laws_szKeptS.l0])
   | succ k1 =>
    have H := HA.out
    clear HA
    simp only [laws_szKeptS.l0] at H
    by_cases c4 : x5_1 < (l0.length : Int)
    ·
     rw [if_pos c4] at H
     have c4b0 := decide_eq_true c4
     clear c4
     by_cases c5 : 0 ≤ x5_1
     ·
      rw [if_pos c5] at H
      have c5b0 := decide_eq_true c5
      clear c5
      replace H := Option.bind_eq_some_iff.mp H
      obtain ⟨t146, A60, H⟩ := H
      try dsimp only at H
      have A6 := A_ A60
      clear A60
      by_cases c7 : t146 < 0
      ·
       rw [if_pos c7] at H
       have c7b0 := decide_eq_true c7
       clear c7
       obtain rfl := Option.some.inj H
       have p145 : 0 ≤ (x5_1 : Int) := of_decide_eq_true (by assumption)
       have q145 : x5_1 < (l0.length : Int) := of_decide_eq_true (by assumption)
       obtain ⟨ad145, e145, hx145_0, hx145_1, hx145_2, hx145_3, hx145_4, hx145_5, hx145_6, hx145_7, hx145_8⟩ := at_T120 HR0.out x5_1 p145 q145
       cases e145
       replace hx145_0 := cel HB.out hx145_0
       replace hx145_1 := cel HB.out hx145_1
       replace hx145_2 := cel HB.out hx145_2
       replace hx145_3 := cel HB.out hx145_3
       replace hx145_4 := cel HB.out hx145_4
       replace hx145_5 := cel HB.out hx145_5
       replace hx145_6 := cel HB.out hx145_6
       replace hx145_7 := cel HB.out hx145_7
       replace hx145_8 := cel HB.out hx145_8
       replace p145 := eq_true p145
       replace q145 := eq_true q145
       go_wp2_with (first | ((with_reducible refine gate_callee (f := 96) rfl ?_); refine goesL_ (some 23) rfl rfl Try.func96 (by kernel_rfl) rfl #[.agg #[.string ((rd_T120 l0 x5_1).f0), .int .i64 ((rd_T120 l0 x5_1).f1), .bool ((rd_T120 l0 x5_1).f2.f0), .int .u32 ((rd_T120 l0 x5_1).f2.f1.f0), .int .u32 ((rd_T120 l0 x5_1).f2.f1.f1), .int .u32 ((rd_T120 l0 x5_1).f2.f1.f2), .int .u32 ((rd_T120 l0 x5_1).f2.f1.f3), .int .u32 ((rd_T120 l0 x5_1).f2.f1.f4), .int .u32 ((rd_T120 l0 x5_1).f2.f1.f5)], .int .i64 x1_1] rfl z2_2_ ?_; (with_reducible refine (laws_szKept.calls ((rd_T120 l0 x5_1).f0) ((rd_T120 l0 x5_1).f1) ((rd_T120 l0 x5_1).f2.f0) ((rd_T120 l0 x5_1).f2.f1.f0) ((rd_T120 l0 x5_1).f2.f1.f1) ((rd_T120 l0 x5_1).f2.f1.f2) ((rd_T120 l0 x5_1).f2.f1.f3) ((rd_T120 l0 x5_1).f2.f1.f4) ((rd_T120 l0 x5_1).f2.f1.f5) x1_1 t146 _ A6.out).mono ?_); rintro e w8 ⟨rfl, hb⟩; refine ⟨_, rfl, ?_⟩; have _ := A_ (below_step z2_1_ hb); clear HB; rename_i HB; (try clear hb)))
       go_ret
       exact ⟨z2_5_, z2_1_⟩
      ·
       rw [if_neg c7] at H
       have c7b0 := decide_eq_false c7
       clear c7
       have H' := A_ H
       clear H
       have p145 : 0 ≤ (x5_1 : Int) := of_decide_eq_true (by assumption)
       have q145 : x5_1 < (l0.length : Int) := of_decide_eq_true (by assumption)
       obtain ⟨ad145, e145, hx145_0, hx145_1, hx145_2, hx145_3, hx145_4, hx145_5, hx145_6, hx145_7, hx145_8⟩ := at_T120 HR0.out x5_1 p145 q145
       cases e145
       replace hx145_0 := cel HB.out hx145_0
       replace hx145_1 := cel HB.out hx145_1
       replace hx145_2 := cel HB.out hx145_2
       replace hx145_3 := cel HB.out hx145_3
       replace hx145_4 := cel HB.out hx145_4
       replace hx145_5 := cel HB.out hx145_5
       replace hx145_6 := cel HB.out hx145_6
       replace hx145_7 := cel HB.out hx145_7
       replace hx145_8 := cel HB.out hx145_8
       replace p145 := eq_true p145
       replace q145 := eq_true q145
       go_wp2_with (first | ((with_reducible refine gate_callee (f := 96) rfl ?_); refine goesL_ (some 23) rfl rfl Try.func96 (by kernel_rfl) rfl #[.agg #[.string ((rd_T120 l0 x5_1).f0), .int .i64 ((rd_T120 l0 x5_1).f1), .bool ((rd_T120 l0 x5_1).f2.f0), .int .u32 ((rd_T120 l0 x5_1).f2.f1.f0), .int .u32 ((rd_T120 l0 x5_1).f2.f1.f1), .int .u32 ((rd_T120 l0 x5_1).f2.f1.f2), .int .u32 ((rd_T120 l0 x5_1).f2.f1.f3), .int .u32 ((rd_T120 l0 x5_1).f2.f1.f4), .int .u32 ((rd_T120 l0 x5_1).f2.f1.f5)], .int .i64 x1_1] rfl z2_2_ ?_; (with_reducible refine (laws_szKept.calls ((rd_T120 l0 x5_1).f0) ((rd_T120 l0 x5_1).f1) ((rd_T120 l0 x5_1).f2.f0) ((rd_T120 l0 x5_1).f2.f1.f0) ((rd_T120 l0 x5_1).f2.f1.f1) ((rd_T120 l0 x5_1).f2.f1.f2) ((rd_T120 l0 x5_1).f2.f1.f3) ((rd_T120 l0 x5_1).f2.f1.f4) ((rd_T120 l0 x5_1).f2.f1.f5) x1_1 t146 _ A6.out).mono ?_); rintro e w9 ⟨rfl, hb⟩; refine ⟨_, rfl, ?_⟩; have _ := A_ (below_step z2_1_ hb); clear HB; rename_i HB; (try clear hb)))
       go_roundg k1
       case measure => have := HK1.out; omega
       case rel => exact ⟨(t146), (wrap64 (x5_1 + 1)), z2_3_, z2_3_, H', ⟨(by have := HK1.out; omega)⟩, ⟨z2_1_⟩⟩
     ·
      rw [if_neg c5] at H
      exact absurd H (by simp)
    ·
     rw [if_neg c4] at H
     have c4b0 := decide_eq_false c4
     clear c4
     obtain rfl := Option.some.inj H
     go_wp2
     go_ret
     exact ⟨z2_5_, z2_1_⟩
/-! ### spec_l02One: function 69 -/
def spec_l02One.f (a0 : Int) : Option (Bool) := if a0 = 6 then (some true) else (if a0 = 7 then (some true) else (some (a0 == 10)))
set_option maxHeartbeats 8000000 in
set_option maxRecDepth 100000 in
theorem spec_l02One.calls (a0 : Int) (r : Bool) (w : World) (h : spec_l02One.f a0 = some r) :
  Calls Try.prog 69 #[.int .i8 a0] w fun e w' => e = .returned (.bool r) ∧ Drawn0 w w' := by
 have H : (if a0 = 6 then (some true) else (if a0 = 7 then (some true) else (some (a0 == 10)))) = some r := h
 clear h
 by_cases c2 : a0 = 6
 ·
  rw [if_pos c2] at H
  have c2b0 := beq_iff_eq.mpr c2
  have c2b1 := bne_eq_false_iff_eq.mpr c2
  clear c2
  obtain rfl := Option.some.inj H
  go_enter Try.func69, Try.ntmps69
  go_wp2
  go_ret
  exact ⟨z2_3_, z2_7_⟩
 ·
  rw [if_neg c2] at H
  have c2b0 : (a0 == 6) = false := beq_eq_false_iff_ne.mpr c2
  have c2b1 : (a0 != 6) = true := bne_iff_ne.mpr c2
  by_cases c3 : a0 = 7
  ·
   rw [if_pos c3] at H
   have c3b0 := beq_iff_eq.mpr c3
   have c3b1 := bne_eq_false_iff_eq.mpr c3
   clear c3
   obtain rfl := Option.some.inj H
   go_enter Try.func69, Try.ntmps69
   go_wp2
   go_ret
   exact ⟨z2_3_, z2_7_⟩
  ·
   rw [if_neg c3] at H
   have c3b0 : (a0 == 7) = false := beq_eq_false_iff_ne.mpr c3
   have c3b1 : (a0 != 7) = true := bne_iff_ne.mpr c3
   obtain rfl := Option.some.inj H
   go_enter Try.func69, Try.ntmps69
   go_wp2
   go_ret
   exact ⟨z2_3_, z2_7_⟩
/-! ### spec_l02Two: function 70 -/
def spec_l02Two.f (a0 : Int) : Option (Bool) := if a0 ≥ 2 then (if a0 ≤ 5 then (some true) else (if a0 = 8 then (some true) else (some (a0 == 9)))) else (if a0 = 8 then (some true) else (some (a0 == 9)))
set_option maxHeartbeats 8000000 in
set_option maxRecDepth 100000 in
theorem spec_l02Two.calls (a0 : Int) (r : Bool) (w : World) (h : spec_l02Two.f a0 = some r) :
  Calls Try.prog 70 #[.int .i8 a0] w fun e w' => e = .returned (.bool r) ∧ Drawn0 w w' := by
 have H : (if a0 ≥ 2 then (if a0 ≤ 5 then (some true) else (if a0 = 8 then (some true) else (some (a0 == 9)))) else (if a0 = 8 then (some true) else (some (a0 == 9)))) = some r := h
 clear h
 by_cases c2 : a0 ≥ 2
 ·
  rw [if_pos c2] at H
  have c2b0 := decide_eq_true c2
  clear c2
  by_cases c3 : a0 ≤ 5
  ·
   rw [if_pos c3] at H
   have c3b0 := decide_eq_true c3
   clear c3
   obtain rfl := Option.some.inj H
   go_enter Try.func70, Try.ntmps70
   go_wp2
   go_ret
   exact ⟨z2_3_, z2_7_⟩
  ·
   rw [if_neg c3] at H
   have c3b0 := decide_eq_false c3
   clear c3
   by_cases c4 : a0 = 8
   ·
    rw [if_pos c4] at H
    have c4b0 := beq_iff_eq.mpr c4
    have c4b1 := bne_eq_false_iff_eq.mpr c4
    clear c4
    obtain rfl := Option.some.inj H
    go_enter Try.func70, Try.ntmps70
    go_wp2
    go_ret
    exact ⟨z2_3_, z2_7_⟩
   ·
    rw [if_neg c4] at H
    have c4b0 : (a0 == 8) = false := beq_eq_false_iff_ne.mpr c4
    have c4b1 : (a0 != 8) = true := bne_iff_ne.mpr c4
    obtain rfl := Option.some.inj H
    go_enter Try.func70, Try.ntmps70
    go_wp2
    go_ret
    exact ⟨z2_3_, z2_7_⟩
 ·
  rw [if_neg c2] at H
  have c2b0 := decide_eq_false c2
  clear c2
  by_cases c5 : a0 = 8
  ·
   rw [if_pos c5] at H
   have c5b0 := beq_iff_eq.mpr c5
   have c5b1 := bne_eq_false_iff_eq.mpr c5
   clear c5
   obtain rfl := Option.some.inj H
   go_enter Try.func70, Try.ntmps70
   go_wp2
   go_ret
   exact ⟨z2_3_, z2_7_⟩
  ·
   rw [if_neg c5] at H
   have c5b0 : (a0 == 8) = false := beq_eq_false_iff_ne.mpr c5
   have c5b1 : (a0 != 8) = true := bne_iff_ne.mpr c5
   obtain rfl := Option.some.inj H
   go_enter Try.func70, Try.ntmps70
   go_wp2
   go_ret
   exact ⟨z2_3_, z2_7_⟩
/-! ### spec_l07Find: function 89 -/
def spec_l07Find.l0 : Nat → List (S45) → ByteArray → Int → Option (Int)
 | 0, _, _, _ => none
 | k + 1, x0, x1, x5 => if x5 < (x0.length : Int) then (if 0 ≤ x5 then (if ((rd_T45 x0 x5).f0).toList = x1.toList then (some x5) else (spec_l07Find.l0 k x0 x1 (wrap64 (x5 + 1)))) else (none)) else (some (-1))
def spec_l07Find.f (k : Nat) (l0 : List (S45)) (a1 : ByteArray) : Option (Int) := spec_l07Find.l0 k l0 a1 0
theorem spec_l07Find.mono_l : ∀ k, (∀ y0 y1 y2, LeO (spec_l07Find.l0 k y0 y1 y2) (spec_l07Find.l0 (k + 1) y0 y1 y2))
 | 0 => fun _ _ _ r h => by simp [spec_l07Find.l0] at h
 | k + 1 => by
  have ih0 := spec_l07Find.mono_l k
  ·
   intro y0 y1 y2
   unfold spec_l07Find.l0
   repeat' first
   | (with_reducible exact ih0 _ _ _)
   | (with_reducible exact LeO.refl _)
   | (with_reducible exact LeO.none _)
   | (with_reducible refine LeO.ite ?_ ?_)
   | (with_reducible refine LeO.bind ?_ (fun _ => ?_))
   | exact ih0 _ _ _
   | exact LeO.none _
   | refine LeO.ite ?_ ?_
   | refine LeO.bind ?_ (fun _ => ?_)
theorem spec_l07Find.mono : ∀ a0 a1 k, LeO (spec_l07Find.f k a0 a1) (spec_l07Find.f (k + 1) a0 a1) := by
 intro a0 a1 k
 have ih0 := spec_l07Find.mono_l k
 unfold spec_l07Find.f
 repeat' first
   | (with_reducible exact ih0 _ _ _)
   | (with_reducible exact LeO.refl _)
   | (with_reducible exact LeO.none _)
   | (with_reducible refine LeO.ite ?_ ?_)
   | (with_reducible refine LeO.bind ?_ (fun _ => ?_))
   | exact ih0 _ _ _
   | exact LeO.none _
   | refine LeO.ite ?_ ?_
   | refine LeO.bind ?_ (fun _ => ?_)
set_option maxHeartbeats 8000000 in
set_option maxRecDepth 100000 in
theorem spec_l07Find.calls (k : Nat) (A0 : Option Addr) (c0 : Nat) (l0 : List (S45)) (a1 : ByteArray) (r : Int) (w : World) (hr0 : Kd.C k45 w A0 l0.length l0) (hc0 : l0.length ≤ c0) (h : spec_l07Find.f k l0 a1 = some r) :
  Calls Try.prog 89 #[.slice A0 l0.length c0, .string a1] w fun e w' => e = .returned (.int .i64 r) ∧ Drawn0 w w' := by
 have HR0 := A_ hr0
 have HC0 := A_ hc0
 clear hr0 hc0
 have H : (spec_l07Find.l0 k l0 a1 0) = some r := h
 clear h
 have H' := A_ H
 clear H
 go_enter Try.func89, Try.ntmps89
 go_wp2
 go_loopg [5] k (fun kq v5 w' => ∃ (x5_1 : Int), v5 = .int .i64 x5_1 ∧ Aside0 (spec_l07Find.l0 kq l0 a1 x5_1 = some r) ∧ Aside0 (kq ≤ k) ∧ Drawn0 w w')
 case atStart => exact ⟨(0), z2_3_, H', ⟨Nat.le_refl _⟩, z2_7_⟩
 case round =>
  clear H'
  try clear p2
  obtain ⟨x5_1, rfl, HA, HK1, ⟨m1, rfl⟩⟩ := hrel
  cases gk with
  | zero => exact absurd HA.out (by simp [spec_l07Find.l0])
  | succ k1 =>
   have H := HA.out
   clear HA
   simp only [spec_l07Find.l0] at H
   by_cases c3 : x5_1 < (l0.length : Int)
   ·
    rw [if_pos c3] at H
    have c3b0 := decide_eq_true c3
    clear c3
    by_cases c4 : 0 ≤ x5_1
    ·
     rw [if_pos c4] at H
     have c4b0 := decide_eq_true c4
     clear c4
     by_cases c5 : ((rd_T45 l0 x5_1).f0).toList = a1.toList
     ·
      rw [if_pos c5] at H
      have c5b0 := beq_iff_eq.mpr c5
      have c5b1 := bne_eq_false_iff_eq.mpr c5
      clear c5
      obtain rfl := Option.some.inj H
      have p147 : 0 ≤ (x5_1 : Int) := of_decide_eq_true (by assumption)
      have q147 : x5_1 < (l0.length : Int) := of_decide_eq_true (by assumption)
      obtain ⟨ad147, e147, hx147_0, hx147_1, hx147_2, hx147_3, hx147_4, hx147_5⟩ := at_T45 HR0.out x5_1 p147 q147
      cases e147
      replace p147 := eq_true p147
      replace q147 := eq_true q147
      go_wp2
      go_ret
      exact ⟨z2_3_, z2_7_⟩
     ·
      rw [if_neg c5] at H
      have c5b0 : (((rd_T45 l0 x5_1).f0).toList == a1.toList) = false := beq_eq_false_iff_ne.mpr c5
      have c5b1 : (((rd_T45 l0 x5_1).f0).toList != a1.toList) = true := bne_iff_ne.mpr c5
      have H' := A_ H
      clear H
      have p147 : 0 ≤ (x5_1 : Int) := of_decide_eq_true (by assumption)
      have q147 : x5_1 < (l0.length : Int) := of_decide_eq_true (by assumption)
      obtain ⟨ad147, e147, hx147_0, hx147_1, hx147_2, hx147_3, hx147_4, hx147_5⟩ := at_T45 HR0.out x5_1 p147 q147
      cases e147
      replace p147 := eq_true p147
      replace q147 := eq_true q147
      go_wp2
      go_roundg k1
      case measure => have := HK1.out; omega
      case rel => exact ⟨(wrap64 (x5_1 + 1)), z2_3_, H', ⟨(by have := HK1.out; omega)⟩, z2_7_⟩
    ·
     rw [if_neg c4] at H
     exact absurd H (by simp)
   ·
    rw [if_neg c3] at H
    have c3b0 := decide_eq_false c3
    clear c3
    obtain rfl := Option.some.inj H
    go_wp2
    go_ret
    exact ⟨z2_3_, z2_7_⟩
/-! ### spec_l07Uses: function 104 -/
mutual
def spec_l07Uses.j0 : Nat → List (S45) → List (S45) → List Int → Bool → Option (List Int)
 | 0, _, _, _, _ => none
 | k + 1, x0, x5, x6, x22 => if x22 = true then (if 0 < (x5.length : Int) then ((spec_l07Find.f k x0 ((rd_T45 x5 0).f2)).bind fun t157 => (if x6.length < 17592186044416 then (spec_l07Uses.j1 k x0 x5 (x6 ++ [t157])) else (none))) else (none)) else (spec_l07Uses.j1 k x0 x5 x6)
def spec_l07Uses.j1 : Nat → List (S45) → List (S45) → List Int → Option (List Int)
 | 0, _, _, _ => none
 | k + 1, x0, x5, x6 => if 0 < (x5.length : Int) then ((spec_l02Two.f ((rd_T45 x5 0).f1)).bind fun t162 => (if t162 = true then ((spec_l07Find.f k x0 ((rd_T45 x5 0).f3)).bind fun t163 => (if x6.length < 17592186044416 then (some (x6 ++ [t163])) else (none))) else (some x6))) else (none)
end
def spec_l07Uses.f (k : Nat) (l0 : List (S45)) (a1 : Int) : Option (List Int) := if 0 ≤ a1 then (if a1 < (l0.length : Int) then ((some (([] : List Int) : List Int)).bind fun y150 => (if 0 < ([rd_T45 l0 a1].length : Int) then ((spec_l02One.f ((rd_T45 l0 a1).f1)).bind fun t154 => (if t154 = true then (spec_l07Uses.j0 k l0 [rd_T45 l0 a1] y150 true) else ((spec_l02Two.f ((rd_T45 l0 a1).f1)).bind fun t155 => (spec_l07Uses.j0 k l0 [rd_T45 l0 a1] y150 t155)))) else (none))) else (none)) else (none)
theorem spec_l07Uses.mono_l : ∀ k, (∀ y0 y1 y2 y3, LeO (spec_l07Uses.j0 k y0 y1 y2 y3) (spec_l07Uses.j0 (k + 1) y0 y1 y2 y3)) ∧ (∀ y0 y1 y2, LeO (spec_l07Uses.j1 k y0 y1 y2) (spec_l07Uses.j1 (k + 1) y0 y1 y2))
 | 0 => ⟨fun _ _ _ _ r h => by simp [spec_l07Uses.j0] at h, fun _ _ _ r h => by simp [spec_l07Uses.j1] at h⟩
 | k + 1 => by
  obtain ⟨ih0, ih1⟩ := spec_l07Uses.mono_l k
  refine ⟨?_, ?_⟩
  ·
   intro y0 y1 y2 y3
   unfold spec_l07Uses.j0
   repeat' first
   | (with_reducible exact ih0 _ _ _ _)
   | (with_reducible exact ih1 _ _ _)
   | (with_reducible exact spec_l07Find.mono _ _ _)
   | (with_reducible exact LeO.refl _)
   | (with_reducible exact LeO.none _)
   | (with_reducible refine LeO.ite ?_ ?_)
   | (with_reducible refine LeO.bind ?_ (fun _ => ?_))
   | exact ih0 _ _ _ _
   | exact ih1 _ _ _
   | exact LeO.none _
   | refine LeO.ite ?_ ?_
   | refine LeO.bind ?_ (fun _ => ?_)
  ·
   intro y0 y1 y2
   unfold spec_l07Uses.j1
   repeat' first
   | (with_reducible exact ih0 _ _ _ _)
   | (with_reducible exact ih1 _ _ _)
   | (with_reducible exact spec_l07Find.mono _ _ _)
   | (with_reducible exact LeO.refl _)
   | (with_reducible exact LeO.none _)
   | (with_reducible refine LeO.ite ?_ ?_)
   | (with_reducible refine LeO.bind ?_ (fun _ => ?_))
   | exact ih0 _ _ _ _
   | exact ih1 _ _ _
   | exact LeO.none _
   | refine LeO.ite ?_ ?_
   | refine LeO.bind ?_ (fun _ => ?_)
theorem spec_l07Uses.mono : ∀ a0 a1 k, LeO (spec_l07Uses.f k a0 a1) (spec_l07Uses.f (k + 1) a0 a1) := by
 intro a0 a1 k
 obtain ⟨ih0, ih1⟩ := spec_l07Uses.mono_l k
 unfold spec_l07Uses.f
 repeat' first
   | (with_reducible exact ih0 _ _ _ _)
   | (with_reducible exact ih1 _ _ _)
   | (with_reducible exact spec_l07Find.mono _ _ _)
   | (with_reducible exact LeO.refl _)
   | (with_reducible exact LeO.none _)
   | (with_reducible refine LeO.ite ?_ ?_)
   | (with_reducible refine LeO.bind ?_ (fun _ => ?_))
   | exact ih0 _ _ _ _
   | exact ih1 _ _ _
   | exact LeO.none _
   | refine LeO.ite ?_ ?_
   | refine LeO.bind ?_ (fun _ => ?_)
set_option maxHeartbeats 8000000 in
set_option maxRecDepth 100000 in
theorem spec_l07Uses.calls (k : Nat) (A0 : Option Addr) (c0 : Nat) (l0 : List (S45)) (a1 : Int) (r : List Int) (w : World) (hr0 : Kd.C k45 w A0 l0.length l0) (hc0 : l0.length ≤ c0) (h : spec_l07Uses.f k l0 a1 = some r) :
  Calls Try.prog 104 #[.slice A0 l0.length c0, .int .i64 a1] w fun e w' => ∃ v0_ : Value, e = .returned (v0_) ∧ Kd.R (Kd.int .i64) 2 w' w.heap.size (fun _ => True) v0_ r ∧ Below w.heap.size w w' := by
 have HR0 := A_ hr0
 have HC0 := A_ hc0
 clear hr0 hc0
 have HB := A_ (Below.refl w.heap.size w)
 have H : (if 0 ≤ a1 then (if a1 < (l0.length : Int) then ((some (([] : List Int) : List Int)).bind fun y150 => (if 0 < ([rd_T45 l0 a1].length : Int) then ((spec_l02One.f ((rd_T45 l0 a1).f1)).bind fun t154 => (if t154 = true then (spec_l07Uses.j0 k l0 [rd_T45 l0 a1] y150 true) else ((spec_l02Two.f ((rd_T45 l0 a1).f1)).bind fun t155 => (spec_l07Uses.j0 k l0 [rd_T45 l0 a1] y150 t155)))) else (none))) else (none)) else (none)) = some r := h
 clear h
 by_cases c3 : 0 ≤ a1
 ·
  rw [if_pos c3] at H
  have c3b0 := decide_eq_true c3
  clear c3
  by_cases c4 : a1 < (l0.length : Int)
  ·
   rw [if_pos c4] at H
   have c4b0 := decide_eq_true c4
   clear c4
   obtain ⟨y150, hy150⟩ : ∃ y_ : List Int, y_ = (([] : List Int)) := ⟨_, rfl⟩
   replace H : (if 0 < ([rd_T45 l0 a1].length : Int) then ((spec_l02One.f ((rd_T45 l0 a1).f1)).bind fun t154 => (if t154 = true then (spec_l07Uses.j0 k l0 [rd_T45 l0 a1] y150 true) else ((spec_l02Two.f ((rd_T45 l0 a1).f1)).bind fun t155 => (spec_l07Uses.j0 k l0 [rd_T45 l0 a1] y150 t155)))) else (none)) = some r := by first | (rw [hy150]; with_reducible exact H) | (have H2_ := (Option.bind_some _ _).symm.trans H; rw [hy150]; with_reducible exact H2_) | (have H2_ := (Option.bind_some _ _).symm.trans H; with_reducible exact H2_) | with_reducible exact H | (rw [hy150]; exact H) | exact H
   have Ny150 := A_ hy150
   clear hy150
   have HC5 := A_ H
   clear H
   have p148 : 0 ≤ (a1 : Int) := of_decide_eq_true (by assumption)
   have q148 : a1 < (l0.length : Int) := of_decide_eq_true (by assumption)
   obtain ⟨ad148, e148, hx148_0, hx148_1, hx148_2, hx148_3, hx148_4, hx148_5⟩ := at_T45 HR0.out a1 p148 q148
   cases e148
   replace p148 := eq_true p148
   replace q148 := eq_true q148
   have HR149 := A_ (show Kd.C k45 w (some (Addr.add ad148 (a1.toNat * 6))) [rd_T45 l0 a1].length [rd_T45 l0 a1] from Kd.C_el k45 z45 HR0.out (a1 : Int) (of_eq_true p148) (of_eq_true q148))
   go_enter Try.func104, Try.ntmps104
   go_upto_region 3 with (first | ((with_reducible refine gate_dst (N := 10) rfl ?_); refine Kd.R_lit (Kd.int .i64) _ 2 ?hg (N := 10) ?hd (xs := ([] : List Int)) (inner := []) (ok := fun _ => True) (okp := fun _ => True) ?hr ?hp (fun _ hk => hk) trivial (Below.refl _ _) (Nat.le_refl _) (by simp) ?_; (case hd => rfl); (case hg => rfl); (case hr => first | (go_simp; done) | (go_simp; rfl)); (case hp => exact (Reps.none _ _)); intro v151 w6 ho7 hb hg_ hnew_; clear hg_ hnew_; (first | rw [← Ny150.out] at ho7 | (simp only [Int.reduceToNat] at ho7; rw [← Ny150.out] at ho7)); have _ := A_ (Kd.R_lower ho7 (below_size z2_1_)); have _ := A_ (below_step z2_1_ hb); clear HB; rename_i HO152 HB; clear hb ho7))
   (try simp only [Act.put, sA_, sB_, sC_])
   go_cut [22] (fun v22 wc => ∃ (kq : Nat) (x22_4 : Bool), v22 = .bool x22_4 ∧ Aside0 (spec_l07Uses.j0 kq l0 [rd_T45 l0 a1] y150 x22_4 = some r) ∧ Aside0 (kq ≤ k) ∧ Aside0 (Kd.R (Kd.int .i64) 2 wc w.heap.size (fun _ => True) v151 y150) ∧ Aside0 (Below w.heap.size w wc))
   case first =>
    have H := HC5.out
    clear HC5
    by_cases c8 : 0 < ([rd_T45 l0 a1].length : Int)
    ·
     rw [if_pos c8] at H
     have c8b0 := decide_eq_true c8
     have c8b1 : decide (0 < [rd_T45 l0 a1].length) = true := decide_eq_true (by omega)
     clear c8
     (first | rw [c8b0] | (simp only [i64_w, i32_w]; rw [c8b0]) | skip)
     replace H := Option.bind_eq_some_iff.mp H
     obtain ⟨t154, A90, H⟩ := H
     try dsimp only at H
     have A9 := A_ A90
     clear A90
     by_cases c10 : t154 = true
     ·
      subst c10
      have H1 := H; rw [if_pos rfl] at H1
      clear H
      have H := H1
      clear H1
      have H' := A_ H
      clear H
      have q153 : 0 < ([rd_T45 l0 a1].length : Int) := of_decide_eq_true (by assumption)
      obtain ⟨ad153, e153, hx153_0, hx153_1, hx153_2, hx153_3, hx153_4, hx153_5⟩ := rp_T45 HR149.out q153
      (try simp only [rd1_T45] at hx153_0 hx153_1 hx153_2 hx153_3 hx153_4 hx153_5)
      obtain rfl : (Addr.add ad148 (a1.toNat * 6)) = ad153 := (by injection e153)
      replace hx153_0 := cel HB.out hx153_0
      replace hx153_1 := cel HB.out hx153_1
      replace hx153_2 := cel HB.out hx153_2
      replace hx153_3 := cel HB.out hx153_3
      replace hx153_4 := cel HB.out hx153_4
      replace hx153_5 := cel HB.out hx153_5
      go_wp2_with (first | ((with_reducible refine gate_callee (f := 69) rfl ?_); refine goesL_ (some 15) rfl rfl Try.func69 (by kernel_rfl) rfl #[.int .i8 ((rd_T45 l0 a1).f1)] rfl z2_2_ ?_; (with_reducible refine (spec_l02One.calls ((rd_T45 l0 a1).f1) true _ A9.out).mono ?_); rintro e w' ⟨rfl, ⟨nd, rfl⟩⟩; refine ⟨_, rfl, ?_⟩))
      go_meet
      case rel => exact ⟨_, (true), z2_3_, H', ⟨(by first | omega | exact Nat.le_refl _)⟩, ⟨z2_10_⟩, ⟨z2_1_⟩⟩
     ·
      replace c10 := Bool.eq_false_iff.mpr c10
      subst c10
      have H1 := H; rw [if_neg (show ¬ (false = true) by decide)] at H1
      clear H
      have H := H1
      clear H1
      replace H := Option.bind_eq_some_iff.mp H
      obtain ⟨t155, A110, H⟩ := H
      try dsimp only at H
      have A11 := A_ A110
      clear A110
      have H' := A_ H
      clear H
      have q153 : 0 < ([rd_T45 l0 a1].length : Int) := of_decide_eq_true (by assumption)
      obtain ⟨ad153, e153, hx153_0, hx153_1, hx153_2, hx153_3, hx153_4, hx153_5⟩ := rp_T45 HR149.out q153
      (try simp only [rd1_T45] at hx153_0 hx153_1 hx153_2 hx153_3 hx153_4 hx153_5)
      obtain rfl : (Addr.add ad148 (a1.toNat * 6)) = ad153 := (by injection e153)
      replace hx153_0 := cel HB.out hx153_0
      replace hx153_1 := cel HB.out hx153_1
      replace hx153_2 := cel HB.out hx153_2
      replace hx153_3 := cel HB.out hx153_3
      replace hx153_4 := cel HB.out hx153_4
      replace hx153_5 := cel HB.out hx153_5
      go_wp2_with (first | ((with_reducible refine gate_callee (f := 69) rfl ?_); refine goesL_ (some 15) rfl rfl Try.func69 (by kernel_rfl) rfl #[.int .i8 ((rd_T45 l0 a1).f1)] rfl z2_2_ ?_; (with_reducible refine (spec_l02One.calls ((rd_T45 l0 a1).f1) false _ A9.out).mono ?_); rintro e w' ⟨rfl, ⟨nd, rfl⟩⟩; refine ⟨_, rfl, ?_⟩) | (go_at_call 70; (with_reducible refine (spec_l02Two.calls ((rd_T45 l0 a1).f1) t155 _ A11.out).mono ?_); rintro e w' ⟨rfl, ⟨nd, rfl⟩⟩))
      go_meet
      case rel => exact ⟨_, (t155), z2_3_, H', ⟨(by first | omega | exact Nat.le_refl _)⟩, ⟨z2_10_⟩, ⟨z2_1_⟩⟩
    ·
     rw [if_neg c8] at H
     exact absurd H (by simp)
   case rest =>
    clear HC5
    try clear c1
    try clear p1
    try clear q1
    try clear hx1
    try clear p2
    try clear c3
    try clear c3b0
    try clear c4
    try clear c4b0
    try clear c6
    try clear c8
    try clear c8b0
    try clear c8b1
    try clear c10
    try clear hx148_0
    try clear hx148_1
    try clear hx148_2
    try clear hx148_3
    try clear hx148_4
    try clear hx148_5
    try clear hx153_0
    try clear hx153_1
    try clear hx153_2
    try clear hx153_3
    try clear hx153_4
    try clear hx153_5
    try clear p148
    try clear q148
    try clear q153
    obtain ⟨kq, x22_4, rfl, HA, HJ4, HO_6, HB⟩ := hcut
    cases kq with
    | zero => exact absurd HA.out (by simp [spec_l07Uses.j0])
    | succ kj4 =>
     have H := HA.out
     clear HA
     simp only [spec_l07Uses.j0] at H
     (repeat (first | rw [rd1_T45] at H))
     have HC12 := A_ H
     clear H
     go_upto_if 22 with (fail)
     go_cut [6] (fun v6 wc => ∃ (kq : Nat) (x6_11 : List Int), Aside0 (spec_l07Uses.j1 kq l0 [rd_T45 l0 a1] x6_11 = some r) ∧ Aside0 (kq ≤ kj4) ∧ Aside0 (Kd.R (Kd.int .i64) 2 wc w.heap.size (fun _ => True) v6 x6_11) ∧ Aside0 (Below w.heap.size w wc))
     case first =>
      have H := HC12.out
      clear HC12
      by_cases c13 : x22_4 = true
      ·
       subst c13
       have H1 := H; rw [if_pos rfl] at H1
       clear H
       have H := H1
       clear H1
       by_cases c14 : 0 < ([rd_T45 l0 a1].length : Int)
       ·
        rw [if_pos c14] at H
        have c14b0 := decide_eq_true c14
        have c14b1 : decide (0 < [rd_T45 l0 a1].length) = true := decide_eq_true (by omega)
        clear c14
        (first | rw [c14b0] | (simp only [i64_w, i32_w]; rw [c14b0]) | skip)
        replace H := Option.bind_eq_some_iff.mp H
        obtain ⟨t157, A150, H⟩ := H
        try dsimp only at H
        have A15 := A_ A150
        clear A150
        by_cases c16 : y150.length < 17592186044416
        ·
         rw [if_pos c16] at H
         have LMc16 := A_ c16
         clear c16
         obtain ⟨y158, hy158⟩ : ∃ y_ : List Int, y_ = (y150 ++ [t157]) := ⟨_, rfl⟩
         replace H : (spec_l07Uses.j1 kj4 l0 [rd_T45 l0 a1] y158) = some r := by first | (rw [hy158]; with_reducible exact H) | (have H2_ := (Option.bind_some _ _).symm.trans H; rw [hy158]; with_reducible exact H2_) | (have H2_ := (Option.bind_some _ _).symm.trans H; with_reducible exact H2_) | with_reducible exact H | (rw [hy158]; exact H) | exact H
         have Ny158 := A_ hy158
         clear hy158
         have H' := A_ H
         clear H
         have q156 : 0 < ([rd_T45 l0 a1].length : Int) := of_decide_eq_true (by assumption)
         obtain ⟨ad156, e156, hx156_0, hx156_1, hx156_2, hx156_3, hx156_4, hx156_5⟩ := rp_T45 HR149.out q156
         (try simp only [rd1_T45] at hx156_0 hx156_1 hx156_2 hx156_3 hx156_4 hx156_5)
         obtain rfl : (Addr.add ad148 (a1.toNat * 6)) = ad156 := (by injection e156)
         replace hx156_0 := cel HB.out hx156_0
         replace hx156_1 := cel HB.out hx156_1
         replace hx156_2 := cel HB.out hx156_2
         replace hx156_3 := cel HB.out hx156_3
         replace hx156_4 := cel HB.out hx156_4
         replace hx156_5 := cel HB.out hx156_5
         go_wp2_with (first | ((with_reducible refine gate_callee (f := 89) rfl ?_); refine goesL_ (some 29) rfl rfl Try.func89 (by kernel_rfl) rfl #[.slice (some ad148) l0.length c0, .string ((rd_T45 l0 a1).f2)] rfl z2_2_ ?_; (with_reducible refine (spec_l07Find.calls kj4 _ _ l0 ((rd_T45 l0 a1).f2) t157 _ ?side1 ?side2 A15.out).mono ?_); (case side1 => have hx_ := (Kd.C_below HR0.out HB.out); exact kc_); (case side2 => exact HC0.out); rintro e w' ⟨rfl, ⟨nd, rfl⟩⟩; refine ⟨_, rfl, ?_⟩) | ((with_reducible refine gate_builtin (b := .append) (xs := #[.tmp 23, .tmp 30]) rfl ?_); at_builtin; refine Kd.R_append (Kd.int .i64) (w0 := w) w.heap.size rfl (.tmp 23) (.tmp 30) 57 2 (.int .i64 0) 8 rfl Try.underlying57 info2 rfl (by decide) (by omega) v151 y150 t157 [.int .i64 t157] (fun _ => True) (fun _ => False) rfl rfl ?aP (fun _ hk => hk.elim) ?aF ?aO ?aB ?aS ?aL ?_; (case aP => exact rfl); (case aB => exact z2_1_); (case aF => exact (fun _ _ => trivial)); (case aO => exact z2_8_); (case aS => exact (below_size z2_1_)); (case aL => have := LMc16.out; omega); intro v159 w17 ho hb hg hat; rw [← Ny158.out] at ho; have _ := A_ (hb); have _ := A_ (ho); clear HB HO_6; rename_i HB HO160; clear ho hb hg hat))
         go_meet
         case rel => exact ⟨_, (y158), H', ⟨(by have := HJ4.out; first | omega | exact Nat.le_refl _)⟩, ⟨(by (with_reducible repeat (first | apply Kd.R_alloc | apply Kd.R_drewN | apply Kd.R_drew)); exact HO160.out)⟩, ⟨z2_1_⟩⟩
        ·
         rw [if_neg c16] at H
         exact absurd H (by simp)
       ·
        rw [if_neg c14] at H
        exact absurd H (by simp)
      ·
       replace c13 := Bool.eq_false_iff.mpr c13
       subst c13
       have H1 := H; rw [if_neg (show ¬ (false = true) by decide)] at H1
       clear H
       have H := H1
       clear H1
       have H' := A_ H
       clear H
       go_wp2
       go_meet
       case rel => exact ⟨_, (y150), H', ⟨(by have := HJ4.out; first | omega | exact Nat.le_refl _)⟩, ⟨z2_8_⟩, ⟨z2_1_⟩⟩
     case rest =>
      clear HC12
      try clear c1
      try clear p1
      try clear q1
      try clear hx1
      try clear p2
      try clear c3
      try clear c3b0
      try clear c4
      try clear c4b0
      try clear c6
      try clear c8
      try clear c8b0
      try clear c8b1
      try clear c10
      try clear c13
      try clear c14
      try clear c14b0
      try clear c14b1
      try clear p14
      try clear q14
      try clear hx14
      try clear q15
      try clear hx15
      try clear c16
      try clear hx148_0
      try clear hx148_1
      try clear hx148_2
      try clear hx148_3
      try clear hx148_4
      try clear hx148_5
      try clear hx153_0
      try clear hx153_1
      try clear hx153_2
      try clear hx153_3
      try clear hx153_4
      try clear hx153_5
      try clear hx156_0
      try clear hx156_1
      try clear hx156_2
      try clear hx156_3
      try clear hx156_4
      try clear hx156_5
      try clear p1
      try clear p148
      try clear p2
      try clear q1
      try clear q148
      try clear q153
      try clear q156
      obtain ⟨kq, x6_11, HA, HJ11, HO_6, HB⟩ := hcut
      cases kq with
      | zero => exact absurd HA.out (by simp [spec_l07Uses.j1])
      | succ kj11 =>
       have H := HA.out
       clear HA
       simp only [spec_l07Uses.j1] at H
       (repeat (first | rw [rd1_T45] at H))
       by_cases c18 : 0 < ([rd_T45 l0 a1].length : Int)
       ·
        rw [if_pos c18] at H
        have c18b0 := decide_eq_true c18
        have c18b1 : decide (0 < [rd_T45 l0 a1].length) = true := decide_eq_true (by omega)
        clear c18
        replace H := Option.bind_eq_some_iff.mp H
        obtain ⟨t162, A190, H⟩ := H
        try dsimp only at H
        have A19 := A_ A190
        clear A190
        by_cases c20 : t162 = true
        ·
         subst c20
         have H1 := H; rw [if_pos rfl] at H1
         clear H
         have H := H1
         clear H1
         replace H := Option.bind_eq_some_iff.mp H
         obtain ⟨t163, A210, H⟩ := H
         try dsimp only at H
         have A21 := A_ A210
         clear A210
         by_cases c22 : x6_11.length < 17592186044416
         ·
          rw [if_pos c22] at H
          have LMc22 := A_ c22
          clear c22
          obtain ⟨y164, hy164⟩ : ∃ y_ : List Int, y_ = (x6_11 ++ [t163]) := ⟨_, rfl⟩
          replace H : (some y164) = some r := by first | (rw [hy164]; with_reducible exact H) | (have H2_ := (Option.bind_some _ _).symm.trans H; rw [hy164]; with_reducible exact H2_) | (have H2_ := (Option.bind_some _ _).symm.trans H; with_reducible exact H2_) | with_reducible exact H | (rw [hy164]; exact H) | exact H
          have Ny164 := A_ hy164
          clear hy164
          obtain rfl := Option.some.inj H
          have q161 : 0 < ([rd_T45 l0 a1].length : Int) := of_decide_eq_true (by assumption)
          obtain ⟨ad161, e161, hx161_0, hx161_1, hx161_2, hx161_3, hx161_4, hx161_5⟩ := rp_T45 HR149.out q161
          (try simp only [rd1_T45] at hx161_0 hx161_1 hx161_2 hx161_3 hx161_4 hx161_5)
          obtain rfl : (Addr.add ad148 (a1.toNat * 6)) = ad161 := (by injection e161)
          replace hx161_0 := cel HB.out hx161_0
          replace hx161_1 := cel HB.out hx161_1
          replace hx161_2 := cel HB.out hx161_2
          replace hx161_3 := cel HB.out hx161_3
          replace hx161_4 := cel HB.out hx161_4
          replace hx161_5 := cel HB.out hx161_5
          go_wp2_with (first | ((with_reducible refine gate_callee (f := 70) rfl ?_); refine goesL_ (some 36) rfl rfl Try.func70 (by kernel_rfl) rfl #[.int .i8 ((rd_T45 l0 a1).f1)] rfl z2_2_ ?_; (with_reducible refine (spec_l02Two.calls ((rd_T45 l0 a1).f1) true _ A19.out).mono ?_); rintro e w' ⟨rfl, ⟨nd, rfl⟩⟩; refine ⟨_, rfl, ?_⟩) | ((with_reducible refine gate_callee (f := 89) rfl ?_); refine goesL_ (some 43) rfl rfl Try.func89 (by kernel_rfl) rfl #[.slice (some ad148) l0.length c0, .string ((rd_T45 l0 a1).f3)] rfl z2_2_ ?_; (with_reducible refine (spec_l07Find.calls kj11 _ _ l0 ((rd_T45 l0 a1).f3) t163 _ ?side1 ?side2 A21.out).mono ?_); (case side1 => repeat (first | exact (Kd.C_below HR0.out z2_1_) | (with_reducible refine Kd.C_alloc ?_ _) | (with_reducible refine Kd.C_drewN ?_ _) | (with_reducible refine Kd.C_drew ?_))); (case side2 => exact HC0.out); rintro e w' ⟨rfl, ⟨nd, rfl⟩⟩; refine ⟨_, rfl, ?_⟩) | ((with_reducible refine gate_builtin (b := .append) (xs := #[.tmp 37, .tmp 44]) rfl ?_); at_builtin; refine Kd.R_append (Kd.int .i64) (w0 := w) w.heap.size rfl (.tmp 37) (.tmp 44) 57 2 (.int .i64 0) 8 rfl Try.underlying57 info2 rfl (by decide) (by omega) u6 x6_11 t163 [.int .i64 t163] (fun _ => True) (fun _ => False) rfl rfl ?aP (fun _ hk => hk.elim) ?aF ?aO ?aB ?aS ?aL ?_; (case aP => exact rfl); (case aB => exact z2_1_); (case aF => exact (fun _ _ => trivial)); (case aO => exact z2_8_); (case aS => exact (below_size z2_1_)); (case aL => have := LMc22.out; omega); intro v165 w23 ho hb hg hat; rw [← Ny164.out] at ho; have _ := A_ (hb); have _ := A_ (ho); clear HB HO_6; rename_i HB HO166; clear ho hb hg hat))
          go_ret
          exact ⟨_, z2_5_, (by (with_reducible repeat (first | apply Kd.R_alloc | apply Kd.R_drewN | apply Kd.R_drew)); exact HO166.out), z2_1_⟩
         ·
          rw [if_neg c22] at H
          exact absurd H (by simp)
        ·
         replace c20 := Bool.eq_false_iff.mpr c20
         subst c20
         have H1 := H; rw [if_neg (show ¬ (false = true) by decide)] at H1
         clear H
         have H := H1
         clear H1
         obtain rfl := Option.some.inj H
         have q161 : 0 < ([rd_T45 l0 a1].length : Int) := of_decide_eq_true (by assumption)
         obtain ⟨ad161, e161, hx161_0, hx161_1, hx161_2, hx161_3, hx161_4, hx161_5⟩ := rp_T45 HR149.out q161
         (try simp only [rd1_T45] at hx161_0 hx161_1 hx161_2 hx161_3 hx161_4 hx161_5)
         obtain rfl : (Addr.add ad148 (a1.toNat * 6)) = ad161 := (by injection e161)
         replace hx161_0 := cel HB.out hx161_0
         replace hx161_1 := cel HB.out hx161_1
         replace hx161_2 := cel HB.out hx161_2
         replace hx161_3 := cel HB.out hx161_3
         replace hx161_4 := cel HB.out hx161_4
         replace hx161_5 := cel HB.out hx161_5
         go_wp2_with (first | ((with_reducible refine gate_callee (f := 70) rfl ?_); refine goesL_ (some 36) rfl rfl Try.func70 (by kernel_rfl) rfl #[.int .i8 ((rd_T45 l0 a1).f1)] rfl z2_2_ ?_; (with_reducible refine (spec_l02Two.calls ((rd_T45 l0 a1).f1) false _ A19.out).mono ?_); rintro e w' ⟨rfl, ⟨nd, rfl⟩⟩; refine ⟨_, rfl, ?_⟩))
         go_ret
         exact ⟨_, z2_5_, z2_8_, z2_1_⟩
       ·
        rw [if_neg c18] at H
        exact absurd H (by simp)
  ·
   rw [if_neg c4] at H
   exact absurd H (by simp)
 ·
  rw [if_neg c3] at H
  exact absurd H (by simp)
end Go.Proofs.Ytenhgmddpkiliaa.PB

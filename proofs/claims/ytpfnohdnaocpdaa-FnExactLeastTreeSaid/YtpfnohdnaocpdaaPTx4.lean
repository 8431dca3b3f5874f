import Derived.Test.YtpfnohdnaocpdaaPTx0
import Derived.Test.YtpfnohdnaocpdaaPTx2
namespace Go.Proofs.Ytpfnohdnaocpdaa.PT
open Go.RowKit Go.Proofs.YtpfnohdnaocpdaaW.PrintWords Go.Proofs.YtpfnohdnaocpdaaW.PrintLast Go.Proofs.YtpfnohdnaocpdaaW.PrintMore Go.Proofs.YtpfnohdnaocpdaaRP
attribute [local go_sem] max2_int min2_int max_two min_two max_three min_three max_four min_four Go.Proofs.YtpfnohdnaocpdaaRP.max_eight Go.Proofs.YtpfnohdnaocpdaaRP.tmod_len   -- for this text's walks alone
set_option linter.unusedVariables false
set_option linter.unusedSimpArgs false
theorem z4_1_ {P : Prop} (h : P := by first | exact Nat.ne_of_lt (Nat.lt_of_lt_of_le (by have := World.block_lt_of_cell? _ _ hw199_4; first | rwa [add_block] at this | exact this) GW200.out) | (rw [add_block]; exact Nat.ne_of_lt (Nat.lt_of_lt_of_le (by have := World.block_lt_of_cell? _ _ hw199_4; first | rwa [add_block] at this | exact this) GW200.out)) | (show (Addr.add _ _).block ≠ _; rw [add_block]; exact Nat.ne_of_lt (Nat.lt_of_lt_of_le (by have := World.block_lt_of_cell? _ _ hw199_4; first | rwa [add_block] at this | exact this) GW200.out)) | (dsimp only; exact Nat.ne_of_lt (Nat.lt_of_lt_of_le (by have := World.block_lt_of_cell? _ _ hw199_4; first | rwa [add_block] at this | exact this) GW200.out))) : P := h
theorem z4_2_ {P : Prop} (h : P := by first | exact Nat.ne_of_lt (Nat.lt_of_lt_of_le (by have := World.block_lt_of_cell? _ _ hw199_3; first | rwa [add_block] at this | exact this) GW200.out) | (rw [add_block]; exact Nat.ne_of_lt (Nat.lt_of_lt_of_le (by have := World.block_lt_of_cell? _ _ hw199_3; first | rwa [add_block] at this | exact this) GW200.out)) | (show (Addr.add _ _).block ≠ _; rw [add_block]; exact Nat.ne_of_lt (Nat.lt_of_lt_of_le (by have := World.block_lt_of_cell? _ _ hw199_3; first | rwa [add_block] at this | exact this) GW200.out)) | (dsimp only; exact Nat.ne_of_lt (Nat.lt_of_lt_of_le (by have := World.block_lt_of_cell? _ _ hw199_3; first | rwa [add_block] at this | exact this) GW200.out))) : P := h
theorem z4_3_ {P : Prop} (h : P := by first | exact Nat.ne_of_lt (Nat.lt_of_lt_of_le (by have := World.block_lt_of_cell? _ _ hw199_2; first | rwa [add_block] at this | exact this) GW200.out) | (rw [add_block]; exact Nat.ne_of_lt (Nat.lt_of_lt_of_le (by have := World.block_lt_of_cell? _ _ hw199_2; first | rwa [add_block] at this | exact this) GW200.out)) | (show (Addr.add _ _).block ≠ _; rw [add_block]; exact Nat.ne_of_lt (Nat.lt_of_lt_of_le (by have := World.block_lt_of_cell? _ _ hw199_2; first | rwa [add_block] at this | exact this) GW200.out)) | (dsimp only; exact Nat.ne_of_lt (Nat.lt_of_lt_of_le (by have := World.block_lt_of_cell? _ _ hw199_2; first | rwa [add_block] at this | exact this) GW200.out))) : P := h
theorem z4_4_ {P : Prop} (h : P := by first | exact Nat.ne_of_lt (Nat.lt_of_lt_of_le (by have := World.block_lt_of_cell? _ _ hw199_1; first | rwa [add_block] at this | exact this) GW200.out) | (rw [add_block]; exact Nat.ne_of_lt (Nat.lt_of_lt_of_le (by have := World.block_lt_of_cell? _ _ hw199_1; first | rwa [add_block] at this | exact this) GW200.out)) | (show (Addr.add _ _).block ≠ _; rw [add_block]; exact Nat.ne_of_lt (Nat.lt_of_lt_of_le (by have := World.block_lt_of_cell? _ _ hw199_1; first | rwa [add_block] at this | exact this) GW200.out)) | (dsimp only; exact Nat.ne_of_lt (Nat.lt_of_lt_of_le (by have := World.block_lt_of_cell? _ _ hw199_1; first | rwa [add_block] at this | exact this) GW200.out))) : P := h
theorem z4_5_ {P : Prop} (h : P := by first | exact Nat.ne_of_lt (Nat.lt_of_lt_of_le (by have := World.block_lt_of_cell? _ _ hw199_0; first | rwa [add_block] at this | exact this) GW200.out) | (rw [add_block]; exact Nat.ne_of_lt (Nat.lt_of_lt_of_le (by have := World.block_lt_of_cell? _ _ hw199_0; first | rwa [add_block] at this | exact this) GW200.out)) | (show (Addr.add _ _).block ≠ _; rw [add_block]; exact Nat.ne_of_lt (Nat.lt_of_lt_of_le (by have := World.block_lt_of_cell? _ _ hw199_0; first | rwa [add_block] at this | exact this) GW200.out)) | (dsimp only; exact Nat.ne_of_lt (Nat.lt_of_lt_of_le (by have := World.block_lt_of_cell? _ _ hw199_0; first | rwa [add_block] at this | exact this) GW200.out))) : P := h
theorem z4_6_ {P : Prop} (h : P := by first | exact Nat.ne_of_lt (Nat.lt_of_lt_of_le (by have := World.block_lt_of_cell? _ _ hw198_0; first | rwa [add_block] at this | exact this) GW200.out) | (rw [add_block]; exact Nat.ne_of_lt (Nat.lt_of_lt_of_le (by have := World.block_lt_of_cell? _ _ hw198_0; first | rwa [add_block] at this | exact this) GW200.out)) | (show (Addr.add _ _).block ≠ _; rw [add_block]; exact Nat.ne_of_lt (Nat.lt_of_lt_of_le (by have := World.block_lt_of_cell? _ _ hw198_0; first | rwa [add_block] at this | exact this) GW200.out)) | (dsimp only; exact Nat.ne_of_lt (Nat.lt_of_lt_of_le (by have := World.block_lt_of_cell? _ _ hw198_0; first | rwa [add_block] at this | exact this) GW200.out))) : P := h
theorem z4_7_ {P : Prop} (h : P := by first | exact Nat.ne_of_lt (Nat.lt_of_lt_of_le (by have := World.block_lt_of_cell? _ _ hw197_0; first | rwa [add_block] at this | exact this) GW200.out) | (rw [add_block]; exact Nat.ne_of_lt (Nat.lt_of_lt_of_le (by have := World.block_lt_of_cell? _ _ hw197_0; first | rwa [add_block] at this | exact this) GW200.out)) | (show (Addr.add _ _).block ≠ _; rw [add_block]; exact Nat.ne_of_lt (Nat.lt_of_lt_of_le (by have := World.block_lt_of_cell? _ _ hw197_0; first | rwa [add_block] at this | exact this) GW200.out)) | (dsimp only; exact Nat.ne_of_lt (Nat.lt_of_lt_of_le (by have := World.block_lt_of_cell? _ _ hw197_0; first | rwa [add_block] at this | exact this) GW200.out))) : P := h
theorem z4_8_ {P : Prop} (h : P := by repeat (first | (with_reducible first | exact HB.out | apply below_alloc | apply pw_below_drewN | apply below_drew1 | refine below_set ?_ GE189.out | refine below_set ?_ GE196.out | refine below_set ?_ GE200.out) | exact HB.out)) : P := h
theorem z4_9_ {P : Prop} (h : P := by (with_reducible repeat (first | refine blk_drewN ?_ _ | refine blk_drew ?_ | refine blk_alloc ?_ _)); exact BK189.out) : P := h
theorem z4_10_ {P : Prop} (h : P := by first | rfl | (simp; done) | (simp [*]; done) | (simp [isE_]; done)) : P := h
theorem z4_11_ {P : Prop} (h : P := by repeat (first | (with_reducible first | exact HB.out | apply below_alloc | apply pw_below_drewN | apply below_drew1 | refine below_set ?_ GE189.out) | exact HB.out)) : P := h
theorem z4_12_ {P : Prop} (h : P := by repeat (first | (with_reducible first | exact HB.out | apply below_alloc | apply pw_below_drewN | apply below_drew1 | refine below_set ?_ GE189.out | refine below_set ?_ GE196.out) | exact HB.out)) : P := h
theorem z4_13_ {P : Prop} (h : P := by (with_reducible repeat (first | refine blk_drewN ?_ _ | refine blk_drew ?_ | refine blk_alloc ?_ _)); exact BK200.out) : P := h
theorem z4_14_ {P : Prop} (h : P := by (with_reducible repeat (first | refine blk_drewN ?_ _ | refine blk_drew ?_ | refine blk_alloc ?_ _)); exact BK196.out) : P := h
theorem z4_15_ {P : Prop} (h : P := by (with_reducible repeat (first | apply Kd.R_alloc | apply Kd.R_drewN | apply Kd.R_drew)); exact HO_5.out) : P := h
theorem z4_16_ {P : Prop} (h : P := by repeat (first | exact Drawn0.refl _ | apply Drawn0.step)) : P := h
theorem z4_17_ {P : Prop} (h : P := by (with_reducible repeat (first | apply Kd.R_alloc | apply Kd.R_drewN | apply Kd.R_drew)); exact HO_197000.out) : P := h
theorem z4_18_ {P : Prop} (h : P := by repeat (first | (with_reducible first | exact HB.out | apply below_alloc | apply pw_below_drewN | apply below_drew1) | exact HB.out)) : P := h
theorem z4_19_ {P : Prop} (h : P := by (with_reducible repeat (first | refine blk_drewN ?_ _ | refine blk_drew ?_ | refine blk_alloc ?_ _)); refine blk_far ?_ NB189_196.out _; (with_reducible repeat (first | refine blk_drewN ?_ _ | refine blk_drew ?_ | refine blk_alloc ?_ _)); exact BK189.out) : P := h
theorem z4_20_ {P : Prop} (h : P := by (try simp only [List.map_toArray, List.map_cons, List.map_nil]); first | done | rfl | (simp only [List.length_drop, List.length_take]; rfl)) : P := h
/-! ### spec_l06Tree: function 96 -/
mutual
def spec_l06Tree.l0 : Nat → List (S34) → List Int → List Int → Int → Option ((List (S89)))
 | 0, _, _, _, _ => none
 | k + 1, x0, x1, x5, x6 => if x6 < (x1.length : Int) then (if 0 ≤ x6 then (if 0 ≤ (rd x1 x6) then (if (rd x1 x6) < (x5.length : Int) then (spec_l06Tree.l0 k x0 x1 (x5.set ((rd x1 x6) : Int).toNat (IntKind.i16.wrap (x6))) (wrap64 (x6 + 1))) else (none)) else (none)) else (none)) else (spec_l06Tree.l1 k x0 x1 x5 0 ([] : List (S89)))
def spec_l06Tree.l1 : Nat → List (S34) → List Int → List Int → Int → List (S89) → Option ((List (S89)))
 | 0, _, _, _, _, _ => none
 | k + 1, x0, x1, x5, x8, x197000 => if x8 < (x1.length : Int) then (if 0 < (x0.length : Int) then (if 0 ≤ x8 then (if 0 ≤ (rd x1 x8) then (if (rd x1 x8) < (((rd_T34 x0 0).f0).length : Int) then (spec_l06Tree.l2 k x0 x1 x5 x8 0 x197000 ((rd_T89 ((rd_T34 x0 0).f0) (rd x1 x8)).f0) ((rd_T89 ((rd_T34 x0 0).f0) (rd x1 x8)).f1) ((rd_T89 ((rd_T34 x0 0).f0) (rd x1 x8)).f2.f0) ((rd_T89 ((rd_T34 x0 0).f0) (rd x1 x8)).f2.f1) ((rd_T89 ((rd_T34 x0 0).f0) (rd x1 x8)).f2.f2)) else (none)) else (none)) else (none)) else (none)) else (some x197000)
def spec_l06Tree.l2 : Nat → List (S34) → List Int → List Int → Int → Int → List (S89) → Int → Int → Int → Int → Int → Option ((List (S89)))
 | 0, _, _, _, _, _, _, _, _, _, _, _ => none
 | k + 1, x0, x1, x5, x8, x10, x197000, x201000, x201001, x201002, x201003, x201004 => (spec_l06Ways.f [(⟨x201000, x201001, (⟨x201002, x201003, x201004⟩ : S87)⟩ : S89)]).bind fun t202 => (if x10 < t202 then (if 0 ≤ x10 then (if x10 < 3 then (if 0 ≤ (rd [x201002, x201003, x201004] x10) then (if (rd [x201002, x201003, x201004] x10) < (x5.length : Int) then (spec_l06Tree.l2 k x0 x1 x5 x8 (wrap64 (x10 + 1)) x197000 x201000 x201001 (up 0 x10 (rd x5 (rd [x201002, x201003, x201004] x10)) x201002) (up 1 x10 (rd x5 (rd [x201002, x201003, x201004] x10)) x201003) (up 2 x10 (rd x5 (rd [x201002, x201003, x201004] x10)) x201004)) else (none)) else (none)) else (none)) else (none)) else (if x197000.length < 17592186044416 then (spec_l06Tree.l1 k x0 x1 x5 (wrap64 (x8 + 1)) (x197000 ++ [(⟨x201000, x201001, (⟨x201002, x201003, x201004⟩ : S87)⟩ : S89)])) else (none)))
end
def spec_l06Tree.f (k : Nat) (l0 : List (S34)) (l1 : List Int) : Option ((List (S89))) := if 0 < (l0.length : Int) then (if 0 ≤ (((rd_T34 l0 0).f0).length : Int) then (if ((((rd_T34 l0 0).f0).length : Int) : Int).toNat ≤ 140737488355328 then (spec_l06Tree.l0 k l0 l1 (List.replicate ((((rd_T34 l0 0).f0).length : Int) : Int).toNat 0) 0) else (none)) else (none)) else (none)
theorem spec_l06Tree.mono_l : ∀ k, (∀ y0 y1 y2 y3, LeO (spec_l06Tree.l0 k y0 y1 y2 y3) (spec_l06Tree.l0 (k + 1) y0 y1 y2 y3)) ∧ (∀ y0 y1 y2 y3 y4, LeO (spec_l06Tree.l1 k y0 y1 y2 y3 y4) (spec_l06Tree.l1 (k + 1) y0 y1 y2 y3 y4)) ∧ (∀ y0 y1 y2 y3 y4 y5 y6 y7 y8 y9 y10, LeO (spec_l06Tree.l2 k y0 y1 y2 y3 y4 y5 y6 y7 y8 y9 y10) (spec_l06Tree.l2 (k + 1) y0 y1 y2 y3 y4 y5 y6 y7 y8 y9 y10))
 | 0 => ⟨fun _ _ _ _ r h => by simp [spec_l06Tree.l0] at h, fun _ _ _ _ _ r h => by simp [spec_l06Tree.l1] at h, fun _ _ _ _ _ _ _ _ _ _ _ r h => by simp [spec_l06Tree.l2] at h⟩
 | k + 1 => by
  obtain ⟨ih0, ih1, ih2⟩ := spec_l06Tree.mono_l k
  refine ⟨?_, ?_, ?_⟩
  ·
   intro y0 y1 y2 y3
   unfold spec_l06Tree.l0
   repeat' first
   | (with_reducible exact ih0 _ _ _ _)
   | (with_reducible exact ih1 _ _ _ _ _)
   | (with_reducible exact ih2 _ _ _ _ _ _ _ _ _ _ _)
   | (with_reducible exact LeO.refl _)
   | (with_reducible exact LeO.none _)
   | (with_reducible refine LeO.ite ?_ ?_)
   | (with_reducible refine LeO.bind ?_ (fun _ => ?_))
   | exact ih0 _ _ _ _
   | exact ih1 _ _ _ _ _
   | exact ih2 _ _ _ _ _ _ _ _ _ _ _
   | exact LeO.none _
   | refine LeO.ite ?_ ?_
   | refine LeO.bind ?_ (fun _ => ?_)
  ·
   intro y0 y1 y2 y3 y4
   unfold spec_l06Tree.l1
   repeat' first
   | (with_reducible exact ih0 _ _ _ _)
   | (with_reducible exact ih1 _ _ _ _ _)
   | (with_reducible exact ih2 _ _ _ _ _ _ _ _ _ _ _)
   | (with_reducible exact LeO.refl _)
   | (with_reducible exact LeO.none _)
   | (with_reducible refine LeO.ite ?_ ?_)
   | (with_reducible refine LeO.bind ?_ (fun _ => ?_))
   | exact ih0 _ _ _ _
   | exact ih1 _ _ _ _ _
   | exact ih2 _ _ _ _ _ _ _ _ _ _ _
   | exact LeO.none _
   | refine LeO.ite ?_ ?_
   | refine LeO.bind ?_ (fun _ => ?_)
  ·
   intro y0 y1 y2 y3 y4 y5 y6 y7 y8 y9 y10
   unfold spec_l06Tree.l2
   repeat' first
   | (with_reducible exact ih0 _ _ _ _)
   | (with_reducible exact ih1 _ _ _ _ _)
   | (with_reducible exact ih2 _ _ _ _ _ _ _ _ _ _ _)
   | (with_reducible exact LeO.refl _)
   | (with_reducible exact LeO.none _)
   | (with_reducible refine LeO.ite ?_ ?_)
   | (with_reducible refine LeO.bind ?_ (fun _ => ?_))
   | exact ih0 _ _ _ _
   | exact ih1 _ _ _ _ _
   | exact ih2 _ _ _ _ _ _ _ _ _ _ _
   | exact LeO.none _
   | refine LeO.ite ?_ ?_
   | refine LeO.bind ?_ (fun _ => ?_)
theorem spec_l06Tree.mono : ∀ a0 a1 k, LeO (spec_l06Tree.f k a0 a1) (spec_l06Tree.f (k + 1) a0 a1) := by
 intro a0 a1 k
 obtain ⟨ih0, ih1, ih2⟩ := spec_l06Tree.mono_l k
 unfold spec_l06Tree.f
 repeat' first
   | (with_reducible exact ih0 _ _ _ _)
   | (with_reducible exact ih1 _ _ _ _ _)
   | (with_reducible exact ih2 _ _ _ _ _ _ _ _ _ _ _)
   | (with_reducible exact LeO.refl _)
   | (with_reducible exact LeO.none _)
   | (with_reducible refine LeO.ite ?_ ?_)
   | (with_reducible refine LeO.bind ?_ (fun _ => ?_))
   | exact ih0 _ _ _ _
   | exact ih1 _ _ _ _ _
   | exact ih2 _ _ _ _ _ _ _ _ _ _ _
   | exact LeO.none _
   | refine LeO.ite ?_ ?_
   | refine LeO.bind ?_ (fun _ => ?_)
def spec_l06Tree.T10 : Bool × List (List Nat × List Nat) := (true, [([], []), ([0], [0]), ([1], [1]), ([2], [2]), ([], []), ([], []), ([4, 5], [4, 5]), ([6], [6]), ([3, 7], [3, 7]), ([8], [8]), ([], []), ([10, 9, 0, 1, 2, 3, 4, 5, 6, 7, 8, 9, 10], [9, 10])])
def spec_l06Tree.B10 : List Nat := [0, 1, 3, 7, 0, 0, 48, 112, 255, 511, 0, 2047]
theorem spec_l06Tree.tab10 : rtab .any (opsOf Try.f96 10) = spec_l06Tree.T10 := by kernel_rfl
theorem spec_l06Tree.bits10 : waitsOk spec_l06Tree.T10.2 spec_l06Tree.B10 = true := by kernel_rfl
set_option maxHeartbeats 8000000 in
set_option maxRecDepth 100000 in
theorem spec_l06Tree.calls (k : Nat) (A0 : Option Addr) (c0 : Nat) (l0 : List (S34)) (A1 : Option Addr) (c1 : Nat) (l1 : List Int) (r : List (S89)) (w : World) (hr0 : Kd.C k34 w A0 l0.length l0) (hc0 : l0.length ≤ c0) (hr1 : Kd.C (Kd.int .i16) w A1 l1.length l1) (hc1 : l1.length ≤ c1) (h : spec_l06Tree.f k l0 l1 = some r) :
  Calls Try.prog 96 #[.pointer A0, .slice A1 l1.length c1] w fun e w' => ∃ v0_ : Value, e = .returned (.agg #[v0_]) ∧ Kd.R k89 89 w' w.heap.size (fun _ => True) v0_ r ∧ Below w.heap.size w w' := by
 have hu34 := Try.underlying34
 have hu89 := Try.underlying89
 have HR0 := A_ hr0
 have HC0 := A_ hc0
 clear hr0 hc0
 have HR1 := A_ hr1
 have HC1 := A_ hc1
 clear hr1 hc1
 have HB := A_ (Below.refl w.heap.size w)
 have H : (if 0 < (l0.length : Int) then (if 0 ≤ (((rd_T34 l0 0).f0).length : Int) then (if ((((rd_T34 l0 0).f0).length : Int) : Int).toNat ≤ 140737488355328 then (spec_l06Tree.l0 k l0 l1 (List.replicate ((((rd_T34 l0 0).f0).length : Int) : Int).toNat 0) 0) else (none)) else (none)) else (none)) = some r := h
 clear h
 by_cases c3 : 0 < (l0.length : Int)
 ·
  rw [if_pos c3] at H
  have c3b0 := decide_eq_true c3
  have c3b1 : decide (0 < l0.length) = true := decide_eq_true (by omega)
  clear c3
  by_cases c4 : 0 ≤ (((rd_T34 l0 0).f0).length : Int)
  ·
   rw [if_pos c4] at H
   have c4b0 := eq_true c4
   have c4b1 := decide_eq_true c4
   clear c4
   by_cases c5 : ((((rd_T34 l0 0).f0).length : Int) : Int).toNat ≤ 140737488355328
   ·
    rw [if_pos c5] at H
    have c5b0 := eq_true c5
    have c5b1 := decide_eq_true c5
    clear c5
    obtain ⟨y191, hy191⟩ : ∃ y_ : List Int, y_ = (List.replicate ((((rd_T34 l0 0).f0).length : Int) : Int).toNat 0) := ⟨_, rfl⟩
    replace H : (spec_l06Tree.l0 k l0 l1 y191 0) = some r := by first | (rw [hy191]; with_reducible exact H) | (have H2_ := (Option.bind_some _ _).symm.trans H; rw [hy191]; with_reducible exact H2_) | (have H2_ := (Option.bind_some _ _).symm.trans H; with_reducible exact H2_) | with_reducible exact H | (rw [hy191]; exact H) | exact H
    have Ny191 := A_ hy191
    clear hy191
    have H' := A_ H
    clear H
    go_enter Try.func96, Try.ntmps96
    go_wp2_with (first | ((with_reducible refine gate_dst (N := 4) rfl ?_); refine box_event ?hg (N := 4) ?hd (cs := #[.slice none 0 0]) (t := 34) ?hr ?_; (case hd => rfl); (case hg => rfl); (case hr => first | (go_simp; done) | (go_simp; rfl)); intro gb189 hg w6 hbox hb; have _ := A_ (below_step z4_18_ hb); have _ := A_ (hbox); have _ := A_ ((by rw [hg]; exact (below_size z4_18_) : w.heap.size ≤ gb189)); have _ := A_ ((by rw [hg]; exact (below_size z4_18_) : w.heap.size ≤ gb189)); clear HB; rename_i HB BK189 GW189 GE189; clear hb hbox hg; have q190 : 0 < (l0.length : Int) := of_decide_eq_true (by assumption); obtain ⟨ad190, A190_0, c190_0, e190, hx190_0, hl190_0, hi190_0⟩ := rp_T34 HR0.out q190; cases e190; replace hx190_0 := cel HB.out hx190_0; have HR190_0 := A_ hi190_0; have HC190_0 := A_ hl190_0; clear hi190_0 hl190_0) | ((with_reducible refine gate_dst (N := 16) rfl ?_); refine Kd.R_make (Kd.int .i16) _ 85 rfl (N := 16) rfl 139 _ _ rfl (((rd_T34 l0 0).f0).length : Int) rfl rfl Try.underlying139 (.int .i16 0) 2 info85 rfl (by decide) (by omega) 0 (ok := fun _ => True) (okp := fun _ => True) rfl (fun _ hk => hk) trivial (of_decide_eq_true (by assumption)) (Nat.le_trans (Nat.mul_le_mul_right _ (of_decide_eq_true (by assumption) : (((rd_T34 l0 0).f0).length : Int).toNat ≤ 140737488355328)) (by omega)) (Below.refl _ _) (Nat.le_refl _) ?_; intro v192 w7 ho8 hb hg_ hnew_; clear hg_ hnew_; (first | rw [← Ny191.out] at ho8 | (simp only [Int.reduceToNat] at ho8; rw [← Ny191.out] at ho8)); have _ := A_ (Kd.R_lower ho8 (below_size z4_11_)); have _ := A_ (blk_below (g := gb189) (o := .cells #[.slice none 0 0] 34 (0, 0)) z4_9_ hb); have _ := A_ (below_step z4_11_ hb); clear BK189 HB; rename_i HO193 BK189 HB; clear hb ho8))
    go_loopg [6] k (fun kq v6 w' => ∃ (x5_1 : List Int) (x6_1 : Int), v6 = .int .i64 x6_1 ∧ Aside0 (spec_l06Tree.l0 kq l0 l1 x5_1 x6_1 = some r) ∧ Aside0 (kq ≤ k) ∧ Aside0 (Kd.R (Kd.int .i16) 85 w' w.heap.size (fun _ => True) v192 x5_1) ∧ Aside0 (w'.heap[gb189]? = some (.cells #[(.slice none 0 0)] 34 (0, 0))) ∧ Aside0 (Below w.heap.size w w'))
    case atStart => exact ⟨(y191), (0), z4_10_, H', ⟨Nat.le_refl _⟩, ⟨(by (with_reducible repeat (first | apply Kd.R_alloc | apply Kd.R_drewN | apply Kd.R_drew)); exact HO193.out)⟩, ⟨z4_9_⟩, ⟨z4_11_⟩⟩
    case round =>
     clear H'
     try clear c1
     try clear q1
     try clear hx1
     try clear p2
     try clear c3
     try clear c3b0
     try clear c3b1
     try clear c4
     try clear c4b0
     try clear c4b1
     try clear c5
     try clear c5b0
     try clear c5b1
     try clear hx190_0
     try clear q190
     obtain ⟨x5_1, x6_1, rfl, HA, HK1, HO_5, BK189, HB⟩ := hrel
     cases gk with
     | zero => exact absurd HA.out (by simp [spec_l06Tree.l0])
     | succ k1 =>
      have H := HA.out
      clear HA
      simp only [spec_l06Tree.l0] at H
      by_cases c9 : x6_1 < (l1.length : Int)
      ·
       rw [if_pos c9] at H
       have c9b0 := decide_eq_true c9
       clear c9
       by_cases c10 : 0 ≤ x6_1
       ·
        rw [if_pos c10] at H
        have c10b0 := decide_eq_true c10
        clear c10
        by_cases c11 : 0 ≤ (rd l1 x6_1)
        ·
         rw [if_pos c11] at H
         have c11b0 := decide_eq_true c11
         clear c11
         by_cases c12 : (rd l1 x6_1) < (x5_1.length : Int)
         ·
          rw [if_pos c12] at H
          have c12b0 := decide_eq_true c12
          clear c12
          obtain ⟨y195, hy195⟩ : ∃ y_ : List Int, y_ = (x5_1.set ((rd l1 x6_1) : Int).toNat (IntKind.i16.wrap (x6_1))) := ⟨_, rfl⟩
          replace H : (spec_l06Tree.l0 k1 l0 l1 y195 (wrap64 (x6_1 + 1))) = some r := by first | (rw [hy195]; with_reducible exact H) | (have H2_ := (Option.bind_some _ _).symm.trans H; rw [hy195]; with_reducible exact H2_) | (have H2_ := (Option.bind_some _ _).symm.trans H; with_reducible exact H2_) | with_reducible exact H | (rw [hy195]; exact H) | exact H
          have Ny195 := A_ hy195
          clear hy195
          have H' := A_ H
          clear H
          have p194 : 0 ≤ (x6_1 : Int) := of_decide_eq_true (by assumption)
          have q194 : x6_1 < (l1.length : Int) := of_decide_eq_true (by assumption)
          obtain ⟨ad194, e194, hx194_0⟩ := Kd.at_int HR1.out x6_1 p194 q194
          cases e194
          replace hx194_0 := cel HB.out hx194_0
          replace p194 := eq_true p194
          replace q194 := eq_true q194
          have p13 : 0 ≤ ((rd l1 x6_1) : Int) := of_decide_eq_true (by assumption)
          have q13 : ((rd l1 x6_1) : Int) < ((x5_1.length : Int) : Int) := of_decide_eq_true (by assumption)
          obtain ⟨go13, co13, eo13, gb13, gl13, cl13, HG13⟩ := Kd.R_form HO_5.out (by omega)
          (first | cases eo13 | (injection eo13 with ea_ en_ ec_; (first | subst ea_ | (injection ea_ with ea_; subst ea_)); subst ec_; clear en_))
          have GB13 := A_ gb13
          have GG13 := A_ HG13
          clear gb13 gl13 HG13
          obtain ⟨hx13_0, hf13_0⟩ := Kd.R_celln 0 HO_5.out ((rd l1 x6_1) : Int) p13 q13
          replace p13 := eq_true p13
          replace q13 := eq_true q13
          have HP14 := Kd.R_putg HO_5.out ((rd l1 x6_1) : Int) (IntKind.i16.wrap (x6_1))
          go_wp2_with (first | ((with_reducible refine gate_store (t := 85) (p := 30) rfl ?_); refine store_event (t := 85) (p := 30) (v := ?vo_w15) (w1 := (wr.setCell ⟨go13, ((rd l1 x6_1) : Int).toNat, none⟩ (.int .i16 (IntKind.i16.wrap (x6_1))))) ?hg ?ho ?hn ?hr ?_; (case ho => rfl); (case hg => rfl); (case hn => rfl); (case hr => first | (go_simp; done) | (go_simp; rfl)); intro w15 hw; have hg : wr.grownBy w15 (some go13) := (by rw [hw]; exact HP14.2); have hp_ : Kd.R (Kd.int .i16) 85 w15 w.heap.size (fun _ => True) (.slice (some ⟨go13, 0, none⟩) x5_1.length co13) y195 := (by rw [hw, Ny195.out]; exact HP14.1); clear HP14; have _ := A_ (hp_); have _ := A_ (blk_grown (g := gb189) (o := .cells #[.slice none 0 0] 34 (0, 0)) z4_9_ hg (Kd.R_ne HO_5.out BK189.out (by decide))); have _ := A_ ((by rw [hw]; exact below_set (HB.out) GB13.out : Below w.heap.size w w15)); clear HO_5 BK189 HB; rename_i HO_5 BK189 HB; clear hg hw hp_))
          go_roundg k1
          case measure => have := HK1.out; omega
          case rel => exact ⟨(y195), (wrap64 (x6_1 + 1)), z4_10_, H', ⟨(by have := HK1.out; omega)⟩, ⟨z4_15_⟩, ⟨z4_9_⟩, ⟨z4_11_⟩⟩
         ·
          rw [if_neg c12] at H
          exact absurd H (by simp)
        ·
         rw [if_neg c11] at H
         exact absurd H (by simp)
       ·
        rw [if_neg c10] at H
        exact absurd H (by simp)
      ·
       rw [if_neg c9] at H
       have c9b0 := decide_eq_false c9
       clear c9
       have H' := A_ H
       clear H
       go_wp2_with (first | ((with_reducible refine gate_dst (N := 7) rfl ?_); refine box_event ?hg (N := 7) ?hd (cs := #[.slice none 0 0]) (t := 34) ?hr ?_; (case hd => rfl); (case hg => rfl); (case hr => first | (go_simp; done) | (go_simp; rfl)); intro gb196 hg w16 hbox hb; have _ := A_ (Kd.R_below z4_15_ hb); have _ := A_ (blk_below (g := gb189) (o := .cells #[.slice none 0 0] 34 (0, 0)) z4_9_ hb); have _ := A_ (below_step z4_11_ hb); have _ := A_ (hbox); have _ := A_ ((by rw [hg]; exact (below_size z4_11_) : w.heap.size ≤ gb196)); have _ := A_ ((by rw [hg]; exact (below_size z4_11_) : w.heap.size ≤ gb196)); have _ := A_ ((by rw [hg]; exact Nat.ne_of_lt (blk_lt (g := gb189) (o := .cells #[.slice none 0 0] 34 (0, 0)) z4_9_) : gb189 ≠ gb196)); have _ := A_ ((by rw [hg]; exact Nat.ne_of_gt (blk_lt (g := gb189) (o := .cells #[.slice none 0 0] 34 (0, 0)) z4_9_) : gb196 ≠ gb189)); clear HO_5 BK189 HB; rename_i HO_5 BK189 HB BK196 GW196 GE196 NB189_196 NB196_189; clear hb hbox hg; have hnb17 := NB196_189.out; have hnc17 := NB189_196.out; have hcz18_0 : w16.cell? ⟨gb196, 0, none⟩ = some (.slice none 0 0) := (blk_cell BK196.out 0).trans rfl; have hfz18_0 := blk_frozen BK196.out 0))
       go_loopg [8] k1 (fun kq v8 w' => ∃ (x8_2 : Int) (x197000_2 : List (S89)) (u197000 : Value), v8 = .int .i64 x8_2 ∧ Aside0 (spec_l06Tree.l1 kq l0 l1 x5_1 x8_2 x197000_2 = some r) ∧ Aside0 (kq ≤ k1) ∧ Aside0 (Kd.R (Kd.int .i16) 85 w' w.heap.size (fun _ => True) v192 x5_1) ∧ Aside0 (Kd.R k89 89 w' w.heap.size (fun _ => True) u197000 x197000_2) ∧ Aside0 (w'.heap[gb189]? = some (.cells #[(.slice none 0 0)] 34 (0, 0))) ∧ Aside0 (w'.heap[gb196]? = some (.cells #[u197000] 34 (0, 0))) ∧ Aside0 (Below w.heap.size w w'))
       case atStart => exact ⟨(0), (([] : List (S89))), (.slice none 0 0), z4_10_, H', ⟨Nat.le_refl _⟩, ⟨(by (with_reducible repeat (first | apply Kd.R_alloc | apply Kd.R_drewN | apply Kd.R_drew)); exact Kd.R_mono (Kd.R_far (p := ⟨gb196, 0, none⟩) (Kd.R_types HO_5.out BK196.out (by decide)) (fun _ hk => hk.2) (.slice none 0 0)) (fun _ hk => trivial))⟩, ⟨(by first | exact Kd.R_nil _ _ _ _ _ | exact Kd.N_nil _ _ _ _ _ | exact Kd.V_nil _ _ _ _ _ | exact Kd.Q_nil _ _ _ _ _ | exact Kd.S_nil _ _ _ _ _)⟩, ⟨z4_19_⟩, ⟨(by (with_reducible repeat (first | refine blk_drewN ?_ _ | refine blk_drew ?_ | refine blk_alloc ?_ _)); refine blk_put (cs := #[.slice none 0 0]) ?_ 0 _ rfl; (with_reducible repeat (first | refine blk_drewN ?_ _ | refine blk_drew ?_ | refine blk_alloc ?_ _)); exact BK196.out)⟩, ⟨z4_12_⟩⟩
       case round =>
        clear H'
        try clear c1
        try clear p1
        try clear q1
        try clear hx1
        try clear p2
        try clear c3
        try clear c3b0
        try clear c3b1
        try clear c4
        try clear c4b0
        try clear c4b1
        try clear c5
        try clear c5b0
        try clear c5b1
        try clear p6
        try clear c9
        try clear c9b0
        try clear c10
        try clear c10b0
        try clear c11
        try clear c11b0
        try clear c12
        try clear c12b0
        try clear p13
        try clear q13
        try clear hx13
        try clear hf13
        try clear c17
        try clear hcz18_0
        try clear hfz18_0
        try clear hx13_0
        try clear hx190_0
        try clear hx194_0
        try clear p13
        try clear p194
        try clear p2
        try clear q1
        try clear q13
        try clear q190
        try clear q194
        obtain ⟨x8_2, x197000_2, u197000, rfl, HA, HK2, HO_5, HO_197000, BK189, BK196, HB⟩ := hrel
        cases gk with
        | zero => exact absurd HA.out (by simp [spec_l06Tree.l1])
        | succ k2 =>
         have H := HA.out
         clear HA
         simp only [spec_l06Tree.l1] at H
         by_cases c19 : x8_2 < (l1.length : Int)
         ·
          rw [if_pos c19] at H
          have c19b0 := decide_eq_true c19
          clear c19
          by_cases c20 : 0 < (l0.length : Int)
          ·
           rw [if_pos c20] at H
           have c20b0 := decide_eq_true c20
           have c20b1 : decide (0 < l0.length) = true := decide_eq_true (by omega)
           clear c20
           by_cases c21 : 0 ≤ x8_2
           ·
            rw [if_pos c21] at H
            have c21b0 := decide_eq_true c21
            clear c21
            by_cases c22 : 0 ≤ (rd l1 x8_2)
            ·
             rw [if_pos c22] at H
             have c22b0 := decide_eq_true c22
             clear c22
             by_cases c23 : (rd l1 x8_2) < (((rd_T34 l0 0).f0).length : Int)
             ·
              rw [if_pos c23] at H
              have c23b0 := decide_eq_true c23
              clear c23
              have H' := A_ H
              clear H
              try go_wp2
              have _ := A_ (Kd.R_drew HO_5.out)
              have _ := A_ (Kd.R_drew HO_197000.out)
              have _ := A_ (blk_drew BK189.out)
              have _ := A_ (blk_drew BK196.out)
              have _ := A_ (below_drew1 HB.out)
              clear HO_5 HO_197000 BK189 BK196 HB
              rename_i HO_5 HO_197000 BK189 BK196 HB
              have q197 : 0 < (l0.length : Int) := of_decide_eq_true (by assumption)
              obtain ⟨ad197, A197_0, c197_0, e197, hx197_0, hl197_0, hi197_0⟩ := rp_T34 HR0.out q197
              have hw197_0 := hx197_0
              obtain rfl : ad190 = ad197 := (by injection e197)
              replace hx197_0 := cel HB.out hx197_0
              have HR197_0 := A_ hi197_0
              have HC197_0 := A_ hl197_0
              clear hi197_0 hl197_0
              have p198 : 0 ≤ (x8_2 : Int) := of_decide_eq_true (by assumption)
              have q198 : x8_2 < (l1.length : Int) := of_decide_eq_true (by assumption)
              obtain ⟨ad198, e198, hx198_0⟩ := Kd.at_int HR1.out x8_2 p198 q198
              have hw198_0 := hx198_0
              cases e198
              replace hx198_0 := cel HB.out hx198_0
              replace p198 := eq_true p198
              replace q198 := eq_true q198
              have p199 : 0 ≤ ((rd l1 x8_2) : Int) := of_decide_eq_true (by assumption)
              have q199 : (rd l1 x8_2) < (((rd_T34 l0 0).f0).length : Int) := of_decide_eq_true (by assumption)
              obtain ⟨ad199, e199, hx199_0, hx199_1, hx199_2, hx199_3, hx199_4⟩ := at_T89 HR197_0.out (rd l1 x8_2) p199 q199
              have hw199_4 := hx199_4
              have hw199_3 := hx199_3
              have hw199_2 := hx199_2
              have hw199_1 := hx199_1
              have hw199_0 := hx199_0
              cases e199
              replace hx199_0 := cel HB.out hx199_0
              replace hx199_1 := cel HB.out hx199_1
              replace hx199_2 := cel HB.out hx199_2
              replace hx199_3 := cel HB.out hx199_3
              replace hx199_4 := cel HB.out hx199_4
              replace p199 := eq_true p199
              replace q199 := eq_true q199
              refine start_ (n := 12) (S := fun w' => w'.cell? ad190 = some (.slice (some ad199) ((rd_T34 l0 0).f0).length c197_0) ∧ w'.cell? (ad198.add (x8_2).toNat) = some (.int .i16 (rd l1 x8_2)) ∧ w'.cell? (ad199.add (((rd l1 x8_2)).toNat * 5)) = some (.int .i8 ((rd_T89 ((rd_T34 l0 0).f0) (rd l1 x8_2)).f0)) ∧ w'.cell? ⟨(ad199.add (((rd l1 x8_2)).toNat * 5)).block, (ad199.add (((rd l1 x8_2)).toNat * 5)).off + 1, none⟩ = some (.int .i8 ((rd_T89 ((rd_T34 l0 0).f0) (rd l1 x8_2)).f1)) ∧ w'.cell? ⟨(ad199.add (((rd l1 x8_2)).toNat * 5)).block, (ad199.add (((rd l1 x8_2)).toNat * 5)).off + 2, none⟩ = some (.int .i16 ((rd_T89 ((rd_T34 l0 0).f0) (rd l1 x8_2)).f2.f0)) ∧ w'.cell? ⟨(ad199.add (((rd l1 x8_2)).toNat * 5)).block, (ad199.add (((rd l1 x8_2)).toNat * 5)).off + 3, none⟩ = some (.int .i16 ((rd_T89 ((rd_T34 l0 0).f0) (rd l1 x8_2)).f2.f1)) ∧ w'.cell? ⟨(ad199.add (((rd l1 x8_2)).toNat * 5)).block, (ad199.add (((rd l1 x8_2)).toNat * 5)).off + 4, none⟩ = some (.int .i16 ((rd_T89 ((rd_T34 l0 0).f0) (rd l1 x8_2)).f2.f2))) (ds := []) #[false, false, false, false, false, false, false, false, false, false, false, false] (by kernel_rfl) rfl rfl ⟨(cel HB.out hw197_0 :), (cel HB.out hw198_0 :), (cel HB.out hw199_0 :), (cel HB.out hw199_1 :), (cel HB.out hw199_2 :), (cel HB.out hw199_3 :), (cel HB.out hw199_4 :)⟩ (fun hHeld => ?_); refine with_tabW spec_l06Tree.tab10 spec_l06Tree.bits10 (fun HT_ HW_ => ?_)
              generalize wr.drew = w24 at HO_5 HO_197000 BK189 BK196 HB HR197_0 hx197_0 hx198_0 hx199_0 hx199_1 hx199_2 hx199_3 hx199_4 hHeld ⊢
              refine pure_ (i := 0) (N := some 38) (v := ?_) (a' := ?_) #[true, false, false, false, false, false, false, false, false, false, false, false] rfl rfl (any_of HT_.out (by kernel_rfl)) (fun _ _ _ h => h) (Or.inl ⟨by rfl, ?_⟩) ?_ ?_
              rotate_left
              ·
               intro w'
               go_simp
               with_reducible rfl
              rotate_left
              ·
               simp only [Act.put, sA_, sB_, sC_, i64_w, i32_w]
               rfl
              refine pure_ (i := 1) (N := some 39) (v := ?_) (a' := ?_) #[true, true, false, false, false, false, false, false, false, false, false, false] rfl rfl (any_of HT_.out (by kernel_rfl)) (fun _ _ _ h => h) (Or.inl ⟨by rfl, ?_⟩) ?_ ?_
              rotate_left
              ·
               intro w'
               go_simp
               with_reducible rfl
              rotate_left
              ·
               simp only [Act.put, sA_, sB_, sC_, i64_w, i32_w]
               rfl
              refine pure_ (i := 2) (N := some 40) (v := ?_) (a' := ?_) #[true, true, true, false, false, false, false, false, false, false, false, false] rfl rfl (any_of HT_.out (by kernel_rfl)) (fun _ _ _ h => h) (Or.inl ⟨by rfl, ?_⟩) ?_ ?_
              rotate_left
              ·
               intro w'
               go_simp
               with_reducible rfl
              rotate_left
              ·
               simp only [Act.put, sA_, sB_, sC_, i64_w, i32_w]
               rfl
              refine pure_ (i := 4) (N := some 42) (v := ?_) (a' := ?_) #[true, true, true, false, true, false, false, false, false, false, false, false] rfl rfl (any_of HT_.out (by kernel_rfl)) (fun _ _ _ h => h) (Or.inl ⟨by rfl, ?_⟩) ?_ ?_
              rotate_left
              ·
               intro w'
               go_simp
               with_reducible rfl
              rotate_left
              ·
               simp only [Act.put, sA_, sB_, sC_, i64_w, i32_w]
               rfl
              refine pure_ (i := 5) (N := some 43) (v := ?_) (a' := ?_) #[true, true, true, false, true, true, false, false, false, false, false, false] rfl rfl (any_of HT_.out (by kernel_rfl)) (fun _ _ _ h => h) (Or.inl ⟨by rfl, ?_⟩) ?_ ?_
              rotate_left
              ·
               intro w'
               go_simp
               with_reducible rfl
              rotate_left
              ·
               simp only [Act.put, sA_, sB_, sC_, i64_w, i32_w]
               rfl
              refine pure_ (i := 6) (N := some 44) (v := ?_) (a' := ?_) #[true, true, true, false, true, true, true, false, false, false, false, false] rfl rfl (any_of HT_.out (by kernel_rfl)) (fun _ _ _ h => h) (Or.inl ⟨by rfl, ?_⟩) ?_ ?_
              rotate_left
              ·
               intro w'
               go_simp
               with_reducible rfl
              rotate_left
              ·
               simp only [Act.put, sA_, sB_, sC_, i64_w, i32_w]
               rfl
              refine take_ (i := 3) (N := some 41) (v := ?_) (a' := ?_) #[true, true, true, true, true, true, true, false, false, false, false, false] rfl rfl (take_ofW HT_.out HW_.out (by kernel_rfl)) (fun _ _ _ h => h) (Or.inl ⟨by rfl, ?_⟩) hHeld ?_ ?_
              rotate_left
              ·
               rintro w' ⟨s0, s1, s2, s3, s4, s5, s6⟩
               go_simp
               with_reducible rfl
              rotate_left
              ·
               simp only [Act.put, sA_, sB_, sC_, i64_w, i32_w]
               rfl
              refine take_ (i := 7) (N := some 45) (v := ?_) (a' := ?_) #[true, true, true, true, true, true, true, true, false, false, false, false] rfl rfl (take_ofW HT_.out HW_.out (by kernel_rfl)) (fun _ _ _ h => h) (Or.inl ⟨by rfl, ?_⟩) hHeld ?_ ?_
              rotate_left
              ·
               rintro w' ⟨s0, s1, s2, s3, s4, s5, s6⟩
               go_simp
               with_reducible rfl
              rotate_left
              ·
               simp only [Act.put, sA_, sB_, sC_, i64_w, i32_w]
               rfl
              refine pure_ (i := 8) (N := some 46) (v := ?_) (a' := ?_) #[true, true, true, true, true, true, true, true, true, false, false, false] rfl rfl (any_of HT_.out (by kernel_rfl)) (fun _ _ _ h => h) (Or.inl ⟨by rfl, ?_⟩) ?_ ?_
              rotate_left
              ·
               intro w'
               go_simp
               with_reducible rfl
              rotate_left
              ·
               simp only [Act.put, sA_, sB_, sC_, i64_w, i32_w]
               rfl
              refine take_ (i := 9) (N := some 47) (v := ?_) (a' := ?_) #[true, true, true, true, true, true, true, true, true, true, false, false] rfl rfl (take_ofW HT_.out HW_.out (by kernel_rfl)) (fun _ _ _ h => h) (Or.inl ⟨by rfl, ?_⟩) hHeld ?_ ?_
              rotate_left
              ·
               rintro w' ⟨s0, s1, s2, s3, s4, s5, s6⟩
               go_simp
               with_reducible rfl
              rotate_left
              ·
               simp only [Act.put, sA_, sB_, sC_, i64_w, i32_w]
               rfl
              refine one_ (i := 10) (N := some 9) #[true, true, true, true, true, true, true, true, true, true, true, false] rfl rfl (one_of HT_.out (by kernel_rfl)) (by decide) (fun K hK => ?_)
              refine box_step ?hg (N := 9) ?hd (cs := #[.int .i8 0, .int .i8 0, .int .i16 0, .int .i16 0, .int .i16 0]) (t := 89) ?hr ?_; (case hd => rfl); (case hg => rfl); (case hr => first | (go_simp; done) | (go_simp; rfl))
              intro gb200 hg w25 hbox hb
              have _ := A_ (Kd.R_below z4_15_ hb)
              have _ := A_ (Kd.R_below (Kd.R_elderB z4_17_ gb200 (Nat.le_of_eq hg.symm)) hb)
              have _ := A_ (blk_below (g := gb189) (o := .cells #[.slice none 0 0] 34 (0, 0)) z4_9_ hb)
              have _ := A_ (blk_below (g := gb196) (o := .cells #[u197000] 34 (0, 0)) z4_14_ hb)
              have _ := A_ (below_step z4_12_ hb)
              have _ := A_ (hbox)
              have _ := A_ ((by rw [hg]; exact (below_size z4_12_) : w.heap.size ≤ gb200))
              have _ := A_ ((by rw [hg]; exact (below_size z4_12_) : w.heap.size ≤ gb200))
              have _ := A_ ((by rw [hg]; exact Nat.ne_of_lt (blk_lt (g := gb189) (o := .cells #[.slice none 0 0] 34 (0, 0)) z4_9_) : gb189 ≠ gb200))
              have _ := A_ ((by rw [hg]; exact Nat.ne_of_gt (blk_lt (g := gb189) (o := .cells #[.slice none 0 0] 34 (0, 0)) z4_9_) : gb200 ≠ gb189))
              have _ := A_ ((by rw [hg]; exact Nat.ne_of_lt (blk_lt (g := gb196) (o := .cells #[u197000] 34 (0, 0)) z4_14_) : gb196 ≠ gb200))
              have _ := A_ ((by rw [hg]; exact Nat.ne_of_gt (blk_lt (g := gb196) (o := .cells #[u197000] 34 (0, 0)) z4_14_) : gb200 ≠ gb196))
              clear HO_5 HO_197000 BK189 BK196 HB
              rename_i HO_5 HO_197000 BK189 BK196 HB BK200 GW200 GE200 NB189_200 NB200_189 NB196_200 NB200_196
              clear hb hbox hg
              refine hK.out _ _ ⟨(cel HB.out hw197_0 :), (cel HB.out hw198_0 :), (cel HB.out hw199_0 :), (cel HB.out hw199_1 :), (cel HB.out hw199_2 :), (cel HB.out hw199_3 :), (cel HB.out hw199_4 :)⟩ (fun hHeld => ?_)
              clear hK K
              refine norm_ (a' := ?_) ?_ ?_
              rotate_left
              ·
               show Act.put _ (some 9) _ = _
               simp only [Act.put, sA_, sB_, sC_, i64_w, i32_w]
               rfl
              refine one_ (i := 11) (N := none) #[true, true, true, true, true, true, true, true, true, true, true, true] rfl rfl (one_of HT_.out (by kernel_rfl)) (by decide) (fun K hK => ?_)
              have hs26 : w25.cell? ⟨gb200, 0, none⟩ = some (.int .i8 0) := (blk_cell BK200.out 0).trans rfl
              have hfs26 := blk_frozen BK200.out 0
              have hns26_0 := NB189_200.out
              have hns26_1 := NB196_200.out
              have hms26_0 := NB200_189.out
              have hms26_1 := NB200_196.out
              have hs27 : w25.cell? ⟨gb200, 1, none⟩ = some (.int .i8 0) := (blk_cell BK200.out 1).trans rfl
              have hfs27 := blk_frozen BK200.out 1
              have hns27_0 := NB189_200.out
              have hns27_1 := NB196_200.out
              have hms27_0 := NB200_189.out
              have hms27_1 := NB200_196.out
              have hs28 : w25.cell? ⟨gb200, 2, none⟩ = some (.int .i16 0) := (blk_cell BK200.out 2).trans rfl
              have hfs28 := blk_frozen BK200.out 2
              have hns28_0 := NB189_200.out
              have hns28_1 := NB196_200.out
              have hms28_0 := NB200_189.out
              have hms28_1 := NB200_196.out
              have hs29 : w25.cell? ⟨gb200, 3, none⟩ = some (.int .i16 0) := (blk_cell BK200.out 3).trans rfl
              have hfs29 := blk_frozen BK200.out 3
              have hns29_0 := NB189_200.out
              have hns29_1 := NB196_200.out
              have hms29_0 := NB200_189.out
              have hms29_1 := NB200_196.out
              have hs30 : w25.cell? ⟨gb200, 4, none⟩ = some (.int .i16 0) := (blk_cell BK200.out 4).trans rfl
              have hfs30 := blk_frozen BK200.out 4
              have hns30_0 := NB189_200.out
              have hns30_1 := NB196_200.out
              have hms30_0 := NB200_189.out
              have hms30_1 := NB200_196.out
              refine skip_ (w1 := ?_) (by rfl) rfl ?_ ?_
              rotate_left
              ·
               go_simp
               rfl
              refine hK.out _ _ ⟨((cell_far (p := ⟨gb200, _, none⟩) z4_7_ _).trans (((cell_far (p := ⟨gb200, _, none⟩) z4_7_ _).trans (((cell_far (p := ⟨gb200, _, none⟩) z4_7_ _).trans (((cell_far (p := ⟨gb200, _, none⟩) z4_7_ _).trans (((cell_far (p := ⟨gb200, _, none⟩) z4_7_ _).trans (hHeld.1)))))))))), ((cell_far (p := ⟨gb200, _, none⟩) z4_6_ _).trans (((cell_far (p := ⟨gb200, _, none⟩) z4_6_ _).trans (((cell_far (p := ⟨gb200, _, none⟩) z4_6_ _).trans (((cell_far (p := ⟨gb200, _, none⟩) z4_6_ _).trans (((cell_far (p := ⟨gb200, _, none⟩) z4_6_ _).trans (hHeld.2.1)))))))))), ((cell_far (p := ⟨gb200, _, none⟩) z4_5_ _).trans (((cell_far (p := ⟨gb200, _, none⟩) z4_5_ _).trans (((cell_far (p := ⟨gb200, _, none⟩) z4_5_ _).trans (((cell_far (p := ⟨gb200, _, none⟩) z4_5_ _).trans (((cell_far (p := ⟨gb200, _, none⟩) z4_5_ _).trans (hHeld.2.2.1)))))))))), ((cell_far (p := ⟨gb200, _, none⟩) z4_4_ _).trans (((cell_far (p := ⟨gb200, _, none⟩) z4_4_ _).trans (((cell_far (p := ⟨gb200, _, none⟩) z4_4_ _).trans (((cell_far (p := ⟨gb200, _, none⟩) z4_4_ _).trans (((cell_far (p := ⟨gb200, _, none⟩) z4_4_ _).trans (hHeld.2.2.2.1)))))))))), ((cell_far (p := ⟨gb200, _, none⟩) z4_3_ _).trans (((cell_far (p := ⟨gb200, _, none⟩) z4_3_ _).trans (((cell_far (p := ⟨gb200, _, none⟩) z4_3_ _).trans (((cell_far (p := ⟨gb200, _, none⟩) z4_3_ _).trans (((cell_far (p := ⟨gb200, _, none⟩) z4_3_ _).trans (hHeld.2.2.2.2.1)))))))))), ((cell_far (p := ⟨gb200, _, none⟩) z4_2_ _).trans (((cell_far (p := ⟨gb200, _, none⟩) z4_2_ _).trans (((cell_far (p := ⟨gb200, _, none⟩) z4_2_ _).trans (((cell_far (p := ⟨gb200, _, none⟩) z4_2_ _).trans (((cell_far (p := ⟨gb200, _, none⟩) z4_2_ _).trans (hHeld.2.2.2.2.2.1)))))))))), ((cell_far (p := ⟨gb200, _, none⟩) z4_1_ _).trans (((cell_far (p := ⟨gb200, _, none⟩) z4_1_ _).trans (((cell_far (p := ⟨gb200, _, none⟩) z4_1_ _).trans (((cell_far (p := ⟨gb200, _, none⟩) z4_1_ _).trans (((cell_far (p := ⟨gb200, _, none⟩) z4_1_ _).trans (hHeld.2.2.2.2.2.2))))))))))⟩ (fun hHeld => ?_)
              clear hK K
              refine done_ (done_of HT_.out (by kernel_rfl)) ?_
              try go_wp2
              go_loopg [10] k2 (fun kq v10 w' => ∃ (x10_3 : Int) (x201002_3 : Int) (x201003_3 : Int) (x201004_3 : Int), v10 = .int .i64 x10_3 ∧ Aside0 (spec_l06Tree.l2 kq l0 l1 x5_1 x8_2 x10_3 x197000_2 ((rd_T89 ((rd_T34 l0 0).f0) (rd l1 x8_2)).f0) ((rd_T89 ((rd_T34 l0 0).f0) (rd l1 x8_2)).f1) x201002_3 x201003_3 x201004_3 = some r) ∧ Aside0 (kq ≤ k2) ∧ Aside0 (Kd.R (Kd.int .i16) 85 w' w.heap.size (fun _ => True) v192 x5_1) ∧ Aside0 (Kd.R k89 89 w' w.heap.size (fun k_ => k_ ≠ gb200) u197000 x197000_2) ∧ Aside0 (w'.heap[gb189]? = some (.cells #[(.slice none 0 0)] 34 (0, 0))) ∧ Aside0 (w'.heap[gb196]? = some (.cells #[u197000] 34 (0, 0))) ∧ Aside0 (w'.heap[gb200]? = some (.cells #[.int .i8 ((rd_T89 ((rd_T34 l0 0).f0) (rd l1 x8_2)).f0), .int .i8 ((rd_T89 ((rd_T34 l0 0).f0) (rd l1 x8_2)).f1), .int .i16 x201002_3, .int .i16 x201003_3, .int .i16 x201004_3] 89 (0, 0))) ∧ Aside0 (Below w.heap.size w w'))
              case atStart => exact ⟨(0), ((rd_T89 ((rd_T34 l0 0).f0) (rd l1 x8_2)).f2.f0), ((rd_T89 ((rd_T34 l0 0).f0) (rd l1 x8_2)).f2.f1), ((rd_T89 ((rd_T34 l0 0).f0) (rd l1 x8_2)).f2.f2), z4_10_, H', ⟨Nat.le_refl _⟩, ⟨(by (with_reducible repeat (first | apply Kd.R_alloc | apply Kd.R_drewN | apply Kd.R_drew)); exact Kd.R_mono (Kd.R_far (p := ⟨gb200, 4, none⟩) (Kd.R_far (p := ⟨gb200, 3, none⟩) (Kd.R_far (p := ⟨gb200, 2, none⟩) (Kd.R_far (p := ⟨gb200, 1, none⟩) (Kd.R_far (p := ⟨gb200, 0, none⟩) (Kd.R_types HO_5.out BK200.out (by decide)) (fun _ hk => hk.2) (.int .i8 ((rd_T89 ((rd_T34 l0 0).f0) (rd l1 x8_2)).f0))) (fun _ hk => hk.2) (.int .i8 ((rd_T89 ((rd_T34 l0 0).f0) (rd l1 x8_2)).f1))) (fun _ hk => hk.2) (.int .i16 ((rd_T89 ((rd_T34 l0 0).f0) (rd l1 x8_2)).f2.f0))) (fun _ hk => hk.2) (.int .i16 ((rd_T89 ((rd_T34 l0 0).f0) (rd l1 x8_2)).f2.f1))) (fun _ hk => hk.2) (.int .i16 ((rd_T89 ((rd_T34 l0 0).f0) (rd l1 x8_2)).f2.f2))) (fun _ hk => trivial))⟩, ⟨(by (with_reducible repeat (first | apply Kd.R_alloc | apply Kd.R_drewN | apply Kd.R_drew)); exact Kd.R_mono (Kd.R_far (p := ⟨gb200, 4, none⟩) (Kd.R_far (p := ⟨gb200, 3, none⟩) (Kd.R_far (p := ⟨gb200, 2, none⟩) (Kd.R_far (p := ⟨gb200, 1, none⟩) (Kd.R_far (p := ⟨gb200, 0, none⟩) (Kd.R_mono HO_197000.out (fun k_ hk => (⟨hk, hk.2⟩ : _ ∧ k_ ≠ gb200))) (fun _ hk => hk.2) (.int .i8 ((rd_T89 ((rd_T34 l0 0).f0) (rd l1 x8_2)).f0))) (fun _ hk => hk.2) (.int .i8 ((rd_T89 ((rd_T34 l0 0).f0) (rd l1 x8_2)).f1))) (fun _ hk => hk.2) (.int .i16 ((rd_T89 ((rd_T34 l0 0).f0) (rd l1 x8_2)).f2.f0))) (fun _ hk => hk.2) (.int .i16 ((rd_T89 ((rd_T34 l0 0).f0) (rd l1 x8_2)).f2.f1))) (fun _ hk => hk.2) (.int .i16 ((rd_T89 ((rd_T34 l0 0).f0) (rd l1 x8_2)).f2.f2))) (fun _ hk => hk.1.2))⟩, ⟨(by (with_reducible repeat (first | refine blk_drewN ?_ _ | refine blk_drew ?_ | refine blk_alloc ?_ _)); refine blk_far ?_ NB189_200.out _; (with_reducible repeat (first | refine blk_drewN ?_ _ | refine blk_drew ?_ | refine blk_alloc ?_ _)); refine blk_far ?_ NB189_200.out _; (with_reducible repeat (first | refine blk_drewN ?_ _ | refine blk_drew ?_ | refine blk_alloc ?_ _)); refine blk_far ?_ NB189_200.out _; (with_reducible repeat (first | refine blk_drewN ?_ _ | refine blk_drew ?_ | refine blk_alloc ?_ _)); refine blk_far ?_ NB189_200.out _; (with_reducible repeat (first | refine blk_drewN ?_ _ | refine blk_drew ?_ | refine blk_alloc ?_ _)); refine blk_far ?_ NB189_200.out _; (with_reducible repeat (first | refine blk_drewN ?_ _ | refine blk_drew ?_ | refine blk_alloc ?_ _)); exact BK189.out)⟩, ⟨(by (with_reducible repeat (first | refine blk_drewN ?_ _ | refine blk_drew ?_ | refine blk_alloc ?_ _)); refine blk_far ?_ NB196_200.out _; (with_reducible repeat (first | refine blk_drewN ?_ _ | refine blk_drew ?_ | refine blk_alloc ?_ _)); refine blk_far ?_ NB196_200.out _; (with_reducible repeat (first | refine blk_drewN ?_ _ | refine blk_drew ?_ | refine blk_alloc ?_ _)); refine blk_far ?_ NB196_200.out _; (with_reducible repeat (first | refine blk_drewN ?_ _ | refine blk_drew ?_ | refine blk_alloc ?_ _)); refine blk_far ?_ NB196_200.out _; (with_reducible repeat (first | refine blk_drewN ?_ _ | refine blk_drew ?_ | refine blk_alloc ?_ _)); refine blk_far ?_ NB196_200.out _; (with_reducible repeat (first | refine blk_drewN ?_ _ | refine blk_drew ?_ | refine blk_alloc ?_ _)); exact BK196.out)⟩, ⟨(by (with_reducible repeat (first | refine blk_drewN ?_ _ | refine blk_drew ?_ | refine blk_alloc ?_ _)); refine blk_put (cs := #[.int .i8 ((rd_T89 ((rd_T34 l0 0).f0) (rd l1 x8_2)).f0), .int .i8 ((rd_T89 ((rd_T34 l0 0).f0) (rd l1 x8_2)).f1), .int .i16 ((rd_T89 ((rd_T34 l0 0).f0) (rd l1 x8_2)).f2.f0), .int .i16 ((rd_T89 ((rd_T34 l0 0).f0) (rd l1 x8_2)).f2.f1), .int .i16 0]) ?_ 4 _ rfl; (with_reducible repeat (first | refine blk_drewN ?_ _ | refine blk_drew ?_ | refine blk_alloc ?_ _)); refine blk_put (cs := #[.int .i8 ((rd_T89 ((rd_T34 l0 0).f0) (rd l1 x8_2)).f0), .int .i8 ((rd_T89 ((rd_T34 l0 0).f0) (rd l1 x8_2)).f1), .int .i16 ((rd_T89 ((rd_T34 l0 0).f0) (rd l1 x8_2)).f2.f0), .int .i16 0, .int .i16 0]) ?_ 3 _ rfl; (with_reducible repeat (first | refine blk_drewN ?_ _ | refine blk_drew ?_ | refine blk_alloc ?_ _)); refine blk_put (cs := #[.int .i8 ((rd_T89 ((rd_T34 l0 0).f0) (rd l1 x8_2)).f0), .int .i8 ((rd_T89 ((rd_T34 l0 0).f0) (rd l1 x8_2)).f1), .int .i16 0, .int .i16 0, .int .i16 0]) ?_ 2 _ rfl; (with_reducible repeat (first | refine blk_drewN ?_ _ | refine blk_drew ?_ | refine blk_alloc ?_ _)); refine blk_put (cs := #[.int .i8 ((rd_T89 ((rd_T34 l0 0).f0) (rd l1 x8_2)).f0), .int .i8 0, .int .i16 0, .int .i16 0, .int .i16 0]) ?_ 1 _ rfl; (with_reducible repeat (first | refine blk_drewN ?_ _ | refine blk_drew ?_ | refine blk_alloc ?_ _)); refine blk_put (cs := #[.int .i8 0, .int .i8 0, .int .i16 0, .int .i16 0, .int .i16 0]) ?_ 0 _ rfl; (with_reducible repeat (first | refine blk_drewN ?_ _ | refine blk_drew ?_ | refine blk_alloc ?_ _)); exact BK200.out)⟩, ⟨z4_8_⟩⟩
              case round =>
               clear H'
               try clear c1
               try clear p1
               try clear q1
               try clear hx1
               try clear c2
               try clear p2
               try clear c3
               try clear c3b0
               try clear c3b1
               try clear c4
               try clear c4b0
               try clear c4b1
               try clear c5
               try clear c5b0
               try clear c5b1
               try clear p6
               try clear c9
               try clear c9b0
               try clear c10
               try clear c10b0
               try clear c11
               try clear c11b0
               try clear c12
               try clear c12b0
               try clear p13
               try clear q13
               try clear hx13
               try clear hf13
               try clear c17
               try clear c19
               try clear c19b0
               try clear p19
               try clear q19
               try clear hx19
               try clear c20
               try clear c20b0
               try clear c20b1
               try clear c21
               try clear c21b0
               try clear c22
               try clear c22b0
               try clear c23
               try clear c23b0
               try clear hcz18_0
               try clear hfz18_0
               try clear hx13_0
               try clear hx190_0
               try clear hx194_0
               try clear hx197_0
               try clear hx198_0
               try clear hx199_0
               try clear hx199_1
               try clear hx199_2
               try clear hx199_3
               try clear hx199_4
               try clear p1
               try clear p13
               try clear p194
               try clear p198
               try clear p199
               try clear p2
               try clear p6
               try clear q1
               try clear q13
               try clear q190
               try clear q194
               try clear q197
               try clear q198
               try clear q199
               obtain ⟨x10_3, x201002_3, x201003_3, x201004_3, rfl, HA, HK3, HO_5, HO_197000, BK189, BK196, BK200, HB⟩ := hrel
               cases gk with
               | zero => exact absurd HA.out (by simp [spec_l06Tree.l2])
               | succ k3 =>
                have H := HA.out
                clear HA
                simp only [spec_l06Tree.l2] at H
                replace H := Option.bind_eq_some_iff.mp H
                obtain ⟨t202, A310, H⟩ := H
                try dsimp only at H
                have A31 := A_ A310
                clear A310
                by_cases c32 : x10_3 < t202
                ·
                 rw [if_pos c32] at H
                 have c32b0 := decide_eq_true c32
                 clear c32
                 by_cases c33 : 0 ≤ x10_3
                 ·
                  rw [if_pos c33] at H
                  have c33b0 := decide_eq_true c33
                  clear c33
                  by_cases c34 : x10_3 < 3
                  ·
                   rw [if_pos c34] at H
                   have c34b0 := decide_eq_true c34
                   clear c34
                   by_cases c35 : 0 ≤ (rd [x201002_3, x201003_3, x201004_3] x10_3)
                   ·
                    rw [if_pos c35] at H
                    have c35b0 := decide_eq_true c35
                    clear c35
                    by_cases c36 : (rd [x201002_3, x201003_3, x201004_3] x10_3) < (x5_1.length : Int)
                    ·
                     rw [if_pos c36] at H
                     have c36b0 := decide_eq_true c36
                     clear c36
                     have H' := A_ H
                     clear H
                     go_wp2_with (first | ((with_reducible refine gate_callee (f := 68) rfl ?_); refine goesL_ (some 49) rfl rfl Try.func68 (by kernel_rfl) rfl #[.pointer (some ⟨gb200, 0, none⟩)] rfl z4_20_ ?_; (with_reducible refine (spec_l06Ways.calls _ ([(⟨((rd_T89 ((rd_T34 l0 0).f0) (rd l1 x8_2)).f0), ((rd_T89 ((rd_T34 l0 0).f0) (rd l1 x8_2)).f1), (⟨x201002_3, x201003_3, x201004_3⟩ : S87)⟩ : S89)]).length [(⟨((rd_T89 ((rd_T34 l0 0).f0) (rd l1 x8_2)).f0), ((rd_T89 ((rd_T34 l0 0).f0) (rd l1 x8_2)).f1), (⟨x201002_3, x201003_3, x201004_3⟩ : S87)⟩ : S89)] t202 _ ?side1 ?side2 A31.out).mono ?_); (case side1 => refine Kd.C_block k89 (g := gb200) (cs := #[.int .i8 ((rd_T89 ((rd_T34 l0 0).f0) (rd l1 x8_2)).f0), .int .i8 ((rd_T89 ((rd_T34 l0 0).f0) (rd l1 x8_2)).f1), .int .i16 x201002_3, .int .i16 x201003_3, .int .i16 x201004_3]) (T := 89) z4_13_ (show Kd.K k89 _ (⟨((rd_T89 ((rd_T34 l0 0).f0) (rd l1 x8_2)).f0), ((rd_T89 ((rd_T34 l0 0).f0) (rd l1 x8_2)).f1), (⟨x201002_3, x201003_3, x201004_3⟩ : S87)⟩ : S89) [.int .i8 ((rd_T89 ((rd_T34 l0 0).f0) (rd l1 x8_2)).f0), .int .i8 ((rd_T89 ((rd_T34 l0 0).f0) (rd l1 x8_2)).f1), .int .i16 x201002_3, .int .i16 x201003_3, .int .i16 x201004_3] from k89_mk _ _) (by decide)); (case side2 => exact Nat.le_refl _); rintro e w' ⟨rfl, ⟨nd, rfl⟩⟩; refine ⟨_, rfl, ?_⟩; (try (rw [drewN_self wr]; generalize hq_ : World.drewN wr _ = wr; have n0_ : Aside0 (Kd.R k89 89 wr w.heap.size (fun k_ => k_ ≠ gb200) u197000 x197000_2) := ⟨(by rw [← hq_]; exact z4_17_)⟩; have n1_ : Aside0 (Kd.R (Kd.int .i16) 85 wr w.heap.size (fun _ => True) v192 x5_1) := ⟨(by rw [← hq_]; exact z4_15_)⟩; have n2_ : Aside0 (wr.heap[gb189]? = some (.cells #[.slice none 0 0] 34 (0, 0))) := ⟨(by rw [← hq_]; exact z4_9_)⟩; have n3_ : Aside0 (wr.heap[gb196]? = some (.cells #[u197000] 34 (0, 0))) := ⟨(by rw [← hq_]; exact z4_14_)⟩; have n4_ : Aside0 (wr.heap[gb200]? = some (.cells #[.int .i8 ((rd_T89 ((rd_T34 l0 0).f0) (rd l1 x8_2)).f0), .int .i8 ((rd_T89 ((rd_T34 l0 0).f0) (rd l1 x8_2)).f1), .int .i16 x201002_3, .int .i16 x201003_3, .int .i16 x201004_3] 89 (0, 0))) := ⟨(by rw [← hq_]; exact z4_13_)⟩; have n5_ : Aside0 (Below w.heap.size w wr) := ⟨(by rw [← hq_]; exact z4_8_)⟩; clear HO_197000 HO_5 BK189 BK196 BK200 HB hq_; have HO_197000 := n0_; have HO_5 := n1_; have BK189 := n2_; have BK196 := n3_; have BK200 := n4_; have HB := n5_; clear n0_ n1_ n2_ n3_ n4_ n5_)); have p203 : 0 ≤ (x10_3 : Int) := of_decide_eq_true (by assumption); have q203 : (x10_3 : Int) < 3 := of_decide_eq_true (by assumption); have hx203_0 := blk_arr (xs := [x201002_3, x201003_3, x201004_3]) (k := .i16) BK200.out 2 rfl x10_3 p203 q203; (try simp only [Nat.zero_add] at hx203_0); replace p203 := eq_true p203; replace q203 := eq_true q203; obtain ⟨Ao37, co37, eo37⟩ := Kd.R_slice HO_5.out; subst eo37; have p204 : 0 ≤ ((rd [x201002_3, x201003_3, x201004_3] x10_3) : Int) := of_decide_eq_true (by assumption); have q204 : (rd [x201002_3, x201003_3, x201004_3] x10_3) < (x5_1.length : Int) := of_decide_eq_true (by assumption); obtain ⟨ad204, e204, hx204_0⟩ := Kd.at_int (Kd.R_reads' HO_5.out).2.2 (rd [x201002_3, x201003_3, x201004_3] x10_3) p204 q204; cases e204; replace p204 := eq_true p204; replace q204 := eq_true q204; have p205 : 0 ≤ (x10_3 : Int) := of_decide_eq_true (by assumption); have q205 : (x10_3 : Int) < 3 := of_decide_eq_true (by assumption); have hx205_0 := blk_arr (xs := [x201002_3, x201003_3, x201004_3]) (k := .i16) BK200.out 2 rfl x10_3 p205 q205; have hf205_0 := blk_frozen BK200.out (2 + (x10_3 : Int).toNat); have hcs205 := A_ (show (x10_3 : Int) = 0 ∨ (x10_3 : Int) = 1 ∨ (x10_3 : Int) = 2 by omega); (try simp only [Nat.zero_add] at hx205_0); (try simp only [Nat.zero_add] at hf205_0); replace p205 := eq_true p205; replace q205 := eq_true q205) | ((with_reducible refine gate_store (t := 85) (p := 62) rfl ?_); refine store_event (t := 85) (p := 62) (v := ?vo_w38) (w1 := (wr.setCell ⟨gb200, 2 + (x10_3 : Int).toNat, none⟩ (.int .i16 (rd x5_1 (rd [x201002_3, x201003_3, x201004_3] x10_3))))) ?hg ?ho ?hn ?hr ?_; (case ho => rfl); (case hg => rfl); (case hn => rfl); (case hr => first | (go_simp; done) | (go_simp; rfl)); intro w38 hw; have n0_ : Aside0 (Kd.R (Kd.int .i16) 85 w38 w.heap.size (fun _ => True) (.slice (some ad204) x5_1.length co37) x5_1) := ⟨(by rw [hw]; exact (by (with_reducible repeat (first | apply Kd.R_alloc | apply Kd.R_drewN | apply Kd.R_drew)); exact Kd.R_mono (Kd.R_far (p := ⟨gb200, 2 + (x10_3 : Int).toNat, none⟩) (Kd.R_types HO_5.out BK200.out (by decide)) (fun _ hk => hk.2) (.int .i16 (rd x5_1 (rd [x201002_3, x201003_3, x201004_3] x10_3)))) (fun _ hk => trivial)))⟩; have n1_ : Aside0 (Kd.R k89 89 w38 w.heap.size (fun k_ => k_ ≠ gb200) u197000 x197000_2) := ⟨(by rw [hw]; exact (by (with_reducible repeat (first | apply Kd.R_alloc | apply Kd.R_drewN | apply Kd.R_drew)); exact Kd.R_mono (Kd.R_far (p := ⟨gb200, 2 + (x10_3 : Int).toNat, none⟩) (Kd.R_mono HO_197000.out (fun k_ hk => (⟨hk, hk⟩ : _ ∧ k_ ≠ gb200))) (fun _ hk => hk.2) (.int .i16 (rd x5_1 (rd [x201002_3, x201003_3, x201004_3] x10_3)))) (fun _ hk => hk.1)))⟩; have n2_ : Aside0 (w38.heap[gb189]? = some (.cells #[.slice none 0 0] 34 (0, 0))) := ⟨(by rw [hw]; exact (by (with_reducible repeat (first | refine blk_drewN ?_ _ | refine blk_drew ?_ | refine blk_alloc ?_ _)); refine blk_far ?_ NB189_200.out _; (with_reducible repeat (first | refine blk_drewN ?_ _ | refine blk_drew ?_ | refine blk_alloc ?_ _)); exact BK189.out))⟩; have n3_ : Aside0 (w38.heap[gb196]? = some (.cells #[u197000] 34 (0, 0))) := ⟨(by rw [hw]; exact (by (with_reducible repeat (first | refine blk_drewN ?_ _ | refine blk_drew ?_ | refine blk_alloc ?_ _)); refine blk_far ?_ NB196_200.out _; (with_reducible repeat (first | refine blk_drewN ?_ _ | refine blk_drew ?_ | refine blk_alloc ?_ _)); exact BK196.out))⟩; have n4_ : Aside0 (w38.heap[gb200]? = some (.cells #[.int .i8 ((rd_T89 ((rd_T34 l0 0).f0) (rd l1 x8_2)).f0), .int .i8 ((rd_T89 ((rd_T34 l0 0).f0) (rd l1 x8_2)).f1), .int .i16 (up 0 x10_3 (rd x5_1 (rd [x201002_3, x201003_3, x201004_3] x10_3)) x201002_3), .int .i16 (up 1 x10_3 (rd x5_1 (rd [x201002_3, x201003_3, x201004_3] x10_3)) x201003_3), .int .i16 (up 2 x10_3 (rd x5_1 (rd [x201002_3, x201003_3, x201004_3] x10_3)) x201004_3)] 89 (0, 0))) := ⟨(by rw [hw]; exact (by (with_reducible repeat (first | refine blk_drewN ?_ _ | refine blk_drew ?_ | refine blk_alloc ?_ _)); refine blk_put (cs := #[.int .i8 ((rd_T89 ((rd_T34 l0 0).f0) (rd l1 x8_2)).f0), .int .i8 ((rd_T89 ((rd_T34 l0 0).f0) (rd l1 x8_2)).f1), .int .i16 x201002_3, .int .i16 x201003_3, .int .i16 x201004_3]) ?_ (2 + (x10_3 : Int).toNat) _ (by rcases hcs205.out with h_ | h_ | h_ <;> rw [h_] <;> rfl); (with_reducible repeat (first | refine blk_drewN ?_ _ | refine blk_drew ?_ | refine blk_alloc ?_ _)); exact BK200.out))⟩; have n5_ : Aside0 (Below w.heap.size w w38) := ⟨(by rw [hw]; exact z4_8_)⟩; clear hw; clear HO_5; clear HO_197000; clear BK189; clear BK196; clear BK200; clear HB; have HO_5 := n0_; have HO_197000 := n1_; have BK189 := n2_; have BK196 := n3_; have BK200 := n4_; have HB := n5_; clear n0_ n1_ n2_ n3_ n4_ n5_))
                     go_roundg k3
                     case measure => have := HK1.out; have := HK2.out; have := HK3.out; omega
                     case rel => exact ⟨(wrap64 (x10_3 + 1)), (up 0 x10_3 (rd x5_1 (rd [x201002_3, x201003_3, x201004_3] x10_3)) x201002_3), (up 1 x10_3 (rd x5_1 (rd [x201002_3, x201003_3, x201004_3] x10_3)) x201003_3), (up 2 x10_3 (rd x5_1 (rd [x201002_3, x201003_3, x201004_3] x10_3)) x201004_3), z4_10_, H', ⟨(by have := HK1.out; have := HK2.out; have := HK3.out; omega)⟩, ⟨z4_15_⟩, ⟨z4_17_⟩, ⟨z4_9_⟩, ⟨z4_14_⟩, ⟨z4_13_⟩, ⟨z4_8_⟩⟩
                    ·
                     rw [if_neg c36] at H
                     exact absurd H (by simp)
                   ·
                    rw [if_neg c35] at H
                    exact absurd H (by simp)
                  ·
                   rw [if_neg c34] at H
                   exact absurd H (by simp)
                 ·
                  rw [if_neg c33] at H
                  exact absurd H (by simp)
                ·
                 rw [if_neg c32] at H
                 have c32b0 := decide_eq_false c32
                 clear c32
                 by_cases c39 : x197000_2.length < 17592186044416
                 ·
                  rw [if_pos c39] at H
                  have LMc39 := A_ c39
                  clear c39
                  obtain ⟨y206, hy206⟩ : ∃ y_ : List (S89), y_ = (x197000_2 ++ [(⟨((rd_T89 ((rd_T34 l0 0).f0) (rd l1 x8_2)).f0), ((rd_T89 ((rd_T34 l0 0).f0) (rd l1 x8_2)).f1), (⟨x201002_3, x201003_3, x201004_3⟩ : S87)⟩ : S89)]) := ⟨_, rfl⟩
                  replace H : (spec_l06Tree.l1 k3 l0 l1 x5_1 (wrap64 (x8_2 + 1)) y206) = some r := by first | (rw [hy206]; with_reducible exact H) | (have H2_ := (Option.bind_some _ _).symm.trans H; rw [hy206]; with_reducible exact H2_) | (have H2_ := (Option.bind_some _ _).symm.trans H; with_reducible exact H2_) | with_reducible exact H | (rw [hy206]; exact H) | exact H
                  have Ny206 := A_ hy206
                  clear hy206
                  have H' := A_ H
                  clear H
                  go_wp2_with (first | ((with_reducible refine gate_callee (f := 68) rfl ?_); refine goesL_ (some 49) rfl rfl Try.func68 (by kernel_rfl) rfl #[.pointer (some ⟨gb200, 0, none⟩)] rfl z4_20_ ?_; (with_reducible refine (spec_l06Ways.calls _ ([(⟨((rd_T89 ((rd_T34 l0 0).f0) (rd l1 x8_2)).f0), ((rd_T89 ((rd_T34 l0 0).f0) (rd l1 x8_2)).f1), (⟨x201002_3, x201003_3, x201004_3⟩ : S87)⟩ : S89)]).length [(⟨((rd_T89 ((rd_T34 l0 0).f0) (rd l1 x8_2)).f0), ((rd_T89 ((rd_T34 l0 0).f0) (rd l1 x8_2)).f1), (⟨x201002_3, x201003_3, x201004_3⟩ : S87)⟩ : S89)] t202 _ ?side1 ?side2 A31.out).mono ?_); (case side1 => refine Kd.C_block k89 (g := gb200) (cs := #[.int .i8 ((rd_T89 ((rd_T34 l0 0).f0) (rd l1 x8_2)).f0), .int .i8 ((rd_T89 ((rd_T34 l0 0).f0) (rd l1 x8_2)).f1), .int .i16 x201002_3, .int .i16 x201003_3, .int .i16 x201004_3]) (T := 89) z4_13_ (show Kd.K k89 _ (⟨((rd_T89 ((rd_T34 l0 0).f0) (rd l1 x8_2)).f0), ((rd_T89 ((rd_T34 l0 0).f0) (rd l1 x8_2)).f1), (⟨x201002_3, x201003_3, x201004_3⟩ : S87)⟩ : S89) [.int .i8 ((rd_T89 ((rd_T34 l0 0).f0) (rd l1 x8_2)).f0), .int .i8 ((rd_T89 ((rd_T34 l0 0).f0) (rd l1 x8_2)).f1), .int .i16 x201002_3, .int .i16 x201003_3, .int .i16 x201004_3] from k89_mk _ _) (by decide)); (case side2 => exact Nat.le_refl _); rintro e w' ⟨rfl, ⟨nd, rfl⟩⟩; refine ⟨_, rfl, ?_⟩; (try (rw [drewN_self wr]; generalize hq_ : World.drewN wr _ = wr; have n0_ : Aside0 (Kd.R k89 89 wr w.heap.size (fun k_ => k_ ≠ gb200) u197000 x197000_2) := ⟨(by rw [← hq_]; exact z4_17_)⟩; have n1_ : Aside0 (Kd.R (Kd.int .i16) 85 wr w.heap.size (fun _ => True) v192 x5_1) := ⟨(by rw [← hq_]; exact z4_15_)⟩; have n2_ : Aside0 (wr.heap[gb189]? = some (.cells #[.slice none 0 0] 34 (0, 0))) := ⟨(by rw [← hq_]; exact z4_9_)⟩; have n3_ : Aside0 (wr.heap[gb196]? = some (.cells #[u197000] 34 (0, 0))) := ⟨(by rw [← hq_]; exact z4_14_)⟩; have n4_ : Aside0 (wr.heap[gb200]? = some (.cells #[.int .i8 ((rd_T89 ((rd_T34 l0 0).f0) (rd l1 x8_2)).f0), .int .i8 ((rd_T89 ((rd_T34 l0 0).f0) (rd l1 x8_2)).f1), .int .i16 x201002_3, .int .i16 x201003_3, .int .i16 x201004_3] 89 (0, 0))) := ⟨(by rw [← hq_]; exact z4_13_)⟩; have n5_ : Aside0 (Below w.heap.size w wr) := ⟨(by rw [← hq_]; exact z4_8_)⟩; clear HO_197000 HO_5 BK189 BK196 BK200 HB hq_; have HO_197000 := n0_; have HO_5 := n1_; have BK189 := n2_; have BK196 := n3_; have BK200 := n4_; have HB := n5_; clear n0_ n1_ n2_ n3_ n4_ n5_)); have hnb40 := NB196_189.out; have hnc40 := NB189_196.out; have hnb41 := NB196_200.out; have hnc41 := NB200_196.out; have hcz42_0 : wr.cell? ⟨gb196, 0, none⟩ = some (u197000) := (blk_cell BK196.out 0).trans rfl; have hfz42_0 := blk_frozen BK196.out 0; have hnb43 := NB200_189.out; have hnc43 := NB189_200.out; obtain ⟨hcz44_0, hcz44_1, hcz44_2, hcz44_3, hcz44_4⟩ := bc5 BK200.out; obtain ⟨hfz44_0, hfz44_1, hfz44_2, hfz44_3, hfz44_4⟩ := bf5 BK200.out) | ((with_reducible refine gate_builtin (b := .append) (xs := #[.tmp 64, .tmp 66]) rfl ?_); at_builtin; refine Kd.R_append k89 (w0 := w) w.heap.size rfl (.tmp 64) (.tmp 66) 32 89 (.agg #[(.int .i8 0), (.int .i8 0), (.int .i16 0), (.int .i16 0), (.int .i16 0)]) 8 rfl Try.underlying32 info89 rfl (by decide) (by omega) u197000 x197000_2 (⟨((rd_T89 ((rd_T34 l0 0).f0) (rd l1 x8_2)).f0), ((rd_T89 ((rd_T34 l0 0).f0) (rd l1 x8_2)).f1), (⟨x201002_3, x201003_3, x201004_3⟩ : S87)⟩ : S89) [.int .i8 ((rd_T89 ((rd_T34 l0 0).f0) (rd l1 x8_2)).f0), .int .i8 ((rd_T89 ((rd_T34 l0 0).f0) (rd l1 x8_2)).f1), .int .i16 x201002_3, .int .i16 x201003_3, .int .i16 x201004_3] (fun k_ => k_ ≠ gb200) (fun _ => False) rfl rfl ?aP (fun _ hk => hk.elim) ?aF ?aO ?aB ?aS ?aL ?_; (case aP => exact k89_mkM _ _ _ (⟨((rd_T89 ((rd_T34 l0 0).f0) (rd l1 x8_2)).f0), ((rd_T89 ((rd_T34 l0 0).f0) (rd l1 x8_2)).f1), (⟨x201002_3, x201003_3, x201004_3⟩ : S87)⟩ : S89)); (case aB => exact z4_8_); (case aF => exact (fun k_ hk => Kd.freshB (g := gb200) (o := .cells #[.int .i8 ((rd_T89 ((rd_T34 l0 0).f0) (rd l1 x8_2)).f0), .int .i8 ((rd_T89 ((rd_T34 l0 0).f0) (rd l1 x8_2)).f1), .int .i16 x201002_3, .int .i16 x201003_3, .int .i16 x201004_3] 89 (0, 0)) z4_13_ k_ hk)); (case aO => exact z4_17_); (case aS => exact (below_size z4_8_)); (case aL => have := LMc39.out; omega); intro v207 w45 ho hb hg hat; rw [← Ny206.out] at ho; have _ := A_ (Kd.R_over' z4_15_ (Kd.R_typed z4_17_) (by decide) hg); have _ := A_ (blk_grown (g := gb189) (o := .cells #[.slice none 0 0] 34 (0, 0)) z4_9_ hg (Kd.R_ne HO_197000.out BK189.out (by decide))); have _ := A_ (blk_grown (g := gb196) (o := .cells #[u197000] 34 (0, 0)) z4_14_ hg (Kd.R_ne HO_197000.out BK196.out (by decide))); have _ := A_ (blk_grown (g := gb200) (o := .cells #[.int .i8 ((rd_T89 ((rd_T34 l0 0).f0) (rd l1 x8_2)).f0), .int .i8 ((rd_T89 ((rd_T34 l0 0).f0) (rd l1 x8_2)).f1), .int .i16 x201002_3, .int .i16 x201003_3, .int .i16 x201004_3] 89 (0, 0)) z4_13_ hg (Kd.R_away HO_197000.out (fun _ hk => hk))); have _ := A_ (hb); have _ := A_ (ho); clear HO_5 BK189 BK196 BK200 HB HO_197000; rename_i HO_5 BK189 BK196 BK200 HB HO208; clear ho hb hg hat; obtain ⟨Ao46, co46, eo46⟩ := Kd.R_slice HO208.out; subst eo46; have hcz47_0 : w45.cell? ⟨gb196, 0, none⟩ = some (u197000) := (blk_cell BK196.out 0).trans rfl; have hfz47_0 := blk_frozen BK196.out 0))
                  go_roundg k3
                  case measure => have := HK1.out; have := HK2.out; have := HK3.out; omega
                  case rel => exact ⟨(wrap64 (x8_2 + 1)), (y206), (.slice Ao46 y206.length co46), z4_10_, H', ⟨(by have := HK1.out; have := HK2.out; have := HK3.out; omega)⟩, ⟨(by (with_reducible repeat (first | apply Kd.R_alloc | apply Kd.R_drewN | apply Kd.R_drew)); exact Kd.R_mono (Kd.R_far (p := ⟨gb196, 0, none⟩) (Kd.R_types HO_5.out BK196.out (by decide)) (fun _ hk => hk.2) (.slice Ao46 y206.length co46)) (fun _ hk => trivial))⟩, ⟨(by (with_reducible repeat (first | apply Kd.R_alloc | apply Kd.R_drewN | apply Kd.R_drew)); exact Kd.R_mono (Kd.R_far (p := ⟨gb196, 0, none⟩) (Kd.R_types HO208.out BK196.out (by decide)) (fun _ hk => hk.2) (.slice Ao46 y206.length co46)) (fun _ hk => trivial))⟩, ⟨z4_19_⟩, ⟨(by (with_reducible repeat (first | refine blk_drewN ?_ _ | refine blk_drew ?_ | refine blk_alloc ?_ _)); refine blk_put (cs := #[u197000]) ?_ 0 _ rfl; (with_reducible repeat (first | refine blk_drewN ?_ _ | refine blk_drew ?_ | refine blk_alloc ?_ _)); exact BK196.out)⟩, ⟨z4_8_⟩⟩
                 ·
                  rw [if_neg c39] at H
                  exact absurd H (by simp)
             ·
              rw [if_neg c23] at H
              exact absurd H (by simp)
            ·
             rw [if_neg c22] at H
             exact absurd H (by simp)
           ·
            rw [if_neg c21] at H
            exact absurd H (by simp)
          ·
           rw [if_neg c20] at H
           exact absurd H (by simp)
         ·
          rw [if_neg c19] at H
          have c19b0 := decide_eq_false c19
          clear c19
          obtain rfl := Option.some.inj H
          have hnb48 := NB196_189.out
          have hnc48 := NB189_196.out
          have hcz49_0 : wr.cell? ⟨gb196, 0, none⟩ = some (u197000) := (blk_cell BK196.out 0).trans rfl
          have hfz49_0 := blk_frozen BK196.out 0
          obtain ⟨Ao50, co50, eo50⟩ := Kd.R_slice HO_197000.out
          subst eo50
          have hcz51_0 : wr.cell? ⟨gb189, 0, none⟩ = some (.slice none 0 0) := (blk_cell BK189.out 0).trans rfl
          have hfz51_0 := blk_frozen BK189.out 0
          go_wp2
          refine bodyPost_ret (results_cell_row rfl _ _ gb189 34 #[.slice Ao50 x197000_2.length co50] (0, 0) _ rfl (by (with_reducible repeat (first | refine blk_drewN ?_ _ | refine blk_drew ?_ | refine blk_alloc ?_ _)); refine blk_put (cs := #[.slice none 0 0]) ?_ 0 _ rfl; (with_reducible repeat (first | refine blk_drewN ?_ _ | refine blk_drew ?_ | refine blk_alloc ?_ _)); exact BK189.out) Try.underlying34 rfl (by kernel_rfl)) rfl ?_
          exact ⟨_, (by first | rfl | (simp [errW_none, errW_some] <;> rfl) | (simp [*, errW_none, errW_some] <;> rfl)), (by (with_reducible repeat (first | apply Kd.R_alloc | apply Kd.R_drewN | apply Kd.R_drew)); exact Kd.R_mono (Kd.R_far (p := ⟨gb189, 0, none⟩) (Kd.R_types HO_197000.out BK189.out (by decide)) (fun _ hk => hk.2) (.slice Ao50 x197000_2.length co50)) (fun _ hk => trivial)), z4_12_⟩
   ·
    rw [if_neg c5] at H
    exact absurd H (by simp)
  ·
   rw [if_neg c4] at H
   exact absurd H (by simp)
 ·
  rw [if_neg c3] at H
  exact absurd H (by simp)
/-! ### spec_l06Alike: function 121 -/
mutual
def spec_l06Alike.j0 : Nat → List Int → List (S89) → List (S89) → Bool → Option (Bool)
 | 0, _, _, _, _ => none
 | k + 1, x1, x9, x10, x43 => if x43 = true then (some false) else (spec_l06Alike.l0 k x1 x9 x10 0)
def spec_l06Alike.l0 : Nat → List Int → List (S89) → List (S89) → Int → Option (Bool)
 | 0, _, _, _, _ => none
 | k + 1, x1, x9, x10, x11 => (spec_l06Ways.f x9).bind fun t216 => (if x11 < t216 then (if 0 < (x9.length : Int) then (if 0 ≤ x11 then (if x11 < 3 then (if 0 ≤ (rd [(rd_T89 x9 0).f2.f0, (rd_T89 x9 0).f2.f1, (rd_T89 x9 0).f2.f2] x11) then (if (rd [(rd_T89 x9 0).f2.f0, (rd_T89 x9 0).f2.f1, (rd_T89 x9 0).f2.f2] x11) < (x1.length : Int) then (if 0 < (x10.length : Int) then (if 0 ≤ (rd [(rd_T89 x10 0).f2.f0, (rd_T89 x10 0).f2.f1, (rd_T89 x10 0).f2.f2] x11) then (if (rd [(rd_T89 x10 0).f2.f0, (rd_T89 x10 0).f2.f1, (rd_T89 x10 0).f2.f2] x11) < (x1.length : Int) then (if (rd x1 (rd [(rd_T89 x9 0).f2.f0, (rd_T89 x9 0).f2.f1, (rd_T89 x9 0).f2.f2] x11)) = (rd x1 (rd [(rd_T89 x10 0).f2.f0, (rd_T89 x10 0).f2.f1, (rd_T89 x10 0).f2.f2] x11)) then (spec_l06Alike.l0 k x1 x9 x10 (wrap64 (x11 + 1))) else (some false)) else (none)) else (none)) else (none)) else (none)) else (none)) else (none)) else (none)) else (none)) else (some true))
end
def spec_l06Alike.f (k : Nat) (l0 : List (S34)) (l1 : List Int) (a2 : Int) (a3 : Int) : Option (Bool) := if 0 < (l0.length : Int) then (if 0 ≤ a2 then (if a2 < (((rd_T34 l0 0).f0).length : Int) then (if 0 ≤ a3 then (if a3 < (((rd_T34 l0 0).f0).length : Int) then (if 0 < ([rd_T89 ((rd_T34 l0 0).f0) a2].length : Int) then (if 0 < ([rd_T89 ((rd_T34 l0 0).f0) a3].length : Int) then (if ((rd_T89 ((rd_T34 l0 0).f0) a2).f0) = ((rd_T89 ((rd_T34 l0 0).f0) a3).f0) then (spec_l06Alike.j0 k l1 [rd_T89 ((rd_T34 l0 0).f0) a2] [rd_T89 ((rd_T34 l0 0).f0) a3] (((rd_T89 ((rd_T34 l0 0).f0) a2).f1) != ((rd_T89 ((rd_T34 l0 0).f0) a3).f1))) else (spec_l06Alike.j0 k l1 [rd_T89 ((rd_T34 l0 0).f0) a2] [rd_T89 ((rd_T34 l0 0).f0) a3] true)) else (none)) else (none)) else (none)) else (none)) else (none)) else (none)) else (none)
theorem spec_l06Alike.mono_l : ∀ k, (∀ y0 y1 y2 y3, LeO (spec_l06Alike.j0 k y0 y1 y2 y3) (spec_l06Alike.j0 (k + 1) y0 y1 y2 y3)) ∧ (∀ y0 y1 y2 y3, LeO (spec_l06Alike.l0 k y0 y1 y2 y3) (spec_l06Alike.l0 (k + 1) y0 y1 y2 y3))
 | 0 => ⟨fun _ _ _ _ r h => by simp [spec_l06Alike.j0] at h, fun _ _ _ _ r h => by simp [spec_l06Alike.l0] at h⟩
 | k + 1 => by
  obtain ⟨ih0, ih1⟩ := spec_l06Alike.mono_l k
  refine ⟨?_, ?_⟩
  ·
   intro y0 y1 y2 y3
   unfold spec_l06Alike.j0
   repeat' first
   | (with_reducible exact ih0 _ _ _ _)
   | (with_reducible exact ih1 _ _ _ _)
   | (with_reducible exact LeO.refl _)
   | (with_reducible exact LeO.none _)
   | (with_reducible refine LeO.ite ?_ ?_)
   | (with_reducible refine LeO.bind ?_ (fun _ => ?_))
   | exact ih0 _ _ _ _
   | exact ih1 _ _ _ _
   | exact LeO.none _
   | refine LeO.ite ?_ ?_
   | refine LeO.bind ?_ (fun _ => ?_)
  ·
   intro y0 y1 y2 y3
   unfold spec_l06Alike.l0
   repeat' first
   | (with_reducible exact ih0 _ _ _ _)
   | (with_reducible exact ih1 _ _ _ _)
   | (with_reducible exact LeO.refl _)
   | (with_reducible exact LeO.none _)
   | (with_reducible refine LeO.ite ?_ ?_)
   | (with_reducible refine LeO.bind ?_ (fun _ => ?_))
   | exact ih0 _ _ _ _
   | exact ih1 _ _ _ _
   | exact LeO.none _
   | refine LeO.ite ?_ ?_
   | refine LeO.bind ?_ (fun _ => ?_)
theorem spec_l06Alike.mono : ∀ a0 a1 a2 a3 k, LeO (spec_l06Alike.f k a0 a1 a2 a3) (spec_l06Alike.f (k + 1) a0 a1 a2 a3) := by
 intro a0 a1 a2 a3 k
 obtain ⟨ih0, ih1⟩ := spec_l06Alike.mono_l k
 unfold spec_l06Alike.f
 repeat' first
   | (with_reducible exact ih0 _ _ _ _)
   | (with_reducible exact ih1 _ _ _ _)
   | (with_reducible exact LeO.refl _)
   | (with_reducible exact LeO.none _)
   | (with_reducible refine LeO.ite ?_ ?_)
   | (with_reducible refine LeO.bind ?_ (fun _ => ?_))
   | exact ih0 _ _ _ _
   | exact ih1 _ _ _ _
   | exact LeO.none _
   | refine LeO.ite ?_ ?_
   | refine LeO.bind ?_ (fun _ => ?_)
set_option maxHeartbeats 8000000 in
set_option maxRecDepth 100000 in
theorem spec_l06Alike.calls (k : Nat) (A0 : Option Addr) (c0 : Nat) (l0 : List (S34)) (A1 : Option Addr) (c1 : Nat) (l1 : List Int) (a2 : Int) (a3 : Int) (r : Bool) (w : World) (hr0 : Kd.C k34 w A0 l0.length l0) (hc0 : l0.length ≤ c0) (hr1 : Kd.C (Kd.int .i64) w A1 l1.length l1) (hc1 : l1.length ≤ c1) (h : spec_l06Alike.f k l0 l1 a2 a3 = some r) :
  Calls Try.prog 121 #[.pointer A0, .slice A1 l1.length c1, .int .i64 a2, .int .i64 a3] w fun e w' => e = .returned (.bool r) ∧ Drawn0 w w' := by
 have HR0 := A_ hr0
 have HC0 := A_ hc0
 clear hr0 hc0
 have HR1 := A_ hr1
 have HC1 := A_ hc1
 clear hr1 hc1
 have H : (if 0 < (l0.length : Int) then (if 0 ≤ a2 then (if a2 < (((rd_T34 l0 0).f0).length : Int) then (if 0 ≤ a3 then (if a3 < (((rd_T34 l0 0).f0).length : Int) then (if 0 < ([rd_T89 ((rd_T34 l0 0).f0) a2].length : Int) then (if 0 < ([rd_T89 ((rd_T34 l0 0).f0) a3].length : Int) then (if ((rd_T89 ((rd_T34 l0 0).f0) a2).f0) = ((rd_T89 ((rd_T34 l0 0).f0) a3).f0) then (spec_l06Alike.j0 k l1 [rd_T89 ((rd_T34 l0 0).f0) a2] [rd_T89 ((rd_T34 l0 0).f0) a3] (((rd_T89 ((rd_T34 l0 0).f0) a2).f1) != ((rd_T89 ((rd_T34 l0 0).f0) a3).f1))) else (spec_l06Alike.j0 k l1 [rd_T89 ((rd_T34 l0 0).f0) a2] [rd_T89 ((rd_T34 l0 0).f0) a3] true)) else (none)) else (none)) else (none)) else (none)) else (none)) else (none)) else (none)) = some r := h
 clear h
 by_cases c5 : 0 < (l0.length : Int)
 ·
  rw [if_pos c5] at H
  have c5b0 := decide_eq_true c5
  have c5b1 : decide (0 < l0.length) = true := decide_eq_true (by omega)
  clear c5
  by_cases c6 : 0 ≤ a2
  ·
   rw [if_pos c6] at H
   have c6b0 := decide_eq_true c6
   clear c6
   by_cases c7 : a2 < (((rd_T34 l0 0).f0).length : Int)
   ·
    rw [if_pos c7] at H
    have c7b0 := decide_eq_true c7
    clear c7
    by_cases c8 : 0 ≤ a3
    ·
     rw [if_pos c8] at H
     have c8b0 := decide_eq_true c8
     clear c8
     by_cases c9 : a3 < (((rd_T34 l0 0).f0).length : Int)
     ·
      rw [if_pos c9] at H
      have c9b0 := decide_eq_true c9
      clear c9
      have HC10 := A_ H
      clear H
      have q209 : 0 < (l0.length : Int) := of_decide_eq_true (by assumption)
      obtain ⟨ad209, A209_0, c209_0, e209, hx209_0, hl209_0, hi209_0⟩ := rp_T34 HR0.out q209
      cases e209
      have HR209_0 := A_ hi209_0
      have HC209_0 := A_ hl209_0
      clear hi209_0 hl209_0
      have p210 : 0 ≤ (a2 : Int) := of_decide_eq_true (by assumption)
      have q210 : a2 < (((rd_T34 l0 0).f0).length : Int) := of_decide_eq_true (by assumption)
      obtain ⟨ad210, e210, hx210_0, hx210_1, hx210_2, hx210_3, hx210_4⟩ := at_T89 HR209_0.out a2 p210 q210
      cases e210
      replace p210 := eq_true p210
      replace q210 := eq_true q210
      have HR211 := A_ (show Kd.C k89 w (some (Addr.add ad210 (a2.toNat * 5))) [rd_T89 ((rd_T34 l0 0).f0) a2].length [rd_T89 ((rd_T34 l0 0).f0) a2] from Kd.C_el k89 z89 HR209_0.out (a2 : Int) (of_eq_true p210) (of_eq_true q210))
      have p212 : 0 ≤ (a3 : Int) := of_decide_eq_true (by assumption)
      have q212 : a3 < (((rd_T34 l0 0).f0).length : Int) := of_decide_eq_true (by assumption)
      obtain ⟨ad212, e212, hx212_0, hx212_1, hx212_2, hx212_3, hx212_4⟩ := at_T89 HR209_0.out a3 p212 q212
      obtain rfl : ad210 = ad212 := (by injection e212)
      replace p212 := eq_true p212
      replace q212 := eq_true q212
      have HR213 := A_ (show Kd.C k89 w (some (Addr.add ad210 (a3.toNat * 5))) [rd_T89 ((rd_T34 l0 0).f0) a3].length [rd_T89 ((rd_T34 l0 0).f0) a3] from Kd.C_el k89 z89 HR209_0.out (a3 : Int) (of_eq_true p212) (of_eq_true q212))
      go_enter Try.func121, Try.ntmps121
      go_upto_region 3 with (fail)
      repeat (go_quiet (fail); go_upto_region 3 with (fail))
      go_cut [43] (fun v43 wc => ∃ (kq : Nat) (x43_9 : Bool), v43 = .bool x43_9 ∧ Aside0 (spec_l06Alike.j0 kq l1 [rd_T89 ((rd_T34 l0 0).f0) a2] [rd_T89 ((rd_T34 l0 0).f0) a3] x43_9 = some r) ∧ Aside0 (kq ≤ k) ∧ Drawn0 w wc)
      case first =>
       have H := HC10.out
       clear HC10
       by_cases c11 : 0 < ([rd_T89 ((rd_T34 l0 0).f0) a2].length : Int)
       ·
        rw [if_pos c11] at H
        have c11b0 := decide_eq_true c11
        have c11b1 : decide (0 < [rd_T89 ((rd_T34 l0 0).f0) a2].length) = true := decide_eq_true (by omega)
        clear c11
        (first | rw [c11b0] | (simp only [i64_w, i32_w]; rw [c11b0]) | skip)
        by_cases c12 : 0 < ([rd_T89 ((rd_T34 l0 0).f0) a3].length : Int)
        ·
         rw [if_pos c12] at H
         have c12b0 := decide_eq_true c12
         have c12b1 : decide (0 < [rd_T89 ((rd_T34 l0 0).f0) a3].length) = true := decide_eq_true (by omega)
         clear c12
         by_cases c13 : ((rd_T89 ((rd_T34 l0 0).f0) a2).f0) = ((rd_T89 ((rd_T34 l0 0).f0) a3).f0)
         ·
          rw [if_pos c13] at H
          have c13b0 := beq_iff_eq.mpr c13
          have c13b1 := bne_eq_false_iff_eq.mpr c13
          clear c13
          have H' := A_ H
          clear H
          have q214 : 0 < ([rd_T89 ((rd_T34 l0 0).f0) a2].length : Int) := of_decide_eq_true (by assumption)
          obtain ⟨ad214, e214, hx214_0, hx214_1, hx214_2, hx214_3, hx214_4⟩ := rp_T89 HR211.out q214
          (try simp only [rd1_T89] at hx214_0 hx214_1 hx214_2 hx214_3 hx214_4)
          obtain rfl : (Addr.add ad210 (a2.toNat * 5)) = ad214 := (by injection e214)
          have q215 : 0 < ([rd_T89 ((rd_T34 l0 0).f0) a3].length : Int) := of_decide_eq_true (by assumption)
          obtain ⟨ad215, e215, hx215_0, hx215_1, hx215_2, hx215_3, hx215_4⟩ := rp_T89 HR213.out q215
          (try simp only [rd1_T89] at hx215_0 hx215_1 hx215_2 hx215_3 hx215_4)
          obtain rfl : (Addr.add ad210 (a3.toNat * 5)) = ad215 := (by injection e215)
          go_wp2
          repeat (go_quiet (fail); try go_wp2)
          go_meet
          case rel => exact ⟨_, ((((rd_T89 ((rd_T34 l0 0).f0) a2).f1) != ((rd_T89 ((rd_T34 l0 0).f0) a3).f1))), z4_10_, H', ⟨(by first | omega | exact Nat.le_refl _)⟩, z4_16_⟩
         ·
          rw [if_neg c13] at H
          have c13b0 : (((rd_T89 ((rd_T34 l0 0).f0) a2).f0) == ((rd_T89 ((rd_T34 l0 0).f0) a3).f0)) = false := beq_eq_false_iff_ne.mpr c13
          have c13b1 : (((rd_T89 ((rd_T34 l0 0).f0) a2).f0) != ((rd_T89 ((rd_T34 l0 0).f0) a3).f0)) = true := bne_iff_ne.mpr c13
          have H' := A_ H
          clear H
          have q214 : 0 < ([rd_T89 ((rd_T34 l0 0).f0) a2].length : Int) := of_decide_eq_true (by assumption)
          obtain ⟨ad214, e214, hx214_0, hx214_1, hx214_2, hx214_3, hx214_4⟩ := rp_T89 HR211.out q214
          (try simp only [rd1_T89] at hx214_0 hx214_1 hx214_2 hx214_3 hx214_4)
          obtain rfl : (Addr.add ad210 (a2.toNat * 5)) = ad214 := (by injection e214)
          have q215 : 0 < ([rd_T89 ((rd_T34 l0 0).f0) a3].length : Int) := of_decide_eq_true (by assumption)
          obtain ⟨ad215, e215, hx215_0, hx215_1, hx215_2, hx215_3, hx215_4⟩ := rp_T89 HR213.out q215
          (try simp only [rd1_T89] at hx215_0 hx215_1 hx215_2 hx215_3 hx215_4)
          obtain rfl : (Addr.add ad210 (a3.toNat * 5)) = ad215 := (by injection e215)
          go_wp2
          repeat (go_quiet (fail); try go_wp2)
          go_meet
          case rel => exact ⟨_, (true), z4_10_, H', ⟨(by first | omega | exact Nat.le_refl _)⟩, z4_16_⟩
        ·
         rw [if_neg c12] at H
         exact absurd H (by simp)
       ·
        rw [if_neg c11] at H
        exact absurd H (by simp)
      case rest =>
       clear HC10
       try clear c1
       try clear c2
       try clear p2
       try clear q2
       try clear hx2
       try clear c5
       try clear c5b0
       try clear c5b1
       try clear c6
       try clear c6b0
       try clear c7
       try clear c7b0
       try clear c8
       try clear c8b0
       try clear c9
       try clear c9b0
       try clear c11
       try clear c11b0
       try clear c11b1
       try clear c12
       try clear c12b0
       try clear c12b1
       try clear c13
       try clear c13b0
       try clear c13b1
       try clear hx209_0
       try clear hx210_0
       try clear hx210_1
       try clear hx210_2
       try clear hx210_3
       try clear hx210_4
       try clear hx212_0
       try clear hx212_1
       try clear hx212_2
       try clear hx212_3
       try clear hx212_4
       try clear hx214_0
       try clear hx214_1
       try clear hx214_2
       try clear hx214_3
       try clear hx214_4
       try clear hx215_0
       try clear hx215_1
       try clear hx215_2
       try clear hx215_3
       try clear hx215_4
       try clear p210
       try clear p212
       try clear q209
       try clear q210
       try clear q212
       try clear q214
       try clear q215
       obtain ⟨kq, x43_9, rfl, HA, HJ9, ⟨mc9, rfl⟩⟩ := hcut
       cases kq with
       | zero => exact absurd HA.out (by simp [spec_l06Alike.j0])
       | succ kj9 =>
        have H := HA.out
        clear HA
        simp only [spec_l06Alike.j0] at H
        (repeat (first | rw [rd1_T89] at H))
        by_cases c14 : x43_9 = true
        ·
         subst c14
         have H1 := H; rw [if_pos rfl] at H1
         clear H
         have H := H1
         clear H1
         obtain rfl := Option.some.inj H
         go_wp2
         repeat (go_quiet (fail); try go_wp2)
         go_ret
         exact ⟨z4_10_, z4_16_⟩
        ·
         replace c14 := Bool.eq_false_iff.mpr c14
         subst c14
         have H1 := H; rw [if_neg (show ¬ (false = true) by decide)] at H1
         clear H
         have H := H1
         clear H1
         have H' := A_ H
         clear H
         go_wp2
         repeat (go_quiet (fail); try go_wp2)
         go_loopg [11] kj9 (fun kq v11 w' => ∃ (x11_2 : Int), v11 = .int .i64 x11_2 ∧ Aside0 (spec_l06Alike.l0 kq l1 [rd_T89 ((rd_T34 l0 0).f0) a2] [rd_T89 ((rd_T34 l0 0).f0) a3] x11_2 = some r) ∧ Aside0 (kq ≤ kj9) ∧ Drawn0 w w')
         case atStart => exact ⟨(0), z4_10_, H', ⟨Nat.le_refl _⟩, z4_16_⟩
         case round =>
          clear H'
          try clear c1
          try clear c2
          try clear p2
          try clear q2
          try clear hx2
          try clear c5
          try clear c5b0
          try clear c5b1
          try clear c6
          try clear c6b0
          try clear c7
          try clear c7b0
          try clear c8
          try clear c8b0
          try clear c9
          try clear c9b0
          try clear c11
          try clear c11b0
          try clear c11b1
          try clear c12
          try clear c12b0
          try clear c12b1
          try clear c13
          try clear c13b0
          try clear c13b1
          try clear c14
          try clear hx209_0
          try clear hx210_0
          try clear hx210_1
          try clear hx210_2
          try clear hx210_3
          try clear hx210_4
          try clear hx212_0
          try clear hx212_1
          try clear hx212_2
          try clear hx212_3
          try clear hx212_4
          try clear hx214_0
          try clear hx214_1
          try clear hx214_2
          try clear hx214_3
          try clear hx214_4
          try clear hx215_0
          try clear hx215_1
          try clear hx215_2
          try clear hx215_3
          try clear hx215_4
          try clear p2
          try clear p210
          try clear p212
          try clear q2
          try clear q209
          try clear q210
          try clear q212
          try clear q214
          try clear q215
          obtain ⟨x11_2, rfl, HA, HK2, ⟨m2, rfl⟩⟩ := hrel
          cases gk with
          | zero => exact absurd HA.out (by simp [spec_l06Alike.l0])
          | succ k2 =>
           have H := HA.out
           clear HA
           simp only [spec_l06Alike.l0] at H
           (repeat (first | rw [rd1_T89] at H))
           replace H := Option.bind_eq_some_iff.mp H
           obtain ⟨t216, A150, H⟩ := H
           try dsimp only at H
           have A15 := A_ A150
           clear A150
           by_cases c16 : x11_2 < t216
           ·
            rw [if_pos c16] at H
            have c16b0 := decide_eq_true c16
            clear c16
            by_cases c17 : 0 < ([rd_T89 ((rd_T34 l0 0).f0) a2].length : Int)
            ·
             rw [if_pos c17] at H
             have c17b0 := decide_eq_true c17
             have c17b1 : decide (0 < [rd_T89 ((rd_T34 l0 0).f0) a2].length) = true := decide_eq_true (by omega)
             clear c17
             by_cases c18 : 0 ≤ x11_2
             ·
              rw [if_pos c18] at H
              have c18b0 := decide_eq_true c18
              clear c18
              by_cases c19 : x11_2 < 3
              ·
               rw [if_pos c19] at H
               have c19b0 := decide_eq_true c19
               clear c19
               by_cases c20 : 0 ≤ (rd [(rd_T89 ((rd_T34 l0 0).f0) a2).f2.f0, (rd_T89 ((rd_T34 l0 0).f0) a2).f2.f1, (rd_T89 ((rd_T34 l0 0).f0) a2).f2.f2] x11_2)
               ·
                rw [if_pos c20] at H
                have c20b0 := decide_eq_true c20
                clear c20
                by_cases c21 : (rd [(rd_T89 ((rd_T34 l0 0).f0) a2).f2.f0, (rd_T89 ((rd_T34 l0 0).f0) a2).f2.f1, (rd_T89 ((rd_T34 l0 0).f0) a2).f2.f2] x11_2) < (l1.length : Int)
                ·
                 rw [if_pos c21] at H
                 have c21b0 := decide_eq_true c21
                 clear c21
                 by_cases c22 : 0 < ([rd_T89 ((rd_T34 l0 0).f0) a3].length : Int)
                 ·
                  rw [if_pos c22] at H
                  have c22b0 := decide_eq_true c22
                  have c22b1 : decide (0 < [rd_T89 ((rd_T34 l0 0).f0) a3].length) = true := decide_eq_true (by omega)
                  clear c22
                  by_cases c23 : 0 ≤ (rd [(rd_T89 ((rd_T34 l0 0).f0) a3).f2.f0, (rd_T89 ((rd_T34 l0 0).f0) a3).f2.f1, (rd_T89 ((rd_T34 l0 0).f0) a3).f2.f2] x11_2)
                  ·
                   rw [if_pos c23] at H
                   have c23b0 := decide_eq_true c23
                   clear c23
                   by_cases c24 : (rd [(rd_T89 ((rd_T34 l0 0).f0) a3).f2.f0, (rd_T89 ((rd_T34 l0 0).f0) a3).f2.f1, (rd_T89 ((rd_T34 l0 0).f0) a3).f2.f2] x11_2) < (l1.length : Int)
                   ·
                    rw [if_pos c24] at H
                    have c24b0 := decide_eq_true c24
                    clear c24
                    by_cases c25 : (rd l1 (rd [(rd_T89 ((rd_T34 l0 0).f0) a2).f2.f0, (rd_T89 ((rd_T34 l0 0).f0) a2).f2.f1, (rd_T89 ((rd_T34 l0 0).f0) a2).f2.f2] x11_2)) = (rd l1 (rd [(rd_T89 ((rd_T34 l0 0).f0) a3).f2.f0, (rd_T89 ((rd_T34 l0 0).f0) a3).f2.f1, (rd_T89 ((rd_T34 l0 0).f0) a3).f2.f2] x11_2))
                    ·
                     rw [if_pos c25] at H
                     have c25b0 := beq_iff_eq.mpr c25
                     have c25b1 := bne_eq_false_iff_eq.mpr c25
                     clear c25
                     have H' := A_ H
                     clear H
                     go_wp2_with (first | (go_at_call 68; (with_reducible refine (spec_l06Ways.calls _ ([rd_T89 ((rd_T34 l0 0).f0) a2]).length [rd_T89 ((rd_T34 l0 0).f0) a2] t216 _ ?side1 ?side2 A15.out).mono ?_); (case side1 => repeat (first | exact HR211.out | (with_reducible refine Kd.C_alloc ?_ _) | (with_reducible refine Kd.C_drewN ?_ _) | (with_reducible refine Kd.C_drew ?_))); (case side2 => exact Nat.le_refl _); rintro e w' ⟨rfl, ⟨nd, rfl⟩⟩; (try first | exact ⟨rfl, _, World.drewN_drewN _ _ _⟩ | exact ⟨rfl, _, Eq.trans (World.drewN_drewN _ _ _) (congrArg (World.drewN _) (Nat.add_assoc _ _ _))⟩); have q217 : 0 < ([rd_T89 ((rd_T34 l0 0).f0) a2].length : Int) := of_decide_eq_true (by assumption); obtain ⟨ad217, e217, hx217_0, hx217_1, hx217_2, hx217_3, hx217_4⟩ := rp_T89 HR211.out q217; (try simp only [rd1_T89] at hx217_0 hx217_1 hx217_2 hx217_3 hx217_4); obtain rfl : (Addr.add ad210 (a2.toNat * 5)) = ad217 := (by injection e217); have p218 : 0 ≤ (x11_2 : Int) := of_decide_eq_true (by assumption); have q218 : (x11_2 : Int) < 3 := of_decide_eq_true (by assumption); have hx218_0 := cell_arr3 hx217_2 hx217_3 hx217_4 x11_2 p218 q218; (try simp only [Nat.zero_add, Nat.add_zero] at hx218_0); replace p218 := eq_true p218; replace q218 := eq_true q218; have p219 : 0 ≤ ((rd [(rd_T89 ((rd_T34 l0 0).f0) a2).f2.f0, (rd_T89 ((rd_T34 l0 0).f0) a2).f2.f1, (rd_T89 ((rd_T34 l0 0).f0) a2).f2.f2] x11_2) : Int) := of_decide_eq_true (by assumption); have q219 : (rd [(rd_T89 ((rd_T34 l0 0).f0) a2).f2.f0, (rd_T89 ((rd_T34 l0 0).f0) a2).f2.f1, (rd_T89 ((rd_T34 l0 0).f0) a2).f2.f2] x11_2) < (l1.length : Int) := of_decide_eq_true (by assumption); obtain ⟨ad219, e219, hx219_0⟩ := Kd.at_int HR1.out (rd [(rd_T89 ((rd_T34 l0 0).f0) a2).f2.f0, (rd_T89 ((rd_T34 l0 0).f0) a2).f2.f1, (rd_T89 ((rd_T34 l0 0).f0) a2).f2.f2] x11_2) p219 q219; cases e219; replace p219 := eq_true p219; replace q219 := eq_true q219; have q220 : 0 < ([rd_T89 ((rd_T34 l0 0).f0) a3].length : Int) := of_decide_eq_true (by assumption); obtain ⟨ad220, e220, hx220_0, hx220_1, hx220_2, hx220_3, hx220_4⟩ := rp_T89 HR213.out q220; (try simp only [rd1_T89] at hx220_0 hx220_1 hx220_2 hx220_3 hx220_4); obtain rfl : (Addr.add ad210 (a3.toNat * 5)) = ad220 := (by injection e220); have p221 : 0 ≤ (x11_2 : Int) := of_decide_eq_true (by assumption); have q221 : (x11_2 : Int) < 3 := of_decide_eq_true (by assumption); have hx221_0 := cell_arr3 hx220_2 hx220_3 hx220_4 x11_2 p221 q221; (try simp only [Nat.zero_add, Nat.add_zero] at hx221_0); replace p221 := eq_true p221; replace q221 := eq_true q221; have p222 : 0 ≤ ((rd [(rd_T89 ((rd_T34 l0 0).f0) a3).f2.f0, (rd_T89 ((rd_T34 l0 0).f0) a3).f2.f1, (rd_T89 ((rd_T34 l0 0).f0) a3).f2.f2] x11_2) : Int) := of_decide_eq_true (by assumption); have q222 : (rd [(rd_T89 ((rd_T34 l0 0).f0) a3).f2.f0, (rd_T89 ((rd_T34 l0 0).f0) a3).f2.f1, (rd_T89 ((rd_T34 l0 0).f0) a3).f2.f2] x11_2) < (l1.length : Int) := of_decide_eq_true (by assumption); obtain ⟨ad222, e222, hx222_0⟩ := Kd.at_int HR1.out (rd [(rd_T89 ((rd_T34 l0 0).f0) a3).f2.f0, (rd_T89 ((rd_T34 l0 0).f0) a3).f2.f1, (rd_T89 ((rd_T34 l0 0).f0) a3).f2.f2] x11_2) p222 q222; obtain rfl : ad219 = ad222 := (by injection e222); replace p222 := eq_true p222; replace q222 := eq_true q222))
                     repeat (go_quiet (first | (go_at_call 68; (with_reducible refine (spec_l06Ways.calls _ ([rd_T89 ((rd_T34 l0 0).f0) a2]).length [rd_T89 ((rd_T34 l0 0).f0) a2] t216 _ ?side1 ?side2 A15.out).mono ?_); (case side1 => repeat (first | exact HR211.out | (with_reducible refine Kd.C_alloc ?_ _) | (with_reducible refine Kd.C_drewN ?_ _) | (with_reducible refine Kd.C_drew ?_))); (case side2 => exact Nat.le_refl _); rintro e w' ⟨rfl, ⟨nd, rfl⟩⟩; (try first | exact ⟨rfl, _, World.drewN_drewN _ _ _⟩ | exact ⟨rfl, _, Eq.trans (World.drewN_drewN _ _ _) (congrArg (World.drewN _) (Nat.add_assoc _ _ _))⟩); have q217 : 0 < ([rd_T89 ((rd_T34 l0 0).f0) a2].length : Int) := of_decide_eq_true (by assumption); obtain ⟨ad217, e217, hx217_0, hx217_1, hx217_2, hx217_3, hx217_4⟩ := rp_T89 HR211.out q217; (try simp only [rd1_T89] at hx217_0 hx217_1 hx217_2 hx217_3 hx217_4); obtain rfl : (Addr.add ad210 (a2.toNat * 5)) = ad217 := (by injection e217); have p218 : 0 ≤ (x11_2 : Int) := of_decide_eq_true (by assumption); have q218 : (x11_2 : Int) < 3 := of_decide_eq_true (by assumption); have hx218_0 := cell_arr3 hx217_2 hx217_3 hx217_4 x11_2 p218 q218; (try simp only [Nat.zero_add, Nat.add_zero] at hx218_0); replace p218 := eq_true p218; replace q218 := eq_true q218; have p219 : 0 ≤ ((rd [(rd_T89 ((rd_T34 l0 0).f0) a2).f2.f0, (rd_T89 ((rd_T34 l0 0).f0) a2).f2.f1, (rd_T89 ((rd_T34 l0 0).f0) a2).f2.f2] x11_2) : Int) := of_decide_eq_true (by assumption); have q219 : (rd [(rd_T89 ((rd_T34 l0 0).f0) a2).f2.f0, (rd_T89 ((rd_T34 l0 0).f0) a2).f2.f1, (rd_T89 ((rd_T34 l0 0).f0) a2).f2.f2] x11_2) < (l1.length : Int) := of_decide_eq_true (by assumption); obtain ⟨ad219, e219, hx219_0⟩ := Kd.at_int HR1.out (rd [(rd_T89 ((rd_T34 l0 0).f0) a2).f2.f0, (rd_T89 ((rd_T34 l0 0).f0) a2).f2.f1, (rd_T89 ((rd_T34 l0 0).f0) a2).f2.f2] x11_2) p219 q219; cases e219; replace p219 := eq_true p219; replace q219 := eq_true q219; have q220 : 0 < ([rd_T89 ((rd_T34 l0 0).f0) a3].length : Int) := of_decide_eq_true (by assumption); obtain ⟨ad220, e220, hx220_0, hx220_1, hx220_2, hx220_3, hx220_4⟩ := rp_T89 HR213.out q220; (try simp only [rd1_T89] at hx220_0 hx220_1 hx220_2 hx220_3 hx220_4); obtain rfl : (Addr.add ad210 (a3.toNat * 5)) = ad220 := (by injection e220); have p221 : 0 ≤ (x11_2 : Int) := of_decide_eq_true (by assumption); have q221 : (x11_2 : Int) < 3 := of_decide_eq_true (by assumption); have hx221_0 := cell_arr3 hx220_2 hx220_3 hx220_4 x11_2 p221 q221; (try simp only [Nat.zero_add, Nat.add_zero] at hx221_0); replace p221 := eq_true p221; replace q221 := eq_true q221; have p222 : 0 ≤ ((rd [(rd_T89 ((rd_T34 l0 0).f0) a3).f2.f0, (rd_T89 ((rd_T34 l0 0).f0) a3).f2.f1, (rd_T89 ((rd_T34 l0 0).f0) a3).f2.f2] x11_2) : Int) := of_decide_eq_true (by assumption); have q222 : (rd [(rd_T89 ((rd_T34 l0 0).f0) a3).f2.f0, (rd_T89 ((rd_T34 l0 0).f0) a3).f2.f1, (rd_T89 ((rd_T34 l0 0).f0) a3).f2.f2] x11_2) < (l1.length : Int) := of_decide_eq_true (by assumption); obtain ⟨ad222, e222, hx222_0⟩ := Kd.at_int HR1.out (rd [(rd_T89 ((rd_T34 l0 0).f0) a3).f2.f0, (rd_T89 ((rd_T34 l0 0).f0) a3).f2.f1, (rd_T89 ((rd_T34 l0 0).f0) a3).f2.f2] x11_2) p222 q222; obtain rfl : ad219 = ad222 := (by injection e222); replace p222 := eq_true p222; replace q222 := eq_true q222)); try go_wp2_with (first | (go_at_call 68; (with_reducible refine (spec_l06Ways.calls _ ([rd_T89 ((rd_T34 l0 0).f0) a2]).length [rd_T89 ((rd_T34 l0 0).f0) a2] t216 _ ?side1 ?side2 A15.out).mono ?_); (case side1 => repeat (first | exact HR211.out | (with_reducible refine Kd.C_alloc ?_ _) | (with_reducible refine Kd.C_drewN ?_ _) | (with_reducible refine Kd.C_drew ?_))); (case side2 => exact Nat.le_refl _); rintro e w' ⟨rfl, ⟨nd, rfl⟩⟩; (try first | exact ⟨rfl, _, World.drewN_drewN _ _ _⟩ | exact ⟨rfl, _, Eq.trans (World.drewN_drewN _ _ _) (congrArg (World.drewN _) (Nat.add_assoc _ _ _))⟩); have q217 : 0 < ([rd_T89 ((rd_T34 l0 0).f0) a2].length : Int) := of_decide_eq_true (by assumption); obtain ⟨ad217, e217, hx217_0, hx217_1, hx217_2, hx217_3, hx217_4⟩ := rp_T89 HR211.out q217; (try simp only [rd1_T89] at hx217_0 hx217_1 hx217_2 hx217_3 hx217_4); obtain rfl : (Addr.add ad210 (a2.toNat * 5)) = ad217 := (by injection e217); have p218 : 0 ≤ (x11_2 : Int) := of_decide_eq_true (by assumption); have q218 : (x11_2 : Int) < 3 := of_decide_eq_true (by assumption); have hx218_0 := cell_arr3 hx217_2 hx217_3 hx217_4 x11_2 p218 q218; (try simp only [Nat.zero_add, Nat.add_zero] at hx218_0); replace p218 := eq_true p218; replace q218 := eq_true q218; have p219 : 0 ≤ ((rd [(rd_T89 ((rd_T34 l0 0).f0) a2).f2.f0, (rd_T89 ((rd_T34 l0 0).f0) a2).f2.f1, (rd_T89 ((rd_T34 l0 0).f0) a2).f2.f2] x11_2) : Int) := of_decide_eq_true (by assumption); have q219 : (rd [(rd_T89 ((rd_T34 l0 0).f0) a2).f2.f0, (rd_T89 ((rd_T34 l0 0).f0) a2).f2.f1, (rd_T89 ((rd_T34 l0 0).f0) a2).f2.f2] x11_2) < (l1.length : Int) := of_decide_eq_true (by assumption); obtain ⟨ad219, e219, hx219_0⟩ := Kd.at_int HR1.out (rd [(rd_T89 ((rd_T34 l0 0).f0) a2).f2.f0, (rd_T89 ((rd_T34 l0 0).f0) a2).f2.f1, (rd_T89 ((rd_T34 l0 0).f0) a2).f2.f2] x11_2) p219 q219; cases e219; replace p219 := eq_true p219; replace q219 := eq_true q219; have q220 : 0 < ([rd_T89 ((rd_T34 l0 0).f0) a3].length : Int) := of_decide_eq_true (by assumption); obtain ⟨ad220, e220, hx220_0, hx220_1, hx220_2, hx220_3, hx220_4⟩ := rp_T89 HR213.out q220; (try simp only [rd1_T89] at hx220_0 hx220_1 hx220_2 hx220_3 hx220_4); obtain rfl : (Addr.add ad210 (a3.toNat * 5)) = ad220 := (by injection e220); have p221 : 0 ≤ (x11_2 : Int) := of_decide_eq_true (by assumption); have q221 : (x11_2 : Int) < 3 := of_decide_eq_true (by assumption); have hx221_0 := cell_arr3 hx220_2 hx220_3 hx220_4 x11_2 p221 q221; (try simp only [Nat.zero_add, Nat.add_zero] at hx221_0); replace p221 := eq_true p221; replace q221 := eq_true q221; have p222 : 0 ≤ ((rd [(rd_T89 ((rd_T34 l0 0).f0) a3).f2.f0, (rd_T89 ((rd_T34 l0 0).f0) a3).f2.f1, (rd_T89 ((rd_T34 l0 0).f0) a3).f2.f2] x11_2) : Int) := of_decide_eq_true (by assumption); have q222 : (rd [(rd_T89 ((rd_T34 l0 0).f0) a3).f2.f0, (rd_T89 ((rd_T34 l0 0).f0) a3).f2.f1, (rd_T89 ((rd_T34 l0 0).f0) a3).f2.f2] x11_2) < (l1.length : Int) := of_decide_eq_true (by assumption); obtain ⟨ad222, e222, hx222_0⟩ := Kd.at_int HR1.out (rd [(rd_T89 ((rd_T34 l0 0).f0) a3).f2.f0, (rd_T89 ((rd_T34 l0 0).f0) a3).f2.f1, (rd_T89 ((rd_T34 l0 0).f0) a3).f2.f2] x11_2) p222 q222; obtain rfl : ad219 = ad222 := (by injection e222); replace p222 := eq_true p222; replace q222 := eq_true q222)))
                     go_roundg k2
                     case measure => have := HJ9.out; have := HK2.out; omega
                     case rel => exact ⟨(wrap64 (x11_2 + 1)), z4_10_, H', ⟨(by have := HJ9.out; have := HK2.out; omega)⟩, z4_16_⟩
                    ·
                     rw [if_neg c25] at H
                     have c25b0 : ((rd l1 (rd [(rd_T89 ((rd_T34 l0 0).f0) a2).f2.f0, (rd_T89 ((rd_T34 l0 0).f0) a2).f2.f1, (rd_T89 ((rd_T34 l0 0).f0) a2).f2.f2] x11_2)) == (rd l1 (rd [(rd_T89 ((rd_T34 l0 0).f0) a3).f2.f0, (rd_T89 ((rd_T34 l0 0).f0) a3).f2.f1, (rd_T89 ((rd_T34 l0 0).f0) a3).f2.f2] x11_2))) = false := beq_eq_false_iff_ne.mpr c25
                     have c25b1 : ((rd l1 (rd [(rd_T89 ((rd_T34 l0 0).f0) a2).f2.f0, (rd_T89 ((rd_T34 l0 0).f0) a2).f2.f1, (rd_T89 ((rd_T34 l0 0).f0) a2).f2.f2] x11_2)) != (rd l1 (rd [(rd_T89 ((rd_T34 l0 0).f0) a3).f2.f0, (rd_T89 ((rd_T34 l0 0).f0) a3).f2.f1, (rd_T89 ((rd_T34 l0 0).f0) a3).f2.f2] x11_2))) = true := bne_iff_ne.mpr c25
                     obtain rfl := Option.some.inj H
                     go_wp2_with (first | (go_at_call 68; (with_reducible refine (spec_l06Ways.calls _ ([rd_T89 ((rd_T34 l0 0).f0) a2]).length [rd_T89 ((rd_T34 l0 0).f0) a2] t216 _ ?side1 ?side2 A15.out).mono ?_); (case side1 => repeat (first | exact HR211.out | (with_reducible refine Kd.C_alloc ?_ _) | (with_reducible refine Kd.C_drewN ?_ _) | (with_reducible refine Kd.C_drew ?_))); (case side2 => exact Nat.le_refl _); rintro e w' ⟨rfl, ⟨nd, rfl⟩⟩; (try first | exact ⟨rfl, _, World.drewN_drewN _ _ _⟩ | exact ⟨rfl, _, Eq.trans (World.drewN_drewN _ _ _) (congrArg (World.drewN _) (Nat.add_assoc _ _ _))⟩); have q217 : 0 < ([rd_T89 ((rd_T34 l0 0).f0) a2].length : Int) := of_decide_eq_true (by assumption); obtain ⟨ad217, e217, hx217_0, hx217_1, hx217_2, hx217_3, hx217_4⟩ := rp_T89 HR211.out q217; (try simp only [rd1_T89] at hx217_0 hx217_1 hx217_2 hx217_3 hx217_4); obtain rfl : (Addr.add ad210 (a2.toNat * 5)) = ad217 := (by injection e217); have p218 : 0 ≤ (x11_2 : Int) := of_decide_eq_true (by assumption); have q218 : (x11_2 : Int) < 3 := of_decide_eq_true (by assumption); have hx218_0 := cell_arr3 hx217_2 hx217_3 hx217_4 x11_2 p218 q218; (try simp only [Nat.zero_add, Nat.add_zero] at hx218_0); replace p218 := eq_true p218; replace q218 := eq_true q218; have p219 : 0 ≤ ((rd [(rd_T89 ((rd_T34 l0 0).f0) a2).f2.f0, (rd_T89 ((rd_T34 l0 0).f0) a2).f2.f1, (rd_T89 ((rd_T34 l0 0).f0) a2).f2.f2] x11_2) : Int) := of_decide_eq_true (by assumption); have q219 : (rd [(rd_T89 ((rd_T34 l0 0).f0) a2).f2.f0, (rd_T89 ((rd_T34 l0 0).f0) a2).f2.f1, (rd_T89 ((rd_T34 l0 0).f0) a2).f2.f2] x11_2) < (l1.length : Int) := of_decide_eq_true (by assumption); obtain ⟨ad219, e219, hx219_0⟩ := Kd.at_int HR1.out (rd [(rd_T89 ((rd_T34 l0 0).f0) a2).f2.f0, (rd_T89 ((rd_T34 l0 0).f0) a2).f2.f1, (rd_T89 ((rd_T34 l0 0).f0) a2).f2.f2] x11_2) p219 q219; cases e219; replace p219 := eq_true p219; replace q219 := eq_true q219; have q220 : 0 < ([rd_T89 ((rd_T34 l0 0).f0) a3].length : Int) := of_decide_eq_true (by assumption); obtain ⟨ad220, e220, hx220_0, hx220_1, hx220_2, hx220_3, hx220_4⟩ := rp_T89 HR213.out q220; (try simp only [rd1_T89] at hx220_0 hx220_1 hx220_2 hx220_3 hx220_4); obtain rfl : (Addr.add ad210 (a3.toNat * 5)) = ad220 := (by injection e220); have p221 : 0 ≤ (x11_2 : Int) := of_decide_eq_true (by assumption); have q221 : (x11_2 : Int) < 3 := of_decide_eq_true (by assumption); have hx221_0 := cell_arr3 hx220_2 hx220_3 hx220_4 x11_2 p221 q221; (try simp only [Nat.zero_add, Nat.add_zero] at hx221_0); replace p221 := eq_true p221; replace q221 := eq_true q221; have p222 : 0 ≤ ((rd [(rd_T89 ((rd_T34 l0 0).f0) a3).f2.f0, (rd_T89 ((rd_T34 l0 0).f0) a3).f2.f1, (rd_T89 ((rd_T34 l0 0).f0) a3).f2.f2] x11_2) : Int) := of_decide_eq_true (by assumption); have q222 : (rd [(rd_T89 ((rd_T34 l0 0).f0) a3).f2.f0, (rd_T89 ((rd_T34 l0 0).f0) a3).f2.f1, (rd_T89 ((rd_T34 l0 0).f0) a3).f2.f2] x11_2) < (l1.length : Int) := of_decide_eq_true (by assumption); obtain ⟨ad222, e222, hx222_0⟩ := Kd.at_int HR1.out (rd [(rd_T89 ((rd_T34 l0 0).f0) a3).f2.f0, (rd_T89 ((rd_T34 l0 0).f0) a3).f2.f1, (rd_T89 ((rd_T34 l0 0).f0) a3).f2.f2] x11_2) p222 q222; obtain rfl : ad219 = ad222 := (by injection e222); replace p222 := eq_true p222; replace q222 := eq_true q222))
                     repeat (go_quiet (first | (go_at_call 68; (with_reducible refine (spec_l06Ways.calls _ ([rd_T89 ((rd_T34 l0 0).f0) a2]).length [rd_T89 ((rd_T34 l0 0).f0) a2] t216 _ ?side1 ?side2 A15.out).mono ?_); (case side1 => repeat (first | exact HR211.out | (with_reducible refine Kd.C_alloc ?_ _) | (with_reducible refine Kd.C_drewN ?_ _) | (with_reducible refine Kd.C_drew ?_))); (case side2 => exact Nat.le_refl _); rintro e w' ⟨rfl, ⟨nd, rfl⟩⟩; (try first | exact ⟨rfl, _, World.drewN_drewN _ _ _⟩ | exact ⟨rfl, _, Eq.trans (World.drewN_drewN _ _ _) (congrArg (World.drewN _) (Nat.add_assoc _ _ _))⟩); have q217 : 0 < ([rd_T89 ((rd_T34 l0 0).f0) a2].length : Int) := of_decide_eq_true (by assumption); obtain ⟨ad217, e217, hx217_0, hx217_1, hx217_2, hx217_3, hx217_4⟩ := rp_T89 HR211.out q217; (try simp only [rd1_T89] at hx217_0 hx217_1 hx217_2 hx217_3 hx217_4); obtain rfl : (Addr.add ad210 (a2.toNat * 5)) = ad217 := (by injection e217); have p218 : 0 ≤ (x11_2 : Int) := of_decide_eq_true (by assumption); have q218 : (x11_2 : Int) < 3 := of_decide_eq_true (by assumption); have hx218_0 := cell_arr3 hx217_2 hx217_3 hx217_4 x11_2 p218 q218; (try simp only [Nat.zero_add, Nat.add_zero] at hx218_0); replace p218 := eq_true p218; replace q218 := eq_true q218; have p219 : 0 ≤ ((rd [(rd_T89 ((rd_T34 l0 0).f0) a2).f2.f0, (rd_T89 ((rd_T34 l0 0).f0) a2).f2.f1, (rd_T89 ((rd_T34 l0 0).f0) a2).f2.f2] x11_2) : Int) := of_decide_eq_true (by assumption); have q219 : (rd [(rd_T89 ((rd_T34 l0 0).f0) a2).f2.f0, (rd_T89 ((rd_T34 l0 0).f0) a2).f2.f1, (rd_T89 ((rd_T34 l0 0).f0) a2).f2.f2] x11_2) < (l1.length : Int) := of_decide_eq_true (by assumption); obtain ⟨ad219, e219, hx219_0⟩ := Kd.at_int HR1.out (rd [(rd_T89 ((rd_T34 l0 0).f0) a2).f2.f0, (rd_T89 ((rd_T34 l0 0).f0) a2).f2.f1, (rd_T89 ((rd_T34 l0 0).f0) a2).f2.f2] x11_2) p219 q219; cases e219; replace p219 := eq_true p219; replace q219 := eq_true q219; have q220 : 0 < ([rd_T89 ((rd_T34 l0 0).f0) a3].length : Int) := of_decide_eq_true (by assumption); obtain ⟨ad220, e220, hx220_0, hx220_1, hx220_2, hx220_3, hx220_4⟩ := rp_T89 HR213.out q220; (try simp only [rd1_T89] at hx220_0 hx220_1 hx220_2 hx220_3 hx220_4); obtain rfl : (Addr.add ad210 (a3.toNat * 5)) = ad220 := (by injection e220); have p221 : 0 ≤ (x11_2 : Int) := of_decide_eq_true (by assumption); have q221 : (x11_2 : Int) < 3 := of_decide_eq_true (by assumption); have hx221_0 := cell_arr3 hx220_2 hx220_3 hx220_4 x11_2 p221 q221; (try simp only [Nat.zero_add, Nat.add_zero] at hx221_0); replace p221 := eq_true p221; replace q221 := eq_true q221; have p222 : 0 ≤ ((rd [(rd_T89 ((rd_T34 l0 0).f0) a3).f2.f0, (rd_T89 ((rd_T34 l0 0).f0) a3).f2.f1, (rd_T89 ((rd_T34 l0 0).f0) a3).f2.f2] x11_2) : Int) := of_decide_eq_true (by assumption); have q222 : (rd [(rd_T89 ((rd_T34 l0 0).f0) a3).f2.f0, (rd_T89 ((rd_T34 l0 0).f0) a3).f2.f1, (rd_T89 ((rd_T34 l0 0).f0) a3).f2.f2] x11_2) < (l1.length : Int) := of_decide_eq_true (by assumption); obtain ⟨ad222, e222, hx222_0⟩ := Kd.at_int HR1.out (rd [(rd_T89 ((rd_T34 l0 0).f0) a3).f2.f0, (rd_T89 ((rd_T34 l0 0).f0) a3).f2.f1, (rd_T89 ((rd_T34 l0 0).f0) a3).f2.f2] x11_2) p222 q222; obtain rfl : ad219 = ad222 := (by injection e222); replace p222 := eq_true p222; replace q222 := eq_true q222)); try go_wp2_with (first | (go_at_call 68; (with_reducible refine (spec_l06Ways.calls _ ([rd_T89 ((rd_T34 l0 0).f0) a2]).length [rd_T89 ((rd_T34 l0 0).f0) a2] t216 _ ?side1 ?side2 A15.out).mono ?_); (case side1 => repeat (first | exact HR211.out | (with_reducible refine Kd.C_alloc ?_ _) | (with_reducible refine Kd.C_drewN ?_ _) | (with_reducible refine Kd.C_drew ?_))); (case side2 => exact Nat.le_refl _); rintro e w' ⟨rfl, ⟨nd, rfl⟩⟩; (try first | exact ⟨rfl, _, World.drewN_drewN _ _ _⟩ | exact ⟨rfl, _, Eq.trans (World.drewN_drewN _ _ _) (congrArg (World.drewN _) (Nat.add_assoc _ _ _))⟩); have q217 : 0 < ([rd_T89 ((rd_T34 l0 0).f0) a2].length : Int) := of_decide_eq_true (by assumption); obtain ⟨ad217, e217, hx217_0, hx217_1, hx217_2, hx217_3, hx217_4⟩ := rp_T89 HR211.out q217; (try simp only [rd1_T89] at hx217_0 hx217_1 hx217_2 hx217_3 hx217_4); obtain rfl : (Addr.add ad210 (a2.toNat * 5)) = ad217 := (by injection e217); have p218 : 0 ≤ (x11_2 : Int) := of_decide_eq_true (by assumption); have q218 : (x11_2 : Int) < 3 := of_decide_eq_true (by assumption); have hx218_0 := cell_arr3 hx217_2 hx217_3 hx217_4 x11_2 p218 q218; (try simp only [Nat.zero_add, Nat.add_zero] at hx218_0); replace p218 := eq_true p218; replace q218 := eq_true q218; have p219 : 0 ≤ ((rd [(rd_T89 ((rd_T34 l0 0).f0) a2).f2.f0, (rd_T89 ((rd_T34 l0 0).f0) a2).f2.f1, (rd_T89 ((rd_T34 l0 0).f0) a2).f2.f2] x11_2) : Int) := of_decide_eq_true (by assumption); have q219 : (rd [(rd_T89 ((rd_T34 l0 0).f0) a2).f2.f0, (rd_T89 ((rd_T34 l0 0).f0) a2).f2.f1, (rd_T89 ((rd_T34 l0 0).f0) a2).f2.f2] x11_2) < (l1.length : Int) := of_decide_eq_true (by assumption); obtain ⟨ad219, e219, hx219_0⟩ := Kd.at_int HR1.out (rd [(rd_T89 ((rd_T34 l0 0).f0) a2).f2.f0, (rd_T89 ((rd_T34 l0 0).f0) a2).f2.f1, (rd_T89 ((rd_T34 l0 0).f0) a2).f2.f2] x11_2) p219 q219; cases e219; replace p219 := eq_true p219; replace q219 := eq_true q219; have q220 : 0 < ([rd_T89 ((rd_T34 l0 0).f0) a3].length : Int) := of_decide_eq_true (by assumption); obtain ⟨ad220, e220, hx220_0, hx220_1, hx220_2, hx220_3, hx220_4⟩ := rp_T89 HR213.out q220; (try simp only [rd1_T89] at hx220_0 hx220_1 hx220_2 hx220_3 hx220_4); obtain rfl : (Addr.add ad210 (a3.toNat * 5)) = ad220 := (by injection e220); have p221 : 0 ≤ (x11_2 : Int) := of_decide_eq_true (by assumption); have q221 : (x11_2 : Int) < 3 := of_decide_eq_true (by assumption); have hx221_0 := cell_arr3 hx220_2 hx220_3 hx220_4 x11_2 p221 q221; (try simp only [Nat.zero_add, Nat.add_zero] at hx221_0); replace p221 := eq_true p221; replace q221 := eq_true q221; have p222 : 0 ≤ ((rd [(rd_T89 ((rd_T34 l0 0).f0) a3).f2.f0, (rd_T89 ((rd_T34 l0 0).f0) a3).f2.f1, (rd_T89 ((rd_T34 l0 0).f0) a3).f2.f2] x11_2) : Int) := of_decide_eq_true (by assumption); have q222 : (rd [(rd_T89 ((rd_T34 l0 0).f0) a3).f2.f0, (rd_T89 ((rd_T34 l0 0).f0) a3).f2.f1, (rd_T89 ((rd_T34 l0 0).f0) a3).f2.f2] x11_2) < (l1.length : Int) := of_decide_eq_true (by assumption); obtain ⟨ad222, e222, hx222_0⟩ := Kd.at_int HR1.out (rd [(rd_T89 ((rd_T34 l0 0).f0) a3).f2.f0, (rd_T89 ((rd_T34 l0 0).f0) a3).f2.f1, (rd_T89 ((rd_T34 l0 0).f0) a3).f2.f2] x11_2) p222 q222; obtain rfl : ad219 = ad222 := (by injection e222); replace p222 := eq_true p222; replace q222 := eq_true q222)))
                     go_ret
                     exact ⟨z4_10_, z4_16_⟩
                   ·
                    rw [if_neg c24] at H
                    exact absurd H (by simp)
                  ·
                   rw [if_neg c23] at H
                   exact absurd H (by simp)
                 ·
                  rw [if_neg c22] at H
                  exact absurd H (by simp)
                ·
                 rw [if_neg c21] at H
                 exact absurd H (by simp)
               ·
                rw [if_neg c20] at H
                exact absurd H (by simp)
              ·
               rw [if_neg c19] at H
               exact absurd H (by simp)
             ·
              rw [if_neg c18] at H
              exact absurd H (by simp)
            ·
             rw [if_neg c17] at H
             exact absurd H (by simp)
           ·
            rw [if_neg c16] at H
            have c16b0 := decide_eq_false c16
            clear c16
            obtain rfl := Option.some.inj H
            go_wp2_with (first | (go_at_call 68; (with_reducible refine (spec_l06Ways.calls _ ([rd_T89 ((rd_T34 l0 0).f0) a2]).length [rd_T89 ((rd_T34 l0 0).f0) a2] t216 _ ?side1 ?side2 A15.out).mono ?_); (case side1 => repeat (first | exact HR211.out | (with_reducible refine Kd.C_alloc ?_ _) | (with_reducible refine Kd.C_drewN ?_ _) | (with_reducible refine Kd.C_drew ?_))); (case side2 => exact Nat.le_refl _); rintro e w' ⟨rfl, ⟨nd, rfl⟩⟩; (try first | exact ⟨rfl, _, World.drewN_drewN _ _ _⟩ | exact ⟨rfl, _, Eq.trans (World.drewN_drewN _ _ _) (congrArg (World.drewN _) (Nat.add_assoc _ _ _))⟩)))
            repeat (go_quiet (first | (go_at_call 68; (with_reducible refine (spec_l06Ways.calls _ ([rd_T89 ((rd_T34 l0 0).f0) a2]).length [rd_T89 ((rd_T34 l0 0).f0) a2] t216 _ ?side1 ?side2 A15.out).mono ?_); (case side1 => repeat (first | exact HR211.out | (with_reducible refine Kd.C_alloc ?_ _) | (with_reducible refine Kd.C_drewN ?_ _) | (with_reducible refine Kd.C_drew ?_))); (case side2 => exact Nat.le_refl _); rintro e w' ⟨rfl, ⟨nd, rfl⟩⟩; (try first | exact ⟨rfl, _, World.drewN_drewN _ _ _⟩ | exact ⟨rfl, _, Eq.trans (World.drewN_drewN _ _ _) (congrArg (World.drewN _) (Nat.add_assoc _ _ _))⟩))); try go_wp2_with (first | (go_at_call 68; (with_reducible refine (spec_l06Ways.calls _ ([rd_T89 ((rd_T34 l0 0).f0) a2]).length [rd_T89 ((rd_T34 l0 0).f0) a2] t216 _ ?side1 ?side2 A15.out).mono ?_); (case side1 => repeat (first | exact HR211.out | (with_reducible refine Kd.C_alloc ?_ _) | (with_reducible refine Kd.C_drewN ?_ _) | (with_reducible refine Kd.C_drew ?_))); (case side2 => exact Nat.le_refl _); rintro e w' ⟨rfl, ⟨nd, rfl⟩⟩; (try first | exact ⟨rfl, _, World.drewN_drewN _ _ _⟩ | exact ⟨rfl, _, Eq.trans (World.drewN_drewN _ _ _) (congrArg (World.drewN _) (Nat.add_assoc _ _ _))⟩))))
            go_ret
            exact ⟨z4_10_, z4_16_⟩
     ·
      rw [if_neg c9] at H
      exact absurd H (by simp)
    ·
     rw [if_neg c8] at H
     exact absurd H (by simp)
   ·
    rw [if_neg c7] at H
    exact absurd H (by simp)
  ·
   rw [if_neg c6] at H
   exact absurd H (by simp)
 ·
  rw [if_neg c5] at H
  exact absurd H (by simp)
/-! ### slices_Index_int16_int16: function 99 -/
def slices_Index_int16_int16.l0 : Nat → List Int → Int → Int → Int → Option (Int)
 | 0, _, _, _, _ => none
 | k + 1, x0, x1, x7, x8 => if x8 < x7 then (if 0 ≤ x8 then (if x8 < (x0.length : Int) then (if x1 = (rd x0 x8) then (some x8) else (slices_Index_int16_int16.l0 k x0 x1 x7 (wrap64 (x8 + 1)))) else (none)) else (none)) else (some (-1))
def slices_Index_int16_int16.f (k : Nat) (l0 : List Int) (a1 : Int) : Option (Int) := slices_Index_int16_int16.l0 k l0 a1 (l0.length : Int) 0
theorem slices_Index_int16_int16.mono_l : ∀ k, (∀ y0 y1 y2 y3, LeO (slices_Index_int16_int16.l0 k y0 y1 y2 y3) (slices_Index_int16_int16.l0 (k + 1) y0 y1 y2 y3))
 | 0 => fun _ _ _ _ r h => by simp [slices_Index_int16_int16.l0] at h
 | k + 1 => by
  have ih0 := slices_Index_int16_int16.mono_l k
  ·
   intro y0 y1 y2 y3
   unfold slices_Index_int16_int16.l0
   repeat' first
   | (with_reducible exact ih0 _ _ _ _)
   | (with_reducible exact LeO.refl _)
   | (with_reducible exact LeO.none _)
   | (with_reducible refine LeO.ite ?_ ?_)
   | (with_reducible refine LeO.bind ?_ (fun _ => ?_))
   | exact ih0 _ _ _ _
   | exact LeO.none _
   | refine LeO.ite ?_ ?_
   | refine LeO.bind ?_ (fun _ => ?_)
theorem slices_Index_int16_int16.mono : ∀ a0 a1 k, LeO (slices_Index_int16_int16.f k a0 a1) (slices_Index_int16_int16.f (k + 1) a0 a1) := by
 intro a0 a1 k
 have ih0 := slices_Index_int16_int16.mono_l k
 unfold slices_Index_int16_int16.f
 repeat' first
   | (with_reducible exact ih0 _ _ _ _)
   | (with_reducible exact LeO.refl _)
   | (with_reducible exact LeO.none _)
   | (with_reducible refine LeO.ite ?_ ?_)
   | (with_reducible refine LeO.bind ?_ (fun _ => ?_))
   | exact ih0 _ _ _ _
   | exact LeO.none _
   | refine LeO.ite ?_ ?_
   | refine LeO.bind ?_ (fun _ => ?_)
set_option maxHeartbeats 8000000 in
set_option maxRecDepth 100000 in
theorem slices_Index_int16_int16.calls (k : Nat) (A0 : Option Addr) (c0 : Nat) (l0 : List Int) (a1 : Int) (r : Int) (w : World) (hr0 : Kd.C (Kd.int .i16) w A0 l0.length l0) (hc0 : l0.length ≤ c0) (h : slices_Index_int16_int16.f k l0 a1 = some r) :
  Calls Try.prog 99 #[.slice A0 l0.length c0, .int .i16 a1] w fun e w' => e = .returned (.int .i64 r) ∧ Drawn0 w w' := by
 have HR0 := A_ hr0
 have HC0 := A_ hc0
 clear hr0 hc0
 have H : (slices_Index_int16_int16.l0 k l0 a1 (l0.length : Int) 0) = some r := h
 clear h
 have H' := A_ H
 clear H
 go_enter Try.func99, Try.ntmps99
 go_wp2
 go_loopg [8] k (fun kq v8 w' => ∃ (x8_1 : Int), v8 = .int .i64 x8_1 ∧ Aside0 (slices_Index_int16_int16.l0 kq l0 a1 (l0.length : Int) x8_1 = some r) ∧ Aside0 (kq ≤ k) ∧ Drawn0 w w')
 case atStart => exact ⟨(0), z4_10_, H', ⟨Nat.le_refl _⟩, z4_16_⟩
 case round =>
  clear H'
  try clear p2
  obtain ⟨x8_1, rfl, HA, HK1, ⟨m1, rfl⟩⟩ := hrel
  cases gk with
  | zero => exact absurd HA.out (by simp [slices_Index_int16_int16.l0])
  | succ k1 =>
   have H := HA.out
   clear HA
   simp only [slices_Index_int16_int16.l0] at H
   by_cases c3 : x8_1 < (l0.length : Int)
   ·
    rw [if_pos c3] at H
    have c3b0 := decide_eq_true c3
    clear c3
    by_cases c4 : 0 ≤ x8_1
    ·
     rw [if_pos c4] at H
     have c4b0 := decide_eq_true c4
     clear c4
     by_cases c5 : x8_1 < (l0.length : Int)
     ·
      rw [if_pos c5] at H
      have c5b0 := decide_eq_true c5
      clear c5
      by_cases c6 : a1 = (rd l0 x8_1)
      ·
       rw [if_pos c6] at H
       have c6b0 := beq_iff_eq.mpr c6
       have c6b1 := bne_eq_false_iff_eq.mpr c6
       clear c6
       obtain rfl := Option.some.inj H
       have p231 : 0 ≤ (x8_1 : Int) := of_decide_eq_true (by assumption)
       have q231 : x8_1 < (l0.length : Int) := of_decide_eq_true (by assumption)
       obtain ⟨ad231, e231, hx231_0⟩ := Kd.at_int HR0.out x8_1 p231 q231
       cases e231
       replace p231 := eq_true p231
       replace q231 := eq_true q231
       go_wp2
       go_ret
       exact ⟨z4_10_, z4_16_⟩
      ·
       rw [if_neg c6] at H
       have c6b0 : (a1 == (rd l0 x8_1)) = false := beq_eq_false_iff_ne.mpr c6
       have c6b1 : (a1 != (rd l0 x8_1)) = true := bne_iff_ne.mpr c6
       have H' := A_ H
       clear H
       have p231 : 0 ≤ (x8_1 : Int) := of_decide_eq_true (by assumption)
       have q231 : x8_1 < (l0.length : Int) := of_decide_eq_true (by assumption)
       obtain ⟨ad231, e231, hx231_0⟩ := Kd.at_int HR0.out x8_1 p231 q231
       cases e231
       replace p231 := eq_true p231
       replace q231 := eq_true q231
       go_wp2
       go_roundg k1
       case measure => have := HK1.out; omega
       case rel => exact ⟨(wrap64 (x8_1 + 1)), z4_10_, H', ⟨(by have := HK1.out; omega)⟩, z4_16_⟩
     ·
      rw [if_neg c5] at H
      exact absurd H (by simp)
    ·
     rw [if_neg c4] at H
     exact absurd H (by simp)
   ·
    rw [if_neg c3] at H
    have c3b0 := decide_eq_false c3
    clear c3
    obtain rfl := Option.some.inj H
    go_wp2
    go_ret
    exact ⟨z4_10_, z4_16_⟩
end Go.Proofs.Ytpfnohdnaocpdaa.PT

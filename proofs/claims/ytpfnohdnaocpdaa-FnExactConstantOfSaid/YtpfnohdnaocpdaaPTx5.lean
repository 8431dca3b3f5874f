-- Written by a program (xprint.py) out of the translation's own print; Lean checks it.
import Derived.Test.YtpfnohdnaocpdaaPTx0
import Derived.Test.YtpfnohdnaocpdaaPTx4
namespace Go.Proofs.Ytpfnohdnaocpdaa.PT
open Go.RowKit Go.Proofs.YtpfnohdnaocpdaaW.PrintWords Go.Proofs.YtpfnohdnaocpdaaW.PrintLast Go.Proofs.YtpfnohdnaocpdaaW.PrintMore Go.Proofs.YtpfnohdnaocpdaaRP
attribute [local go_sem] Go.Proofs.YtpfnohdnaocpdaaRP.tmod_len   -- for this text's walks alone
set_option linter.unusedVariables false
set_option linter.unusedSimpArgs false
theorem z5_1_ {P : Prop} (h : P := by first | exact Nat.ne_of_lt (Nat.lt_of_lt_of_le (by have := World.block_lt_of_cell? _ _ hw205_4; first | rwa [add_block] at this | exact this) GW206.out) | (rw [add_block]; exact Nat.ne_of_lt (Nat.lt_of_lt_of_le (by have := World.block_lt_of_cell? _ _ hw205_4; first | rwa [add_block] at this | exact this) GW206.out)) | (show (Addr.add _ _).block ≠ _; rw [add_block]; exact Nat.ne_of_lt (Nat.lt_of_lt_of_le (by have := World.block_lt_of_cell? _ _ hw205_4; first | rwa [add_block] at this | exact this) GW206.out)) | (dsimp only; exact Nat.ne_of_lt (Nat.lt_of_lt_of_le (by have := World.block_lt_of_cell? _ _ hw205_4; first | rwa [add_block] at this | exact this) GW206.out))) : P := h
theorem z5_2_ {P : Prop} (h : P := by first | exact Nat.ne_of_lt (Nat.lt_of_lt_of_le (by have := World.block_lt_of_cell? _ _ hw205_3; first | rwa [add_block] at this | exact this) GW206.out) | (rw [add_block]; exact Nat.ne_of_lt (Nat.lt_of_lt_of_le (by have := World.block_lt_of_cell? _ _ hw205_3; first | rwa [add_block] at this | exact this) GW206.out)) | (show (Addr.add _ _).block ≠ _; rw [add_block]; exact Nat.ne_of_lt (Nat.lt_of_lt_of_le (by have := World.block_lt_of_cell? _ _ hw205_3; first | rwa [add_block] at this | exact this) GW206.out)) | (dsimp only; exact Nat.ne_of_lt (Nat.lt_of_lt_of_le (by have := World.block_lt_of_cell? _ _ hw205_3; first | rwa [add_block] at this | exact this) GW206.out))) : P := h
theorem z5_3_ {P : Prop} (h : P := by first | exact Nat.ne_of_lt (Nat.lt_of_lt_of_le (by have := World.block_lt_of_cell? _ _ hw205_2; first | rwa [add_block] at this | exact this) GW206.out) | (rw [add_block]; exact Nat.ne_of_lt (Nat.lt_of_lt_of_le (by have := World.block_lt_of_cell? _ _ hw205_2; first | rwa [add_block] at this | exact this) GW206.out)) | (show (Addr.add _ _).block ≠ _; rw [add_block]; exact Nat.ne_of_lt (Nat.lt_of_lt_of_le (by have := World.block_lt_of_cell? _ _ hw205_2; first | rwa [add_block] at this | exact this) GW206.out)) | (dsimp only; exact Nat.ne_of_lt (Nat.lt_of_lt_of_le (by have := World.block_lt_of_cell? _ _ hw205_2; first | rwa [add_block] at this | exact this) GW206.out))) : P := h
theorem z5_4_ {P : Prop} (h : P := by first | exact Nat.ne_of_lt (Nat.lt_of_lt_of_le (by have := World.block_lt_of_cell? _ _ hw205_1; first | rwa [add_block] at this | exact this) GW206.out) | (rw [add_block]; exact Nat.ne_of_lt (Nat.lt_of_lt_of_le (by have := World.block_lt_of_cell? _ _ hw205_1; first | rwa [add_block] at this | exact this) GW206.out)) | (show (Addr.add _ _).block ≠ _; rw [add_block]; exact Nat.ne_of_lt (Nat.lt_of_lt_of_le (by have := World.block_lt_of_cell? _ _ hw205_1; first | rwa [add_block] at this | exact this) GW206.out)) | (dsimp only; exact Nat.ne_of_lt (Nat.lt_of_lt_of_le (by have := World.block_lt_of_cell? _ _ hw205_1; first | rwa [add_block] at this | exact this) GW206.out))) : P := h
theorem z5_5_ {P : Prop} (h : P := by first | exact Nat.ne_of_lt (Nat.lt_of_lt_of_le (by have := World.block_lt_of_cell? _ _ hw205_0; first | rwa [add_block] at this | exact this) GW206.out) | (rw [add_block]; exact Nat.ne_of_lt (Nat.lt_of_lt_of_le (by have := World.block_lt_of_cell? _ _ hw205_0; first | rwa [add_block] at this | exact this) GW206.out)) | (show (Addr.add _ _).block ≠ _; rw [add_block]; exact Nat.ne_of_lt (Nat.lt_of_lt_of_le (by have := World.block_lt_of_cell? _ _ hw205_0; first | rwa [add_block] at this | exact this) GW206.out)) | (dsimp only; exact Nat.ne_of_lt (Nat.lt_of_lt_of_le (by have := World.block_lt_of_cell? _ _ hw205_0; first | rwa [add_block] at this | exact this) GW206.out))) : P := h
theorem z5_6_ {P : Prop} (h : P := by first | exact Nat.ne_of_lt (Nat.lt_of_lt_of_le (by have := World.block_lt_of_cell? _ _ hw204_0; first | rwa [add_block] at this | exact this) GW206.out) | (rw [add_block]; exact Nat.ne_of_lt (Nat.lt_of_lt_of_le (by have := World.block_lt_of_cell? _ _ hw204_0; first | rwa [add_block] at this | exact this) GW206.out)) | (show (Addr.add _ _).block ≠ _; rw [add_block]; exact Nat.ne_of_lt (Nat.lt_of_lt_of_le (by have := World.block_lt_of_cell? _ _ hw204_0; first | rwa [add_block] at this | exact this) GW206.out)) | (dsimp only; exact Nat.ne_of_lt (Nat.lt_of_lt_of_le (by have := World.block_lt_of_cell? _ _ hw204_0; first | rwa [add_block] at this | exact this) GW206.out))) : P := h
theorem z5_7_ {P : Prop} (h : P := by first | exact Nat.ne_of_lt (Nat.lt_of_lt_of_le (by have := World.block_lt_of_cell? _ _ hw203_0; first | rwa [add_block] at this | exact this) GW206.out) | (rw [add_block]; exact Nat.ne_of_lt (Nat.lt_of_lt_of_le (by have := World.block_lt_of_cell? _ _ hw203_0; first | rwa [add_block] at this | exact this) GW206.out)) | (show (Addr.add _ _).block ≠ _; rw [add_block]; exact Nat.ne_of_lt (Nat.lt_of_lt_of_le (by have := World.block_lt_of_cell? _ _ hw203_0; first | rwa [add_block] at this | exact this) GW206.out)) | (dsimp only; exact Nat.ne_of_lt (Nat.lt_of_lt_of_le (by have := World.block_lt_of_cell? _ _ hw203_0; first | rwa [add_block] at this | exact this) GW206.out))) : P := h
theorem z5_8_ {P : Prop} (h : P := by (with_reducible repeat (first | refine blk_drewN ?_ _ | refine blk_drew ?_ | refine blk_alloc ?_ _)); exact BK195.out) : P := h
theorem z5_9_ {P : Prop} (h : P := by repeat (first | (with_reducible first | exact HB.out | apply below_alloc | apply pw_below_drewN | apply below_drew1 | refine below_set ?_ GE195.out | refine below_set ?_ GE202.out | refine below_set ?_ GE206.out) | exact HB.out)) : P := h
theorem z5_10_ {P : Prop} (h : P := by first | rfl | (simp; done) | (simp [*]; done) | (simp [isE_]; done)) : P := h
theorem z5_11_ {P : Prop} (h : P := by repeat (first | (with_reducible first | exact HB.out | apply below_alloc | apply pw_below_drewN | apply below_drew1 | refine below_set ?_ GE195.out) | exact HB.out)) : P := h
theorem z5_12_ {P : Prop} (h : P := by (with_reducible repeat (first | refine blk_drewN ?_ _ | refine blk_drew ?_ | refine blk_alloc ?_ _)); exact BK206.out) : P := h
theorem z5_13_ {P : Prop} (h : P := by (with_reducible repeat (first | refine blk_drewN ?_ _ | refine blk_drew ?_ | refine blk_alloc ?_ _)); exact BK202.out) : P := h
theorem z5_14_ {P : Prop} (h : P := by (with_reducible repeat (first | apply Kd.R_alloc | apply Kd.R_drewN | apply Kd.R_drew)); exact HO_203000.out) : P := h
theorem z5_15_ {P : Prop} (h : P := by (with_reducible repeat (first | apply Kd.R_alloc | apply Kd.R_drewN | apply Kd.R_drew)); exact HO_5.out) : P := h
theorem z5_16_ {P : Prop} (h : P := by repeat (first | (with_reducible first | exact HB.out | apply below_alloc | apply pw_below_drewN | apply below_drew1 | refine below_set ?_ GE195.out | refine below_set ?_ GE202.out) | exact HB.out)) : P := h
theorem z5_17_ {P : Prop} (h : P := by repeat (first | (with_reducible first | exact HB.out | apply below_alloc | apply pw_below_drewN | apply below_drew1) | exact HB.out)) : P := h
theorem z5_18_ {P : Prop} (h : P := by (try simp only [List.map_toArray, List.map_cons, List.map_nil]); first | done | rfl | (simp only [List.length_drop, List.length_take]; rfl)) : P := h
/-! ### spec_l06Tree: function 96 -/
mutual
def spec_l06Tree.l0 : Nat → List (S34) → List Int → List Int → Int → Option ((List (S89)))
 | 0, _, _, _, _ => none
 | k + 1, x0, x1, x5, x6 => if x6 < (x1.length : Int) then (if 0 ≤ x6 then (if 0 ≤ (rd x1 x6) then (if (rd x1 x6) < (x5.length : Int) then (spec_l06Tree.l0 k x0 x1 (x5.set ((rd x1 x6) : Int).toNat (IntKind.i16.wrap (x6))) (wrap64 (x6 + 1))) else (none)) else (none)) else (none)) else (spec_l06Tree.l1 k x0 x1 x5 0 ([] : List (S89)))
def spec_l06Tree.l1 : Nat → List (S34) → List Int → List Int → Int → List (S89) → Option ((List (S89)))
 | 0, _, _, _, _, _ => none
 | k + 1, x0, x1, x5, x8, x203000 => if x8 < (x1.length : Int) then (if 0 < (x0.length : Int) then (if 0 ≤ x8 then (if 0 ≤ (rd x1 x8) then (if (rd x1 x8) < (((rd_T34 x0 0).f0).length : Int) then (spec_l06Tree.l2 k x0 x1 x5 x8 0 x203000 ((rd_T89 ((rd_T34 x0 0).f0) (rd x1 x8)).f0) ((rd_T89 ((rd_T34 x0 0).f0) (rd x1 x8)).f1) ((rd_T89 ((rd_T34 x0 0).f0) (rd x1 x8)).f2.f0) ((rd_T89 ((rd_T34 x0 0).f0) (rd x1 x8)).f2.f1) ((rd_T89 ((rd_T34 x0 0).f0) (rd x1 x8)).f2.f2)) else (none)) else (none)) else (none)) else (none)) else (some x203000)
def spec_l06Tree.l2 : Nat → List (S34) → List Int → List Int → Int → Int → List (S89) → Int → Int → Int → Int → Int → Option ((List (S89)))
 | 0, _, _, _, _, _, _, _, _, _, _, _ => none
 | k + 1, x0, x1, x5, x8, x10, x203000, x207000, x207001, x207002, x207003, x207004 => (spec_l06Ways.f [(⟨x207000, x207001, (⟨x207002, x207003, x207004⟩ : S87)⟩ : S89)]).bind fun t208 => (if x10 < t208 then (if 0 ≤ x10 then (if x10 < 3 then (if 0 ≤ (rd [x207002, x207003, x207004] x10) then (if (rd [x207002, x207003, x207004] x10) < (x5.length : Int) then (spec_l06Tree.l2 k x0 x1 x5 x8 (wrap64 (x10 + 1)) x203000 x207000 x207001 (up 0 x10 (rd x5 (rd [x207002, x207003, x207004] x10)) x207002) (up 1 x10 (rd x5 (rd [x207002, x207003, x207004] x10)) x207003) (up 2 x10 (rd x5 (rd [x207002, x207003, x207004] x10)) x207004)) else (none)) else (none)) else (none)) else (none)) else (if x203000.length < 17592186044416 then (spec_l06Tree.l1 k x0 x1 x5 (wrap64 (x8 + 1)) (x203000 ++ [(⟨x207000, x207001, (⟨x207002, x207003, x207004⟩ : S87)⟩ : S89)])) else (none)))
end
def spec_l06Tree.f (k : Nat) (l0 : List (S34)) (l1 : List Int) : Option ((List (S89))) := if 0 < (l0.length : Int) then (if 0 ≤ (((rd_T34 l0 0).f0).length : Int) then (if ((((rd_T34 l0 0).f0).length : Int) : Int).toNat ≤ 140737488355328 then (spec_l06Tree.l0 k l0 l1 (List.replicate ((((rd_T34 l0 0).f0).length : Int) : Int).toNat 0) 0) else (none)) else (none)) else (none)
theorem spec_l06Tree.mono_l : ∀ k, (∀ y0 y1 y2 y3, LeO (spec_l06Tree.l0 k y0 y1 y2 y3) (spec_l06Tree.l0 (k + 1) y0 y1 y2 y3)) ∧ (∀ y0 y1 y2 y3 y4, LeO (spec_l06Tree.l1 k y0 y1 y2 y3 y4) (spec_l06Tree.l1 (k + 1) y0 y1 y2 y3 y4)) ∧ (∀ y0 y1 y2 y3 y4 y5 y6 y7 y8 y9 y10, LeO (spec_l06Tree.l2 k y0 y1 y2 y3 y4 y5 y6 y7 y8 y9 y10) (spec_l06Tree.l2 (k + 1) y0 y1 y2 y3 y4 y5 y6 y7 y8 y9 y10))
 | 0 => ⟨fun _ _ _ _ r h => by simp [spec_l06Tree.l0] at h, fun _ _ _ _ _ r h => by simp [spec_l06Tree.l1] at h, fun _ _ _ _ _ _ _ _ _ _ _ r h => by simp [spec_l06Tree.l2] at h⟩
 | k + 1 => by
  obtain ⟨ih0, ih1, ih2⟩ := spec_l06Tree.mono_l k
  refine ⟨?_, ?_, ?_⟩
  ·
   intro y0 y1 y2 y3
   unfold spec_l06Tree.l0
   repeat' first
   | (with_reducible exact ih0 _ _ _ _)
   | (with_reducible exact ih1 _ _ _ _ _)
   | (with_reducible exact ih2 _ _ _ _ _ _ _ _ _ _ _)
   | (with_reducible exact LeO.refl _)
   | (with_reducible exact LeO.none _)
   | (with_reducible refine LeO.ite ?_ ?_)
   | (with_reducible refine LeO.bind ?_ (fun _ => ?_))
   | refine LeO.bind ?_ (fun _ => ?_)
  ·
   intro y0 y1 y2 y3 y4
   unfold spec_l06Tree.l1
   repeat' first
   | (with_reducible exact ih0 _ _ _ _)
   | (with_reducible exact ih1 _ _ _ _ _)
   | (with_reducible exact ih2 _ _ _ _ _ _ _ _ _ _ _)
   | (with_reducible exact LeO.refl _)
   | (with_reducible exact LeO.none _)
   | (with_reducible refine LeO.ite ?_ ?_)
   | (with_reducible refine LeO.bind ?_ (fun _ => ?_))
   | refine LeO.bind ?_ (fun _ => ?_)
  ·
   intro y0 y1 y2 y3 y4 y5 y6 y7 y8 y9 y10
   unfold spec_l06Tree.l2
   repeat' first
   | (with_reducible exact ih0 _ _ _ _)
   | (with_reducible exact ih1 _ _ _ _ _)
   | (with_reducible exact ih2 _ _ _ _ _ _ _ _ _ _ _)
   | (with_reducible exact LeO.refl _)
   | (with_reducible exact LeO.none _)
   | (with_reducible refine LeO.ite ?_ ?_)
   | (with_reducible refine LeO.bind ?_ (fun _ => ?_))
   | refine LeO.bind ?_ (fun _ => ?_)
theorem spec_l06Tree.mono : ∀ a0 a1 k, LeO (spec_l06Tree.f k a0 a1) (spec_l06Tree.f (k + 1) a0 a1) := by
 intro a0 a1 k
 obtain ⟨ih0, ih1, ih2⟩ := spec_l06Tree.mono_l k
 unfold spec_l06Tree.f
 repeat' first
   | (with_reducible exact ih0 _ _ _ _)
   | (with_reducible exact ih1 _ _ _ _ _)
   | (with_reducible exact ih2 _ _ _ _ _ _ _ _ _ _ _)
   | (with_reducible exact LeO.refl _)
   | (with_reducible exact LeO.none _)
   | (with_reducible refine LeO.ite ?_ ?_)
   | (with_reducible refine LeO.bind ?_ (fun _ => ?_))
   | refine LeO.bind ?_ (fun _ => ?_)
def spec_l06Tree.T10 : Bool × List (List Nat × List Nat) := (true, [([], []), ([0], [0]), ([1], [1]), ([2], [2]), ([], []), ([], []), ([4, 5], [4, 5]), ([6], [6]), ([3, 7], [3, 7]), ([8], [8]), ([], []), ([10, 9, 0, 1, 2, 3, 4, 5, 6, 7, 8, 9, 10], [9, 10])])
def spec_l06Tree.B10 : List Nat := [0, 1, 3, 7, 0, 0, 48, 112, 255, 511, 0, 2047]
theorem spec_l06Tree.tab10 : rtab .any (opsOf Try.f96 10) = spec_l06Tree.T10 := by kernel_rfl
theorem spec_l06Tree.bits10 : waitsOk spec_l06Tree.T10.2 spec_l06Tree.B10 = true := by kernel_rfl
set_option maxHeartbeats 8000000 in
set_option maxRecDepth 100000 in
theorem spec_l06Tree.calls (k : Nat) (A0 : Option Addr) (c0 : Nat) (l0 : List (S34)) (A1 : Option Addr) (c1 : Nat) (l1 : List Int) (r : List (S89)) (w : World) (hr0 : Kd.C k34 w A0 l0.length l0) (hc0 : l0.length ≤ c0) (hr1 : Kd.C (Kd.int .i16) w A1 l1.length l1) (hc1 : l1.length ≤ c1) (h : spec_l06Tree.f k l0 l1 = some r) :
  Calls Try.prog 96 #[.pointer A0, .slice A1 l1.length c1] w fun e w' => ∃ v0_ : Value, e = .returned (.agg #[v0_]) ∧ Kd.R k89 89 w' w.heap.size (fun _ => True) v0_ r ∧ Below w.heap.size w w' := by
 have hu34 := Try.underlying34
 have hu89 := Try.underlying89
 have HR0 := Aside0.mk hr0
 have HC0 := Aside0.mk hc0
 clear hr0 hc0
 have HR1 := Aside0.mk hr1
 have HC1 := Aside0.mk hc1
 clear hr1 hc1
 have HB := Aside0.mk (Below.refl w.heap.size w)
 have H : (if 0 < (l0.length : Int) then (if 0 ≤ (((rd_T34 l0 0).f0).length : Int) then (if ((((rd_T34 l0 0).f0).length : Int) : Int).toNat ≤ 140737488355328 then (spec_l06Tree.l0 k l0 l1 (List.replicate ((((rd_T34 l0 0).f0).length : Int) : Int).toNat 0) 0) else (none)) else (none)) else (none)) = some r := h
 clear h
 by_cases c3 : 0 < (l0.length : Int)
 ·
  rw [if_pos c3] at H
  have c3b0 : decide (0 < (l0.length : Int)) = true := decide_eq_true c3
  have c3b1 : decide (0 < l0.length) = true := decide_eq_true (by omega)
  clear c3
  by_cases c4 : 0 ≤ (((rd_T34 l0 0).f0).length : Int)
  ·
   rw [if_pos c4] at H
   have c4b0 := eq_true c4
   have c4b1 : decide (0 ≤ (((rd_T34 l0 0).f0).length : Int)) = true := decide_eq_true c4
   clear c4
   by_cases c5 : ((((rd_T34 l0 0).f0).length : Int) : Int).toNat ≤ 140737488355328
   ·
    rw [if_pos c5] at H
    have c5b0 := eq_true c5
    have c5b1 : decide (((((rd_T34 l0 0).f0).length : Int) : Int).toNat ≤ 140737488355328) = true := decide_eq_true c5
    clear c5
    obtain ⟨y197, hy197⟩ : ∃ y_ : List Int, y_ = (List.replicate ((((rd_T34 l0 0).f0).length : Int) : Int).toNat 0) := ⟨_, rfl⟩
    replace H : (spec_l06Tree.l0 k l0 l1 y197 0) = some r := by first | (rw [hy197]; with_reducible exact H) | (have H2_ := (Option.bind_some _ _).symm.trans H; rw [hy197]; with_reducible exact H2_) | (have H2_ := (Option.bind_some _ _).symm.trans H; with_reducible exact H2_) | with_reducible exact H | (rw [hy197]; exact H) | exact H
    have Ny197 := Aside0.mk hy197
    clear hy197
    have H' := Aside0.mk H
    clear H
    go_enter Try.func96, Try.ntmps96
    go_wp2_with (first | ((with_reducible refine gate_dst (N := 4) rfl ?_); refine box_event ?hg (N := 4) ?hd (cs := #[.slice none 0 0]) (t := 34) ?hr ?_; (case hd => rfl); (case hg => rfl); (case hr => first | (go_simp; done) | (go_simp; rfl)); intro gb195 hg w6 hbox hb; have n0_ := Aside0.mk (below_step z5_17_ hb); have n1_ := Aside0.mk (hbox); have n2_ := Aside0.mk ((by rw [hg]; exact (below_size z5_17_) : w.heap.size ≤ gb195)); have n3_ := Aside0.mk ((by rw [hg]; exact (below_size z5_17_) : w.heap.size ≤ gb195)); clear HB; have HB := n0_; have BK195 := n1_; have GW195 := n2_; have GE195 := n3_; clear n0_ n1_ n2_ n3_; clear hb hbox hg; have q196 : 0 < (l0.length : Int) := of_decide_eq_true (by assumption); obtain ⟨ad196, A196_0, c196_0, e196, hx196_0, hl196_0, hi196_0⟩ := rp_T34 HR0.out q196; cases e196; replace hx196_0 := (HB.out.cell (World.block_lt_of_cell? w _ hx196_0)).trans hx196_0; have HR196_0 := Aside0.mk hi196_0; have HC196_0 := Aside0.mk hl196_0; clear hi196_0 hl196_0) | ((with_reducible refine gate_dst (N := 16) rfl ?_); refine Kd.R_make (Kd.int .i16) _ 85 rfl (N := 16) rfl 139 _ _ rfl (((rd_T34 l0 0).f0).length : Int) rfl rfl Try.underlying139 (.int .i16 0) 2 info85 rfl (by decide) (by omega) 0 (ok := fun _ => True) (okp := fun _ => True) rfl (fun _ hk => hk) trivial (of_decide_eq_true (by assumption)) (Nat.le_trans (Nat.mul_le_mul_right _ (of_decide_eq_true (by assumption) : (((rd_T34 l0 0).f0).length : Int).toNat ≤ 140737488355328)) (by omega)) (Below.refl _ _) (Nat.le_refl _) ?_; intro v198 w7 ho8 hb hg_ hnew_; clear hg_ hnew_; (first | rw [← Ny197.out] at ho8 | (simp only [Int.reduceToNat] at ho8; rw [← Ny197.out] at ho8)); have n0_ := Aside0.mk (Kd.R_lower ho8 (below_size z5_11_)); have n1_ := Aside0.mk (blk_below (g := gb195) (o := .cells #[.slice none 0 0] 34 (0, 0)) z5_8_ hb); have n2_ := Aside0.mk (below_step z5_11_ hb); clear BK195; clear HB; have HO199 := n0_; have BK195 := n1_; have HB := n2_; clear n0_ n1_ n2_; clear hb ho8))
    go_loopg [6] k (fun kq v6 w' => ∃ (x5_1 : List Int) (x6_1 : Int), v6 = .int .i64 x6_1 ∧ Aside0 (spec_l06Tree.l0 kq l0 l1 x5_1 x6_1 = some r) ∧ Aside0 (kq ≤ k) ∧ Aside0 (Kd.R (Kd.int .i16) 85 w' w.heap.size (fun _ => True) v198 x5_1) ∧ Aside0 (w'.heap[gb195]? = some (.cells #[(.slice none 0 0)] 34 (0, 0))) ∧ Aside0 (Below w.heap.size w w'))
    case atStart => exact ⟨(y197), (0), z5_10_, H', ⟨Nat.le_refl _⟩, ⟨by (with_reducible repeat (first | apply Kd.R_alloc | apply Kd.R_drewN | apply Kd.R_drew)); exact HO199.out⟩, ⟨by (with_reducible repeat (first | refine blk_drewN ?_ _ | refine blk_drew ?_ | refine blk_alloc ?_ _)); exact BK195.out⟩, ⟨by repeat (first | (with_reducible first | exact HB.out | apply below_alloc | apply pw_below_drewN | apply below_drew1 | refine below_set ?_ GE195.out) | exact HB.out)⟩⟩
    case round =>
     clear H'
     try clear c1
     try clear q1
     try clear hx1
     try clear p2
     try clear c3
     try clear c3b0
     try clear c3b1
     try clear c4
     try clear c4b0
     try clear c4b1
     try clear c5
     try clear c5b0
     try clear c5b1
     try clear hx196_0
     try clear q196
     obtain ⟨x5_1, x6_1, rfl, HA, HK1, HO_5, BK195, HB⟩ := hrel
     cases gk with
     | zero => exact absurd HA.out (by simp [spec_l06Tree.l0])
     | succ k1 =>
      have H := HA.out
      clear HA
      simp only [spec_l06Tree.l0] at H
      by_cases c9 : x6_1 < (l1.length : Int)
      ·
       rw [if_pos c9] at H
       have c9b0 : decide (x6_1 < (l1.length : Int)) = true := decide_eq_true c9
       clear c9
       by_cases c10 : 0 ≤ x6_1
       ·
        rw [if_pos c10] at H
        have c10b0 : decide (0 ≤ x6_1) = true := decide_eq_true c10
        clear c10
        by_cases c11 : 0 ≤ (rd l1 x6_1)
        ·
         rw [if_pos c11] at H
         have c11b0 : decide (0 ≤ (rd l1 x6_1)) = true := decide_eq_true c11
         clear c11
         by_cases c12 : (rd l1 x6_1) < (x5_1.length : Int)
         ·
          rw [if_pos c12] at H
          have c12b0 : decide ((rd l1 x6_1) < (x5_1.length : Int)) = true := decide_eq_true c12
          clear c12
          obtain ⟨y201, hy201⟩ : ∃ y_ : List Int, y_ = (x5_1.set ((rd l1 x6_1) : Int).toNat (IntKind.i16.wrap (x6_1))) := ⟨_, rfl⟩
          replace H : (spec_l06Tree.l0 k1 l0 l1 y201 (wrap64 (x6_1 + 1))) = some r := by first | (rw [hy201]; with_reducible exact H) | (have H2_ := (Option.bind_some _ _).symm.trans H; rw [hy201]; with_reducible exact H2_) | (have H2_ := (Option.bind_some _ _).symm.trans H; with_reducible exact H2_) | with_reducible exact H | (rw [hy201]; exact H) | exact H
          have Ny201 := Aside0.mk hy201
          clear hy201
          have H' := Aside0.mk H
          clear H
          have p200 : 0 ≤ (x6_1 : Int) := of_decide_eq_true (by assumption)
          have q200 : x6_1 < (l1.length : Int) := of_decide_eq_true (by assumption)
          obtain ⟨ad200, e200, hx200_0⟩ := Kd.at_int HR1.out x6_1 p200 q200
          cases e200
          replace hx200_0 := (HB.out.cell (World.block_lt_of_cell? w _ hx200_0)).trans hx200_0
          replace p200 := eq_true p200
          replace q200 := eq_true q200
          have p13 : 0 ≤ ((rd l1 x6_1) : Int) := of_decide_eq_true (by assumption)
          have q13 : ((rd l1 x6_1) : Int) < ((x5_1.length : Int) : Int) := of_decide_eq_true (by assumption)
          obtain ⟨go13, co13, eo13, gb13, gl13, cl13, HG13⟩ := Kd.R_form HO_5.out (by omega)
          (first | cases eo13 | (injection eo13 with ea_ en_ ec_; (first | subst ea_ | (injection ea_ with ea_; subst ea_)); subst ec_; clear en_))
          have GB13 := Aside0.mk gb13
          have GG13 := Aside0.mk HG13
          clear gb13 gl13 HG13
          obtain ⟨hx13_0, hf13_0⟩ := Kd.R_celln 0 HO_5.out ((rd l1 x6_1) : Int) p13 q13
          replace p13 := eq_true p13
          replace q13 := eq_true q13
          have HP14 := Kd.R_putg HO_5.out ((rd l1 x6_1) : Int) (IntKind.i16.wrap (x6_1))
          go_wp2_with (first | ((with_reducible refine gate_store (t := 85) (p := 30) rfl ?_); refine store_event (t := 85) (p := 30) (v := ?vo_w15) (w1 := (wr.setCell ⟨go13, ((rd l1 x6_1) : Int).toNat, none⟩ (.int .i16 (IntKind.i16.wrap (x6_1))))) ?hg ?ho ?hn ?hr ?_; (case ho => rfl); (case hg => rfl); (case hn => rfl); (case hr => first | (go_simp; done) | (go_simp; rfl)); intro w15 hw; have hg : wr.grownBy w15 (some go13) := (by rw [hw]; exact HP14.2); have hp_ : Kd.R (Kd.int .i16) 85 w15 w.heap.size (fun _ => True) (.slice (some ⟨go13, 0, none⟩) x5_1.length co13) y201 := (by rw [hw, Ny201.out]; exact HP14.1); clear HP14; have n0_ := Aside0.mk (hp_); have n1_ := Aside0.mk (blk_grown (g := gb195) (o := .cells #[.slice none 0 0] 34 (0, 0)) z5_8_ hg (Kd.R_ne HO_5.out BK195.out (by decide))); have n2_ := Aside0.mk ((by rw [hw]; exact below_set (HB.out) GB13.out : Below w.heap.size w w15)); clear HO_5; clear BK195; clear HB; have HO_5 := n0_; have BK195 := n1_; have HB := n2_; clear n0_ n1_ n2_; clear hg hw hp_))
          go_roundg k1
          case measure => have := HK1.out; omega
          case rel => exact ⟨(y201), (wrap64 (x6_1 + 1)), z5_10_, H', ⟨by have := HK1.out; omega⟩, ⟨by (with_reducible repeat (first | apply Kd.R_alloc | apply Kd.R_drewN | apply Kd.R_drew)); exact HO_5.out⟩, ⟨by (with_reducible repeat (first | refine blk_drewN ?_ _ | refine blk_drew ?_ | refine blk_alloc ?_ _)); exact BK195.out⟩, ⟨by repeat (first | (with_reducible first | exact HB.out | apply below_alloc | apply pw_below_drewN | apply below_drew1 | refine below_set ?_ GE195.out) | exact HB.out)⟩⟩
         ·
          rw [if_neg c12] at H
          exact absurd H (by simp)
        ·
         rw [if_neg c11] at H
         exact absurd H (by simp)
       ·
        rw [if_neg c10] at H
        exact absurd H (by simp)
      ·
       rw [if_neg c9] at H
       have c9b0 : decide (x6_1 < (l1.length : Int)) = false := decide_eq_false c9
       clear c9
       have H' := Aside0.mk H
       clear H
       go_wp2_with (first | ((with_reducible refine gate_dst (N := 7) rfl ?_); refine box_event ?hg (N := 7) ?hd (cs := #[.slice none 0 0]) (t := 34) ?hr ?_; (case hd => rfl); (case hg => rfl); (case hr => first | (go_simp; done) | (go_simp; rfl)); intro gb202 hg w16 hbox hb; have n0_ := Aside0.mk (Kd.R_below z5_15_ hb); have n1_ := Aside0.mk (blk_below (g := gb195) (o := .cells #[.slice none 0 0] 34 (0, 0)) z5_8_ hb); have n2_ := Aside0.mk (below_step z5_11_ hb); have n3_ := Aside0.mk (hbox); have n4_ := Aside0.mk ((by rw [hg]; exact (below_size z5_11_) : w.heap.size ≤ gb202)); have n5_ := Aside0.mk ((by rw [hg]; exact (below_size z5_11_) : w.heap.size ≤ gb202)); have n6_ := Aside0.mk ((by rw [hg]; exact Nat.ne_of_lt (blk_lt (g := gb195) (o := .cells #[.slice none 0 0] 34 (0, 0)) z5_8_) : gb195 ≠ gb202)); have n7_ := Aside0.mk ((by rw [hg]; exact Nat.ne_of_gt (blk_lt (g := gb195) (o := .cells #[.slice none 0 0] 34 (0, 0)) z5_8_) : gb202 ≠ gb195)); clear HO_5; clear BK195; clear HB; have HO_5 := n0_; have BK195 := n1_; have HB := n2_; have BK202 := n3_; have GW202 := n4_; have GE202 := n5_; have NB195_202 := n6_; have NB202_195 := n7_; clear n0_ n1_ n2_ n3_ n4_ n5_ n6_ n7_; clear hb hbox hg; have hnb17 := NB202_195.out; have hnc17 := NB195_202.out; have hcz18_0 : w16.cell? ⟨gb202, 0, none⟩ = some (.slice none 0 0) := (blk_cell BK202.out 0).trans rfl; have hfz18_0 := blk_frozen BK202.out 0))
       go_loopg [8] k1 (fun kq v8 w' => ∃ (x8_2 : Int) (x203000_2 : List (S89)) (u203000 : Value), v8 = .int .i64 x8_2 ∧ Aside0 (spec_l06Tree.l1 kq l0 l1 x5_1 x8_2 x203000_2 = some r) ∧ Aside0 (kq ≤ k1) ∧ Aside0 (Kd.R (Kd.int .i16) 85 w' w.heap.size (fun _ => True) v198 x5_1) ∧ Aside0 (Kd.R k89 89 w' w.heap.size (fun _ => True) u203000 x203000_2) ∧ Aside0 (w'.heap[gb195]? = some (.cells #[(.slice none 0 0)] 34 (0, 0))) ∧ Aside0 (w'.heap[gb202]? = some (.cells #[u203000] 34 (0, 0))) ∧ Aside0 (Below w.heap.size w w'))
       case atStart => exact ⟨(0), (([] : List (S89))), (.slice none 0 0), z5_10_, H', ⟨Nat.le_refl _⟩, ⟨by (with_reducible repeat (first | apply Kd.R_alloc | apply Kd.R_drewN | apply Kd.R_drew)); exact Kd.R_mono (Kd.R_far (p := ⟨gb202, 0, none⟩) (Kd.R_types HO_5.out BK202.out (by decide)) (fun _ hk => hk.2) (.slice none 0 0)) (fun _ hk => trivial)⟩, ⟨by first | exact Kd.R_nil _ _ _ _ _ | exact Kd.N_nil _ _ _ _ _ | exact Kd.V_nil _ _ _ _ _ | exact Kd.Q_nil _ _ _ _ _ | exact Kd.S_nil _ _ _ _ _⟩, ⟨by (with_reducible repeat (first | refine blk_drewN ?_ _ | refine blk_drew ?_ | refine blk_alloc ?_ _)); refine blk_far ?_ NB195_202.out _; (with_reducible repeat (first | refine blk_drewN ?_ _ | refine blk_drew ?_ | refine blk_alloc ?_ _)); exact BK195.out⟩, ⟨by (with_reducible repeat (first | refine blk_drewN ?_ _ | refine blk_drew ?_ | refine blk_alloc ?_ _)); refine blk_put (cs := #[.slice none 0 0]) ?_ 0 _ rfl; (with_reducible repeat (first | refine blk_drewN ?_ _ | refine blk_drew ?_ | refine blk_alloc ?_ _)); exact BK202.out⟩, ⟨by repeat (first | (with_reducible first | exact HB.out | apply below_alloc | apply pw_below_drewN | apply below_drew1 | refine below_set ?_ GE195.out | refine below_set ?_ GE202.out) | exact HB.out)⟩⟩
       case round =>
        clear H'
        try clear c1
        try clear p1
        try clear q1
        try clear hx1
        try clear p2
        try clear q2
        try clear hx2
        try clear c3
        try clear c3b0
        try clear c3b1
        try clear c4
        try clear c4b0
        try clear c4b1
        try clear c5
        try clear c5b0
        try clear c5b1
        try clear p6
        try clear c9
        try clear c9b0
        try clear c10
        try clear c10b0
        try clear c11
        try clear c11b0
        try clear c12
        try clear c12b0
        try clear p13
        try clear q13
        try clear hx13
        try clear hf13
        try clear c17
        try clear hcz18_0
        try clear hfz18_0
        try clear hx13_0
        try clear hx196_0
        try clear hx200_0
        try clear p13
        try clear p2
        try clear p200
        try clear q1
        try clear q13
        try clear q196
        try clear q200
        obtain ⟨x8_2, x203000_2, u203000, rfl, HA, HK2, HO_5, HO_203000, BK195, BK202, HB⟩ := hrel
        cases gk with
        | zero => exact absurd HA.out (by simp [spec_l06Tree.l1])
        | succ k2 =>
         have H := HA.out
         clear HA
         simp only [spec_l06Tree.l1] at H
         by_cases c19 : x8_2 < (l1.length : Int)
         ·
          rw [if_pos c19] at H
          have c19b0 : decide (x8_2 < (l1.length : Int)) = true := decide_eq_true c19
          clear c19
          by_cases c20 : 0 < (l0.length : Int)
          ·
           rw [if_pos c20] at H
           have c20b0 : decide (0 < (l0.length : Int)) = true := decide_eq_true c20
           have c20b1 : decide (0 < l0.length) = true := decide_eq_true (by omega)
           clear c20
           by_cases c21 : 0 ≤ x8_2
           ·
            rw [if_pos c21] at H
            have c21b0 : decide (0 ≤ x8_2) = true := decide_eq_true c21
            clear c21
            by_cases c22 : 0 ≤ (rd l1 x8_2)
            ·
             rw [if_pos c22] at H
             have c22b0 : decide (0 ≤ (rd l1 x8_2)) = true := decide_eq_true c22
             clear c22
             by_cases c23 : (rd l1 x8_2) < (((rd_T34 l0 0).f0).length : Int)
             ·
              rw [if_pos c23] at H
              have c23b0 : decide ((rd l1 x8_2) < (((rd_T34 l0 0).f0).length : Int)) = true := decide_eq_true c23
              clear c23
              have H' := Aside0.mk H
              clear H
              try go_wp2
              have n0_ := Aside0.mk (Kd.R_drew HO_5.out)
              have n1_ := Aside0.mk (Kd.R_drew HO_203000.out)
              have n2_ := Aside0.mk (blk_drew BK195.out)
              have n3_ := Aside0.mk (blk_drew BK202.out)
              have n4_ := Aside0.mk (below_drew1 HB.out)
              clear HO_5
              clear HO_203000
              clear BK195
              clear BK202
              clear HB
              have HO_5 := n0_
              have HO_203000 := n1_
              have BK195 := n2_
              have BK202 := n3_
              have HB := n4_
              clear n0_ n1_ n2_ n3_ n4_
              have q203 : 0 < (l0.length : Int) := of_decide_eq_true (by assumption)
              obtain ⟨ad203, A203_0, c203_0, e203, hx203_0, hl203_0, hi203_0⟩ := rp_T34 HR0.out q203
              have hw203_0 := hx203_0
              obtain rfl : ad196 = ad203 := (by injection e203)
              replace hx203_0 := (HB.out.cell (World.block_lt_of_cell? w _ hx203_0)).trans hx203_0
              have HR203_0 := Aside0.mk hi203_0
              have HC203_0 := Aside0.mk hl203_0
              clear hi203_0 hl203_0
              have p204 : 0 ≤ (x8_2 : Int) := of_decide_eq_true (by assumption)
              have q204 : x8_2 < (l1.length : Int) := of_decide_eq_true (by assumption)
              obtain ⟨ad204, e204, hx204_0⟩ := Kd.at_int HR1.out x8_2 p204 q204
              have hw204_0 := hx204_0
              cases e204
              replace hx204_0 := (HB.out.cell (World.block_lt_of_cell? w _ hx204_0)).trans hx204_0
              replace p204 := eq_true p204
              replace q204 := eq_true q204
              have p205 : 0 ≤ ((rd l1 x8_2) : Int) := of_decide_eq_true (by assumption)
              have q205 : (rd l1 x8_2) < (((rd_T34 l0 0).f0).length : Int) := of_decide_eq_true (by assumption)
              obtain ⟨ad205, e205, hx205_0, hx205_1, hx205_2, hx205_3, hx205_4⟩ := at_T89 HR203_0.out (rd l1 x8_2) p205 q205
              have hw205_4 := hx205_4
              have hw205_3 := hx205_3
              have hw205_2 := hx205_2
              have hw205_1 := hx205_1
              have hw205_0 := hx205_0
              cases e205
              replace hx205_0 := (HB.out.cell (World.block_lt_of_cell? w _ hx205_0)).trans hx205_0
              replace hx205_1 := (HB.out.cell (World.block_lt_of_cell? w _ hx205_1)).trans hx205_1
              replace hx205_2 := (HB.out.cell (World.block_lt_of_cell? w _ hx205_2)).trans hx205_2
              replace hx205_3 := (HB.out.cell (World.block_lt_of_cell? w _ hx205_3)).trans hx205_3
              replace hx205_4 := (HB.out.cell (World.block_lt_of_cell? w _ hx205_4)).trans hx205_4
              replace p205 := eq_true p205
              replace q205 := eq_true q205
              refine start_ (n := 12) (S := fun w' => w'.cell? ad196 = some (.slice (some ad205) ((rd_T34 l0 0).f0).length c203_0) ∧ w'.cell? (ad204.add (x8_2).toNat) = some (.int .i16 (rd l1 x8_2)) ∧ w'.cell? (ad205.add (((rd l1 x8_2)).toNat * 5)) = some (.int .i8 ((rd_T89 ((rd_T34 l0 0).f0) (rd l1 x8_2)).f0)) ∧ w'.cell? ⟨(ad205.add (((rd l1 x8_2)).toNat * 5)).block, (ad205.add (((rd l1 x8_2)).toNat * 5)).off + 1, none⟩ = some (.int .i8 ((rd_T89 ((rd_T34 l0 0).f0) (rd l1 x8_2)).f1)) ∧ w'.cell? ⟨(ad205.add (((rd l1 x8_2)).toNat * 5)).block, (ad205.add (((rd l1 x8_2)).toNat * 5)).off + 2, none⟩ = some (.int .i16 ((rd_T89 ((rd_T34 l0 0).f0) (rd l1 x8_2)).f2.f0)) ∧ w'.cell? ⟨(ad205.add (((rd l1 x8_2)).toNat * 5)).block, (ad205.add (((rd l1 x8_2)).toNat * 5)).off + 3, none⟩ = some (.int .i16 ((rd_T89 ((rd_T34 l0 0).f0) (rd l1 x8_2)).f2.f1)) ∧ w'.cell? ⟨(ad205.add (((rd l1 x8_2)).toNat * 5)).block, (ad205.add (((rd l1 x8_2)).toNat * 5)).off + 4, none⟩ = some (.int .i16 ((rd_T89 ((rd_T34 l0 0).f0) (rd l1 x8_2)).f2.f2))) (ds := []) #[false, false, false, false, false, false, false, false, false, false, false, false] (by kernel_rfl) rfl rfl ⟨((HB.out.cell (World.block_lt_of_cell? w _ hw203_0)).trans hw203_0), ((HB.out.cell (World.block_lt_of_cell? w _ hw204_0)).trans hw204_0), ((HB.out.cell (World.block_lt_of_cell? w _ hw205_0)).trans hw205_0), ((HB.out.cell (World.block_lt_of_cell? w _ hw205_1)).trans hw205_1), ((HB.out.cell (World.block_lt_of_cell? w _ hw205_2)).trans hw205_2), ((HB.out.cell (World.block_lt_of_cell? w _ hw205_3)).trans hw205_3), ((HB.out.cell (World.block_lt_of_cell? w _ hw205_4)).trans hw205_4)⟩ (fun hHeld => ?_); refine with_tabW spec_l06Tree.tab10 spec_l06Tree.bits10 (fun HT_ HW_ => ?_)
              generalize wr.drew = w24 at HO_5 HO_203000 BK195 BK202 HB HR203_0 hx203_0 hx204_0 hx205_0 hx205_1 hx205_2 hx205_3 hx205_4 hHeld ⊢
              refine pure_ (i := 0) (N := some 38) (v := ?_) (a' := ?_) #[true, false, false, false, false, false, false, false, false, false, false, false] rfl rfl (any_of HT_.out (by kernel_rfl)) (fun _ _ _ h => h) (Or.inl ⟨by rfl, ?_⟩) ?_ ?_
              rotate_left
              ·
               intro w'
               go_simp
               with_reducible rfl
              rotate_left
              ·
               simp only [Act.put, sA_, sB_, sC_, i64_w, i32_w]
               rfl
              refine pure_ (i := 1) (N := some 39) (v := ?_) (a' := ?_) #[true, true, false, false, false, false, false, false, false, false, false, false] rfl rfl (any_of HT_.out (by kernel_rfl)) (fun _ _ _ h => h) (Or.inl ⟨by rfl, ?_⟩) ?_ ?_
              rotate_left
              ·
               intro w'
               go_simp
               with_reducible rfl
              rotate_left
              ·
               simp only [Act.put, sA_, sB_, sC_, i64_w, i32_w]
               rfl
              refine pure_ (i := 2) (N := some 40) (v := ?_) (a' := ?_) #[true, true, true, false, false, false, false, false, false, false, false, false] rfl rfl (any_of HT_.out (by kernel_rfl)) (fun _ _ _ h => h) (Or.inl ⟨by rfl, ?_⟩) ?_ ?_
              rotate_left
              ·
               intro w'
               go_simp
               with_reducible rfl
              rotate_left
              ·
               simp only [Act.put, sA_, sB_, sC_, i64_w, i32_w]
               rfl
              refine pure_ (i := 4) (N := some 42) (v := ?_) (a' := ?_) #[true, true, true, false, true, false, false, false, false, false, false, false] rfl rfl (any_of HT_.out (by kernel_rfl)) (fun _ _ _ h => h) (Or.inl ⟨by rfl, ?_⟩) ?_ ?_
              rotate_left
              ·
               intro w'
               go_simp
               with_reducible rfl
              rotate_left
              ·
               simp only [Act.put, sA_, sB_, sC_, i64_w, i32_w]
               rfl
              refine pure_ (i := 5) (N := some 43) (v := ?_) (a' := ?_) #[true, true, true, false, true, true, false, false, false, false, false, false] rfl rfl (any_of HT_.out (by kernel_rfl)) (fun _ _ _ h => h) (Or.inl ⟨by rfl, ?_⟩) ?_ ?_
              rotate_left
              ·
               intro w'
               go_simp
               with_reducible rfl
              rotate_left
              ·
               simp only [Act.put, sA_, sB_, sC_, i64_w, i32_w]
               rfl
              refine pure_ (i := 6) (N := some 44) (v := ?_) (a' := ?_) #[true, true, true, false, true, true, true, false, false, false, false, false] rfl rfl (any_of HT_.out (by kernel_rfl)) (fun _ _ _ h => h) (Or.inl ⟨by rfl, ?_⟩) ?_ ?_
              rotate_left
              ·
               intro w'
               go_simp
               with_reducible rfl
              rotate_left
              ·
               simp only [Act.put, sA_, sB_, sC_, i64_w, i32_w]
               rfl
              refine take_ (i := 3) (N := some 41) (v := ?_) (a' := ?_) #[true, true, true, true, true, true, true, false, false, false, false, false] rfl rfl (take_ofW HT_.out HW_.out (by kernel_rfl)) (fun _ _ _ h => h) (Or.inl ⟨by rfl, ?_⟩) hHeld ?_ ?_
              rotate_left
              ·
               rintro w' ⟨s0, s1, s2, s3, s4, s5, s6⟩
               go_simp
               with_reducible rfl
              rotate_left
              ·
               simp only [Act.put, sA_, sB_, sC_, i64_w, i32_w]
               rfl
              refine take_ (i := 7) (N := some 45) (v := ?_) (a' := ?_) #[true, true, true, true, true, true, true, true, false, false, false, false] rfl rfl (take_ofW HT_.out HW_.out (by kernel_rfl)) (fun _ _ _ h => h) (Or.inl ⟨by rfl, ?_⟩) hHeld ?_ ?_
              rotate_left
              ·
               rintro w' ⟨s0, s1, s2, s3, s4, s5, s6⟩
               go_simp
               with_reducible rfl
              rotate_left
              ·
               simp only [Act.put, sA_, sB_, sC_, i64_w, i32_w]
               rfl
              refine pure_ (i := 8) (N := some 46) (v := ?_) (a' := ?_) #[true, true, true, true, true, true, true, true, true, false, false, false] rfl rfl (any_of HT_.out (by kernel_rfl)) (fun _ _ _ h => h) (Or.inl ⟨by rfl, ?_⟩) ?_ ?_
              rotate_left
              ·
               intro w'
               go_simp
               with_reducible rfl
              rotate_left
              ·
               simp only [Act.put, sA_, sB_, sC_, i64_w, i32_w]
               rfl
              refine take_ (i := 9) (N := some 47) (v := ?_) (a' := ?_) #[true, true, true, true, true, true, true, true, true, true, false, false] rfl rfl (take_ofW HT_.out HW_.out (by kernel_rfl)) (fun _ _ _ h => h) (Or.inl ⟨by rfl, ?_⟩) hHeld ?_ ?_
              rotate_left
              ·
               rintro w' ⟨s0, s1, s2, s3, s4, s5, s6⟩
               go_simp
               with_reducible rfl
              rotate_left
              ·
               simp only [Act.put, sA_, sB_, sC_, i64_w, i32_w]
               rfl
              refine one_ (i := 10) (N := some 9) #[true, true, true, true, true, true, true, true, true, true, true, false] rfl rfl (one_of HT_.out (by kernel_rfl)) (by decide) (fun K hK => ?_)
              refine box_step ?hg (N := 9) ?hd (cs := #[.int .i8 0, .int .i8 0, .int .i16 0, .int .i16 0, .int .i16 0]) (t := 89) ?hr ?_; (case hd => rfl); (case hg => rfl); (case hr => first | (go_simp; done) | (go_simp; rfl))
              intro gb206 hg w25 hbox hb
              have n0_ := Aside0.mk (Kd.R_below z5_15_ hb)
              have n1_ := Aside0.mk (Kd.R_below (Kd.R_elderB z5_14_ gb206 (Nat.le_of_eq hg.symm)) hb)
              have n2_ := Aside0.mk (blk_below (g := gb195) (o := .cells #[.slice none 0 0] 34 (0, 0)) z5_8_ hb)
              have n3_ := Aside0.mk (blk_below (g := gb202) (o := .cells #[u203000] 34 (0, 0)) z5_13_ hb)
              have n4_ := Aside0.mk (below_step z5_16_ hb)
              have n5_ := Aside0.mk (hbox)
              have n6_ := Aside0.mk ((by rw [hg]; exact (below_size z5_16_) : w.heap.size ≤ gb206))
              have n7_ := Aside0.mk ((by rw [hg]; exact (below_size z5_16_) : w.heap.size ≤ gb206))
              have n8_ := Aside0.mk ((by rw [hg]; exact Nat.ne_of_lt (blk_lt (g := gb195) (o := .cells #[.slice none 0 0] 34 (0, 0)) z5_8_) : gb195 ≠ gb206))
              have n9_ := Aside0.mk ((by rw [hg]; exact Nat.ne_of_gt (blk_lt (g := gb195) (o := .cells #[.slice none 0 0] 34 (0, 0)) z5_8_) : gb206 ≠ gb195))
              have n10_ := Aside0.mk ((by rw [hg]; exact Nat.ne_of_lt (blk_lt (g := gb202) (o := .cells #[u203000] 34 (0, 0)) z5_13_) : gb202 ≠ gb206))
              have n11_ := Aside0.mk ((by rw [hg]; exact Nat.ne_of_gt (blk_lt (g := gb202) (o := .cells #[u203000] 34 (0, 0)) z5_13_) : gb206 ≠ gb202))
              clear HO_5
              clear HO_203000
              clear BK195
              clear BK202
              clear HB
              have HO_5 := n0_
              have HO_203000 := n1_
              have BK195 := n2_
              have BK202 := n3_
              have HB := n4_
              have BK206 := n5_
              have GW206 := n6_
              have GE206 := n7_
              have NB195_206 := n8_
              have NB206_195 := n9_
              have NB202_206 := n10_
              have NB206_202 := n11_
              clear n0_ n1_ n2_ n3_ n4_ n5_ n6_ n7_ n8_ n9_ n10_ n11_
              clear hb hbox hg
              refine hK.out _ _ ⟨((HB.out.cell (World.block_lt_of_cell? w _ hw203_0)).trans hw203_0), ((HB.out.cell (World.block_lt_of_cell? w _ hw204_0)).trans hw204_0), ((HB.out.cell (World.block_lt_of_cell? w _ hw205_0)).trans hw205_0), ((HB.out.cell (World.block_lt_of_cell? w _ hw205_1)).trans hw205_1), ((HB.out.cell (World.block_lt_of_cell? w _ hw205_2)).trans hw205_2), ((HB.out.cell (World.block_lt_of_cell? w _ hw205_3)).trans hw205_3), ((HB.out.cell (World.block_lt_of_cell? w _ hw205_4)).trans hw205_4)⟩ (fun hHeld => ?_)
              clear hK K
              refine norm_ (a' := ?_) ?_ ?_
              rotate_left
              ·
               show Act.put _ (some 9) _ = _
               simp only [Act.put, sA_, sB_, sC_, i64_w, i32_w]
               rfl
              refine one_ (i := 11) (N := none) #[true, true, true, true, true, true, true, true, true, true, true, true] rfl rfl (one_of HT_.out (by kernel_rfl)) (by decide) (fun K hK => ?_)
              have hs26 : w25.cell? ⟨gb206, 0, none⟩ = some (.int .i8 0) := (blk_cell BK206.out 0).trans rfl
              have hfs26 := blk_frozen BK206.out 0
              have hns26_0 := NB195_206.out
              have hns26_1 := NB202_206.out
              have hms26_0 := NB206_195.out
              have hms26_1 := NB206_202.out
              have hs27 : w25.cell? ⟨gb206, 1, none⟩ = some (.int .i8 0) := (blk_cell BK206.out 1).trans rfl
              have hfs27 := blk_frozen BK206.out 1
              have hns27_0 := NB195_206.out
              have hns27_1 := NB202_206.out
              have hms27_0 := NB206_195.out
              have hms27_1 := NB206_202.out
              have hs28 : w25.cell? ⟨gb206, 2, none⟩ = some (.int .i16 0) := (blk_cell BK206.out 2).trans rfl
              have hfs28 := blk_frozen BK206.out 2
              have hns28_0 := NB195_206.out
              have hns28_1 := NB202_206.out
              have hms28_0 := NB206_195.out
              have hms28_1 := NB206_202.out
              have hs29 : w25.cell? ⟨gb206, 3, none⟩ = some (.int .i16 0) := (blk_cell BK206.out 3).trans rfl
              have hfs29 := blk_frozen BK206.out 3
              have hns29_0 := NB195_206.out
              have hns29_1 := NB202_206.out
              have hms29_0 := NB206_195.out
              have hms29_1 := NB206_202.out
              have hs30 : w25.cell? ⟨gb206, 4, none⟩ = some (.int .i16 0) := (blk_cell BK206.out 4).trans rfl
              have hfs30 := blk_frozen BK206.out 4
              have hns30_0 := NB195_206.out
              have hns30_1 := NB202_206.out
              have hms30_0 := NB206_195.out
              have hms30_1 := NB206_202.out
              refine skip_ (w1 := ?_) (by rfl) rfl ?_ ?_
              rotate_left
              ·
               go_simp
               rfl
              refine hK.out _ _ ⟨((cell_far (p := ⟨gb206, _, none⟩) z5_7_ _).trans (((cell_far (p := ⟨gb206, _, none⟩) z5_7_ _).trans (((cell_far (p := ⟨gb206, _, none⟩) z5_7_ _).trans (((cell_far (p := ⟨gb206, _, none⟩) z5_7_ _).trans (((cell_far (p := ⟨gb206, _, none⟩) z5_7_ _).trans (hHeld.1)))))))))), ((cell_far (p := ⟨gb206, _, none⟩) z5_6_ _).trans (((cell_far (p := ⟨gb206, _, none⟩) z5_6_ _).trans (((cell_far (p := ⟨gb206, _, none⟩) z5_6_ _).trans (((cell_far (p := ⟨gb206, _, none⟩) z5_6_ _).trans (((cell_far (p := ⟨gb206, _, none⟩) z5_6_ _).trans (hHeld.2.1)))))))))), ((cell_far (p := ⟨gb206, _, none⟩) z5_5_ _).trans (((cell_far (p := ⟨gb206, _, none⟩) z5_5_ _).trans (((cell_far (p := ⟨gb206, _, none⟩) z5_5_ _).trans (((cell_far (p := ⟨gb206, _, none⟩) z5_5_ _).trans (((cell_far (p := ⟨gb206, _, none⟩) z5_5_ _).trans (hHeld.2.2.1)))))))))), ((cell_far (p := ⟨gb206, _, none⟩) z5_4_ _).trans (((cell_far (p := ⟨gb206, _, none⟩) z5_4_ _).trans (((cell_far (p := ⟨gb206, _, none⟩) z5_4_ _).trans (((cell_far (p := ⟨gb206, _, none⟩) z5_4_ _).trans (((cell_far (p := ⟨gb206, _, none⟩) z5_4_ _).trans (hHeld.2.2.2.1)))))))))), ((cell_far (p := ⟨gb206, _, none⟩) z5_3_ _).trans (((cell_far (p := ⟨gb206, _, none⟩) z5_3_ _).trans (((cell_far (p := ⟨gb206, _, none⟩) z5_3_ _).trans (((cell_far (p := ⟨gb206, _, none⟩) z5_3_ _).trans (((cell_far (p := ⟨gb206, _, none⟩) z5_3_ _).trans (hHeld.2.2.2.2.1)))))))))), ((cell_far (p := ⟨gb206, _, none⟩) z5_2_ _).trans (((cell_far (p := ⟨gb206, _, none⟩) z5_2_ _).trans (((cell_far (p := ⟨gb206, _, none⟩) z5_2_ _).trans (((cell_far (p := ⟨gb206, _, none⟩) z5_2_ _).trans (((cell_far (p := ⟨gb206, _, none⟩) z5_2_ _).trans (hHeld.2.2.2.2.2.1)))))))))), ((cell_far (p := ⟨gb206, _, none⟩) z5_1_ _).trans (((cell_far (p := ⟨gb206, _, none⟩) z5_1_ _).trans (((cell_far (p := ⟨gb206, _, none⟩) z5_1_ _).trans (((cell_far (p := ⟨gb206, _, none⟩) z5_1_ _).trans (((cell_far (p := ⟨gb206, _, none⟩) z5_1_ _).trans (hHeld.2.2.2.2.2.2))))))))))⟩ (fun hHeld => ?_)
              clear hK K
              refine done_ (done_of HT_.out (by kernel_rfl)) ?_
              try go_wp2
              go_loopg [10] k2 (fun kq v10 w' => ∃ (x10_3 : Int) (x207002_3 : Int) (x207003_3 : Int) (x207004_3 : Int), v10 = .int .i64 x10_3 ∧ Aside0 (spec_l06Tree.l2 kq l0 l1 x5_1 x8_2 x10_3 x203000_2 ((rd_T89 ((rd_T34 l0 0).f0) (rd l1 x8_2)).f0) ((rd_T89 ((rd_T34 l0 0).f0) (rd l1 x8_2)).f1) x207002_3 x207003_3 x207004_3 = some r) ∧ Aside0 (kq ≤ k2) ∧ Aside0 (Kd.R (Kd.int .i16) 85 w' w.heap.size (fun _ => True) v198 x5_1) ∧ Aside0 (Kd.R k89 89 w' w.heap.size (fun k_ => k_ ≠ gb206) u203000 x203000_2) ∧ Aside0 (w'.heap[gb195]? = some (.cells #[(.slice none 0 0)] 34 (0, 0))) ∧ Aside0 (w'.heap[gb202]? = some (.cells #[u203000] 34 (0, 0))) ∧ Aside0 (w'.heap[gb206]? = some (.cells #[.int .i8 ((rd_T89 ((rd_T34 l0 0).f0) (rd l1 x8_2)).f0), .int .i8 ((rd_T89 ((rd_T34 l0 0).f0) (rd l1 x8_2)).f1), .int .i16 x207002_3, .int .i16 x207003_3, .int .i16 x207004_3] 89 (0, 0))) ∧ Aside0 (Below w.heap.size w w'))
              case atStart => exact ⟨(0), ((rd_T89 ((rd_T34 l0 0).f0) (rd l1 x8_2)).f2.f0), ((rd_T89 ((rd_T34 l0 0).f0) (rd l1 x8_2)).f2.f1), ((rd_T89 ((rd_T34 l0 0).f0) (rd l1 x8_2)).f2.f2), z5_10_, H', ⟨Nat.le_refl _⟩, ⟨by (with_reducible repeat (first | apply Kd.R_alloc | apply Kd.R_drewN | apply Kd.R_drew)); exact Kd.R_mono (Kd.R_far (p := ⟨gb206, 4, none⟩) (Kd.R_far (p := ⟨gb206, 3, none⟩) (Kd.R_far (p := ⟨gb206, 2, none⟩) (Kd.R_far (p := ⟨gb206, 1, none⟩) (Kd.R_far (p := ⟨gb206, 0, none⟩) (Kd.R_types HO_5.out BK206.out (by decide)) (fun _ hk => hk.2) (.int .i8 ((rd_T89 ((rd_T34 l0 0).f0) (rd l1 x8_2)).f0))) (fun _ hk => hk.2) (.int .i8 ((rd_T89 ((rd_T34 l0 0).f0) (rd l1 x8_2)).f1))) (fun _ hk => hk.2) (.int .i16 ((rd_T89 ((rd_T34 l0 0).f0) (rd l1 x8_2)).f2.f0))) (fun _ hk => hk.2) (.int .i16 ((rd_T89 ((rd_T34 l0 0).f0) (rd l1 x8_2)).f2.f1))) (fun _ hk => hk.2) (.int .i16 ((rd_T89 ((rd_T34 l0 0).f0) (rd l1 x8_2)).f2.f2))) (fun _ hk => trivial)⟩, ⟨by (with_reducible repeat (first | apply Kd.R_alloc | apply Kd.R_drewN | apply Kd.R_drew)); exact Kd.R_mono (Kd.R_far (p := ⟨gb206, 4, none⟩) (Kd.R_far (p := ⟨gb206, 3, none⟩) (Kd.R_far (p := ⟨gb206, 2, none⟩) (Kd.R_far (p := ⟨gb206, 1, none⟩) (Kd.R_far (p := ⟨gb206, 0, none⟩) (Kd.R_mono HO_203000.out (fun k_ hk => (⟨hk, hk.2⟩ : _ ∧ k_ ≠ gb206))) (fun _ hk => hk.2) (.int .i8 ((rd_T89 ((rd_T34 l0 0).f0) (rd l1 x8_2)).f0))) (fun _ hk => hk.2) (.int .i8 ((rd_T89 ((rd_T34 l0 0).f0) (rd l1 x8_2)).f1))) (fun _ hk => hk.2) (.int .i16 ((rd_T89 ((rd_T34 l0 0).f0) (rd l1 x8_2)).f2.f0))) (fun _ hk => hk.2) (.int .i16 ((rd_T89 ((rd_T34 l0 0).f0) (rd l1 x8_2)).f2.f1))) (fun _ hk => hk.2) (.int .i16 ((rd_T89 ((rd_T34 l0 0).f0) (rd l1 x8_2)).f2.f2))) (fun _ hk => hk.1.2)⟩, ⟨by (with_reducible repeat (first | refine blk_drewN ?_ _ | refine blk_drew ?_ | refine blk_alloc ?_ _)); refine blk_far ?_ NB195_206.out _; (with_reducible repeat (first | refine blk_drewN ?_ _ | refine blk_drew ?_ | refine blk_alloc ?_ _)); refine blk_far ?_ NB195_206.out _; (with_reducible repeat (first | refine blk_drewN ?_ _ | refine blk_drew ?_ | refine blk_alloc ?_ _)); refine blk_far ?_ NB195_206.out _; (with_reducible repeat (first | refine blk_drewN ?_ _ | refine blk_drew ?_ | refine blk_alloc ?_ _)); refine blk_far ?_ NB195_206.out _; (with_reducible repeat (first | refine blk_drewN ?_ _ | refine blk_drew ?_ | refine blk_alloc ?_ _)); refine blk_far ?_ NB195_206.out _; (with_reducible repeat (first | refine blk_drewN ?_ _ | refine blk_drew ?_ | refine blk_alloc ?_ _)); exact BK195.out⟩, ⟨by (with_reducible repeat (first | refine blk_drewN ?_ _ | refine blk_drew ?_ | refine blk_alloc ?_ _)); refine blk_far ?_ NB202_206.out _; (with_reducible repeat (first | refine blk_drewN ?_ _ | refine blk_drew ?_ | refine blk_alloc ?_ _)); refine blk_far ?_ NB202_206.out _; (with_reducible repeat (first | refine blk_drewN ?_ _ | refine blk_drew ?_ | refine blk_alloc ?_ _)); refine blk_far ?_ NB202_206.out _; (with_reducible repeat (first | refine blk_drewN ?_ _ | refine blk_drew ?_ | refine blk_alloc ?_ _)); refine blk_far ?_ NB202_206.out _; (with_reducible repeat (first | refine blk_drewN ?_ _ | refine blk_drew ?_ | refine blk_alloc ?_ _)); refine blk_far ?_ NB202_206.out _; (with_reducible repeat (first | refine blk_drewN ?_ _ | refine blk_drew ?_ | refine blk_alloc ?_ _)); exact BK202.out⟩, ⟨by (with_reducible repeat (first | refine blk_drewN ?_ _ | refine blk_drew ?_ | refine blk_alloc ?_ _)); refine blk_put (cs := #[.int .i8 ((rd_T89 ((rd_T34 l0 0).f0) (rd l1 x8_2)).f0), .int .i8 ((rd_T89 ((rd_T34 l0 0).f0) (rd l1 x8_2)).f1), .int .i16 ((rd_T89 ((rd_T34 l0 0).f0) (rd l1 x8_2)).f2.f0), .int .i16 ((rd_T89 ((rd_T34 l0 0).f0) (rd l1 x8_2)).f2.f1), .int .i16 0]) ?_ 4 _ rfl; (with_reducible repeat (first | refine blk_drewN ?_ _ | refine blk_drew ?_ | refine blk_alloc ?_ _)); refine blk_put (cs := #[.int .i8 ((rd_T89 ((rd_T34 l0 0).f0) (rd l1 x8_2)).f0), .int .i8 ((rd_T89 ((rd_T34 l0 0).f0) (rd l1 x8_2)).f1), .int .i16 ((rd_T89 ((rd_T34 l0 0).f0) (rd l1 x8_2)).f2.f0), .int .i16 0, .int .i16 0]) ?_ 3 _ rfl; (with_reducible repeat (first | refine blk_drewN ?_ _ | refine blk_drew ?_ | refine blk_alloc ?_ _)); refine blk_put (cs := #[.int .i8 ((rd_T89 ((rd_T34 l0 0).f0) (rd l1 x8_2)).f0), .int .i8 ((rd_T89 ((rd_T34 l0 0).f0) (rd l1 x8_2)).f1), .int .i16 0, .int .i16 0, .int .i16 0]) ?_ 2 _ rfl; (with_reducible repeat (first | refine blk_drewN ?_ _ | refine blk_drew ?_ | refine blk_alloc ?_ _)); refine blk_put (cs := #[.int .i8 ((rd_T89 ((rd_T34 l0 0).f0) (rd l1 x8_2)).f0), .int .i8 0, .int .i16 0, .int .i16 0, .int .i16 0]) ?_ 1 _ rfl; (with_reducible repeat (first | refine blk_drewN ?_ _ | refine blk_drew ?_ | refine blk_alloc ?_ _)); refine blk_put (cs := #[.int .i8 0, .int .i8 0, .int .i16 0, .int .i16 0, .int .i16 0]) ?_ 0 _ rfl; (with_reducible repeat (first | refine blk_drewN ?_ _ | refine blk_drew ?_ | refine blk_alloc ?_ _)); exact BK206.out⟩, ⟨by repeat (first | (with_reducible first | exact HB.out | apply below_alloc | apply pw_below_drewN | apply below_drew1 | refine below_set ?_ GE195.out | refine below_set ?_ GE202.out | refine below_set ?_ GE206.out) | exact HB.out)⟩⟩
              case round =>
               clear H'
               try clear c1
               try clear p1
               try clear q1
               try clear hx1
               try clear c2
               try clear p2
               try clear q2
               try clear hx2
               try clear c3
               try clear c3b0
               try clear c3b1
               try clear c4
               try clear c4b0
               try clear c4b1
               try clear c5
               try clear c5b0
               try clear c5b1
               try clear p6
               try clear c9
               try clear c9b0
               try clear c10
               try clear c10b0
               try clear c11
               try clear c11b0
               try clear c12
               try clear c12b0
               try clear p13
               try clear q13
               try clear hx13
               try clear hf13
               try clear c17
               try clear c19
               try clear c19b0
               try clear q19
               try clear hx19
               try clear c20
               try clear c20b0
               try clear c20b1
               try clear p20
               try clear q20
               try clear hx20
               try clear c21
               try clear c21b0
               try clear c22
               try clear c22b0
               try clear c23
               try clear c23b0
               try clear hcz18_0
               try clear hfz18_0
               try clear hx13_0
               try clear hx196_0
               try clear hx200_0
               try clear hx203_0
               try clear hx204_0
               try clear hx205_0
               try clear hx205_1
               try clear hx205_2
               try clear hx205_3
               try clear hx205_4
               try clear p1
               try clear p13
               try clear p2
               try clear p200
               try clear p204
               try clear p205
               try clear p6
               try clear q1
               try clear q13
               try clear q196
               try clear q2
               try clear q200
               try clear q203
               try clear q204
               try clear q205
               obtain ⟨x10_3, x207002_3, x207003_3, x207004_3, rfl, HA, HK3, HO_5, HO_203000, BK195, BK202, BK206, HB⟩ := hrel
               cases gk with
               | zero => exact absurd HA.out (by simp [spec_l06Tree.l2])
               | succ k3 =>
                have H := HA.out
                clear HA
                simp only [spec_l06Tree.l2] at H
                replace H := Option.bind_eq_some_iff.mp H
                obtain ⟨t208, A310, H⟩ := H
                replace H : (if x10_3 < t208 then (if 0 ≤ x10_3 then (if x10_3 < 3 then (if 0 ≤ (rd [x207002_3, x207003_3, x207004_3] x10_3) then (if (rd [x207002_3, x207003_3, x207004_3] x10_3) < (x5_1.length : Int) then (spec_l06Tree.l2 k3 l0 l1 x5_1 x8_2 (wrap64 (x10_3 + 1)) x203000_2 ((rd_T89 ((rd_T34 l0 0).f0) (rd l1 x8_2)).f0) ((rd_T89 ((rd_T34 l0 0).f0) (rd l1 x8_2)).f1) (up 0 x10_3 (rd x5_1 (rd [x207002_3, x207003_3, x207004_3] x10_3)) x207002_3) (up 1 x10_3 (rd x5_1 (rd [x207002_3, x207003_3, x207004_3] x10_3)) x207003_3) (up 2 x10_3 (rd x5_1 (rd [x207002_3, x207003_3, x207004_3] x10_3)) x207004_3)) else (none)) else (none)) else (none)) else (none)) else (if x203000_2.length < 17592186044416 then (spec_l06Tree.l1 k3 l0 l1 x5_1 (wrap64 (x8_2 + 1)) (x203000_2 ++ [(⟨((rd_T89 ((rd_T34 l0 0).f0) (rd l1 x8_2)).f0), ((rd_T89 ((rd_T34 l0 0).f0) (rd l1 x8_2)).f1), (⟨x207002_3, x207003_3, x207004_3⟩ : S87)⟩ : S89)])) else (none))) = some r := H
                have A31 := Aside0.mk A310
                clear A310
                by_cases c32 : x10_3 < t208
                ·
                 rw [if_pos c32] at H
                 have c32b0 : decide (x10_3 < t208) = true := decide_eq_true c32
                 clear c32
                 by_cases c33 : 0 ≤ x10_3
                 ·
                  rw [if_pos c33] at H
                  have c33b0 : decide (0 ≤ x10_3) = true := decide_eq_true c33
                  clear c33
                  by_cases c34 : x10_3 < 3
                  ·
                   rw [if_pos c34] at H
                   have c34b0 : decide (x10_3 < 3) = true := decide_eq_true c34
                   clear c34
                   by_cases c35 : 0 ≤ (rd [x207002_3, x207003_3, x207004_3] x10_3)
                   ·
                    rw [if_pos c35] at H
                    have c35b0 : decide (0 ≤ (rd [x207002_3, x207003_3, x207004_3] x10_3)) = true := decide_eq_true c35
                    clear c35
                    by_cases c36 : (rd [x207002_3, x207003_3, x207004_3] x10_3) < (x5_1.length : Int)
                    ·
                     rw [if_pos c36] at H
                     have c36b0 : decide ((rd [x207002_3, x207003_3, x207004_3] x10_3) < (x5_1.length : Int)) = true := decide_eq_true c36
                     clear c36
                     have H' := Aside0.mk H
                     clear H
                     go_wp2_with (first | ((with_reducible refine gate_callee (f := 68) rfl ?_); refine goesL_ (some 49) rfl rfl Try.func68 (by kernel_rfl) rfl #[.pointer (some ⟨gb206, 0, none⟩)] rfl z5_18_ ?_; (with_reducible refine (spec_l06Ways.calls _ ([(⟨((rd_T89 ((rd_T34 l0 0).f0) (rd l1 x8_2)).f0), ((rd_T89 ((rd_T34 l0 0).f0) (rd l1 x8_2)).f1), (⟨x207002_3, x207003_3, x207004_3⟩ : S87)⟩ : S89)]).length [(⟨((rd_T89 ((rd_T34 l0 0).f0) (rd l1 x8_2)).f0), ((rd_T89 ((rd_T34 l0 0).f0) (rd l1 x8_2)).f1), (⟨x207002_3, x207003_3, x207004_3⟩ : S87)⟩ : S89)] t208 _ ?side1 ?side2 A31.out).mono ?_); (case side1 => refine Kd.C_block k89 (g := gb206) (cs := #[.int .i8 ((rd_T89 ((rd_T34 l0 0).f0) (rd l1 x8_2)).f0), .int .i8 ((rd_T89 ((rd_T34 l0 0).f0) (rd l1 x8_2)).f1), .int .i16 x207002_3, .int .i16 x207003_3, .int .i16 x207004_3]) (T := 89) z5_12_ (show Kd.K k89 _ (⟨((rd_T89 ((rd_T34 l0 0).f0) (rd l1 x8_2)).f0), ((rd_T89 ((rd_T34 l0 0).f0) (rd l1 x8_2)).f1), (⟨x207002_3, x207003_3, x207004_3⟩ : S87)⟩ : S89) [.int .i8 ((rd_T89 ((rd_T34 l0 0).f0) (rd l1 x8_2)).f0), .int .i8 ((rd_T89 ((rd_T34 l0 0).f0) (rd l1 x8_2)).f1), .int .i16 x207002_3, .int .i16 x207003_3, .int .i16 x207004_3] from k89_mk _ _) (by decide)); (case side2 => exact Nat.le_refl _); rintro e w' ⟨rfl, ⟨nd, rfl⟩⟩; refine ⟨_, rfl, ?_⟩; (try (rw [drewN_self wr]; generalize hq_ : World.drewN wr _ = wr; have n0_ : Aside0 (Kd.R k89 89 wr w.heap.size (fun k_ => k_ ≠ gb206) u203000 x203000_2) := ⟨by rw [← hq_]; exact z5_14_⟩; have n1_ : Aside0 (Kd.R (Kd.int .i16) 85 wr w.heap.size (fun _ => True) v198 x5_1) := ⟨by rw [← hq_]; exact z5_15_⟩; have n2_ : Aside0 (wr.heap[gb195]? = some (.cells #[.slice none 0 0] 34 (0, 0))) := ⟨by rw [← hq_]; exact z5_8_⟩; have n3_ : Aside0 (wr.heap[gb202]? = some (.cells #[u203000] 34 (0, 0))) := ⟨by rw [← hq_]; exact z5_13_⟩; have n4_ : Aside0 (wr.heap[gb206]? = some (.cells #[.int .i8 ((rd_T89 ((rd_T34 l0 0).f0) (rd l1 x8_2)).f0), .int .i8 ((rd_T89 ((rd_T34 l0 0).f0) (rd l1 x8_2)).f1), .int .i16 x207002_3, .int .i16 x207003_3, .int .i16 x207004_3] 89 (0, 0))) := ⟨by rw [← hq_]; exact z5_12_⟩; have n5_ : Aside0 (Below w.heap.size w wr) := ⟨by rw [← hq_]; exact z5_9_⟩; clear HO_203000 HO_5 BK195 BK202 BK206 HB hq_; have HO_203000 := n0_; have HO_5 := n1_; have BK195 := n2_; have BK202 := n3_; have BK206 := n4_; have HB := n5_; clear n0_ n1_ n2_ n3_ n4_ n5_)); have p209 : 0 ≤ (x10_3 : Int) := of_decide_eq_true (by assumption); have q209 : (x10_3 : Int) < 3 := of_decide_eq_true (by assumption); have hx209_0 := blk_arr (xs := [x207002_3, x207003_3, x207004_3]) (k := .i16) BK206.out 2 rfl x10_3 p209 q209; (try simp only [Nat.zero_add] at hx209_0); replace p209 := eq_true p209; replace q209 := eq_true q209; obtain ⟨Ao37, co37, eo37⟩ := Kd.R_slice HO_5.out; subst eo37; have p210 : 0 ≤ ((rd [x207002_3, x207003_3, x207004_3] x10_3) : Int) := of_decide_eq_true (by assumption); have q210 : (rd [x207002_3, x207003_3, x207004_3] x10_3) < (x5_1.length : Int) := of_decide_eq_true (by assumption); obtain ⟨ad210, e210, hx210_0⟩ := Kd.at_int (Kd.R_reads' HO_5.out).2.2 (rd [x207002_3, x207003_3, x207004_3] x10_3) p210 q210; cases e210; replace p210 := eq_true p210; replace q210 := eq_true q210; have p211 : 0 ≤ (x10_3 : Int) := of_decide_eq_true (by assumption); have q211 : (x10_3 : Int) < 3 := of_decide_eq_true (by assumption); have hx211_0 := blk_arr (xs := [x207002_3, x207003_3, x207004_3]) (k := .i16) BK206.out 2 rfl x10_3 p211 q211; have hf211_0 := blk_frozen BK206.out (2 + (x10_3 : Int).toNat); have hcs211 := Aside0.mk (show (x10_3 : Int) = 0 ∨ (x10_3 : Int) = 1 ∨ (x10_3 : Int) = 2 by omega); (try simp only [Nat.zero_add] at hx211_0); (try simp only [Nat.zero_add] at hf211_0); replace p211 := eq_true p211; replace q211 := eq_true q211) | ((with_reducible refine gate_store (t := 85) (p := 62) rfl ?_); refine store_event (t := 85) (p := 62) (v := ?vo_w38) (w1 := (wr.setCell ⟨gb206, 2 + (x10_3 : Int).toNat, none⟩ (.int .i16 (rd x5_1 (rd [x207002_3, x207003_3, x207004_3] x10_3))))) ?hg ?ho ?hn ?hr ?_; (case ho => rfl); (case hg => rfl); (case hn => rfl); (case hr => first | (go_simp; done) | (go_simp; rfl)); intro w38 hw; have n0_ : Aside0 (Kd.R (Kd.int .i16) 85 w38 w.heap.size (fun _ => True) (.slice (some ad210) x5_1.length co37) x5_1) := ⟨(by rw [hw]; exact (by (with_reducible repeat (first | apply Kd.R_alloc | apply Kd.R_drewN | apply Kd.R_drew)); exact Kd.R_mono (Kd.R_far (p := ⟨gb206, 2 + (x10_3 : Int).toNat, none⟩) (Kd.R_types HO_5.out BK206.out (by decide)) (fun _ hk => hk.2) (.int .i16 (rd x5_1 (rd [x207002_3, x207003_3, x207004_3] x10_3)))) (fun _ hk => trivial)))⟩; have n1_ : Aside0 (Kd.R k89 89 w38 w.heap.size (fun k_ => k_ ≠ gb206) u203000 x203000_2) := ⟨(by rw [hw]; exact (by (with_reducible repeat (first | apply Kd.R_alloc | apply Kd.R_drewN | apply Kd.R_drew)); exact Kd.R_mono (Kd.R_far (p := ⟨gb206, 2 + (x10_3 : Int).toNat, none⟩) (Kd.R_mono HO_203000.out (fun k_ hk => (⟨hk, hk⟩ : _ ∧ k_ ≠ gb206))) (fun _ hk => hk.2) (.int .i16 (rd x5_1 (rd [x207002_3, x207003_3, x207004_3] x10_3)))) (fun _ hk => hk.1)))⟩; have n2_ : Aside0 (w38.heap[gb195]? = some (.cells #[.slice none 0 0] 34 (0, 0))) := ⟨(by rw [hw]; exact (by (with_reducible repeat (first | refine blk_drewN ?_ _ | refine blk_drew ?_ | refine blk_alloc ?_ _)); refine blk_far ?_ NB195_206.out _; (with_reducible repeat (first | refine blk_drewN ?_ _ | refine blk_drew ?_ | refine blk_alloc ?_ _)); exact BK195.out))⟩; have n3_ : Aside0 (w38.heap[gb202]? = some (.cells #[u203000] 34 (0, 0))) := ⟨(by rw [hw]; exact (by (with_reducible repeat (first | refine blk_drewN ?_ _ | refine blk_drew ?_ | refine blk_alloc ?_ _)); refine blk_far ?_ NB202_206.out _; (with_reducible repeat (first | refine blk_drewN ?_ _ | refine blk_drew ?_ | refine blk_alloc ?_ _)); exact BK202.out))⟩; have n4_ : Aside0 (w38.heap[gb206]? = some (.cells #[.int .i8 ((rd_T89 ((rd_T34 l0 0).f0) (rd l1 x8_2)).f0), .int .i8 ((rd_T89 ((rd_T34 l0 0).f0) (rd l1 x8_2)).f1), .int .i16 (up 0 x10_3 (rd x5_1 (rd [x207002_3, x207003_3, x207004_3] x10_3)) x207002_3), .int .i16 (up 1 x10_3 (rd x5_1 (rd [x207002_3, x207003_3, x207004_3] x10_3)) x207003_3), .int .i16 (up 2 x10_3 (rd x5_1 (rd [x207002_3, x207003_3, x207004_3] x10_3)) x207004_3)] 89 (0, 0))) := ⟨(by rw [hw]; exact (by (with_reducible repeat (first | refine blk_drewN ?_ _ | refine blk_drew ?_ | refine blk_alloc ?_ _)); refine blk_put (cs := #[.int .i8 ((rd_T89 ((rd_T34 l0 0).f0) (rd l1 x8_2)).f0), .int .i8 ((rd_T89 ((rd_T34 l0 0).f0) (rd l1 x8_2)).f1), .int .i16 x207002_3, .int .i16 x207003_3, .int .i16 x207004_3]) ?_ (2 + (x10_3 : Int).toNat) _ (by rcases hcs211.out with h_ | h_ | h_ <;> rw [h_] <;> rfl); (with_reducible repeat (first | refine blk_drewN ?_ _ | refine blk_drew ?_ | refine blk_alloc ?_ _)); exact BK206.out))⟩; have n5_ : Aside0 (Below w.heap.size w w38) := ⟨(by rw [hw]; exact z5_9_)⟩; clear hw; clear HO_5; clear HO_203000; clear BK195; clear BK202; clear BK206; clear HB; have HO_5 := n0_; have HO_203000 := n1_; have BK195 := n2_; have BK202 := n3_; have BK206 := n4_; have HB := n5_; clear n0_ n1_ n2_ n3_ n4_ n5_))
                     go_roundg k3
                     case measure => have := HK1.out; have := HK2.out; have := HK3.out; omega
                     case rel => exact ⟨(wrap64 (x10_3 + 1)), (up 0 x10_3 (rd x5_1 (rd [x207002_3, x207003_3, x207004_3] x10_3)) x207002_3), (up 1 x10_3 (rd x5_1 (rd [x207002_3, x207003_3, x207004_3] x10_3)) x207003_3), (up 2 x10_3 (rd x5_1 (rd [x207002_3, x207003_3, x207004_3] x10_3)) x207004_3), z5_10_, H', ⟨by have := HK1.out; have := HK2.out; have := HK3.out; omega⟩, ⟨by (with_reducible repeat (first | apply Kd.R_alloc | apply Kd.R_drewN | apply Kd.R_drew)); exact HO_5.out⟩, ⟨by (with_reducible repeat (first | apply Kd.R_alloc | apply Kd.R_drewN | apply Kd.R_drew)); exact HO_203000.out⟩, ⟨by (with_reducible repeat (first | refine blk_drewN ?_ _ | refine blk_drew ?_ | refine blk_alloc ?_ _)); exact BK195.out⟩, ⟨by (with_reducible repeat (first | refine blk_drewN ?_ _ | refine blk_drew ?_ | refine blk_alloc ?_ _)); exact BK202.out⟩, ⟨by (with_reducible repeat (first | refine blk_drewN ?_ _ | refine blk_drew ?_ | refine blk_alloc ?_ _)); exact BK206.out⟩, ⟨by repeat (first | (with_reducible first | exact HB.out | apply below_alloc | apply pw_below_drewN | apply below_drew1 | refine below_set ?_ GE195.out | refine below_set ?_ GE202.out | refine below_set ?_ GE206.out) | exact HB.out)⟩⟩
                    ·
                     rw [if_neg c36] at H
                     exact absurd H (by simp)
                   ·
                    rw [if_neg c35] at H
                    exact absurd H (by simp)
                  ·
                   rw [if_neg c34] at H
                   exact absurd H (by simp)
                 ·
                  rw [if_neg c33] at H
                  exact absurd H (by simp)
                ·
                 rw [if_neg c32] at H
                 have c32b0 : decide (x10_3 < t208) = false := decide_eq_false c32
                 clear c32
                 by_cases c39 : x203000_2.length < 17592186044416
                 ·
                  rw [if_pos c39] at H
                  have LMc39 := Aside0.mk c39
                  clear c39
                  obtain ⟨y212, hy212⟩ : ∃ y_ : List (S89), y_ = (x203000_2 ++ [(⟨((rd_T89 ((rd_T34 l0 0).f0) (rd l1 x8_2)).f0), ((rd_T89 ((rd_T34 l0 0).f0) (rd l1 x8_2)).f1), (⟨x207002_3, x207003_3, x207004_3⟩ : S87)⟩ : S89)]) := ⟨_, rfl⟩
                  replace H : (spec_l06Tree.l1 k3 l0 l1 x5_1 (wrap64 (x8_2 + 1)) y212) = some r := by first | (rw [hy212]; with_reducible exact H) | (have H2_ := (Option.bind_some _ _).symm.trans H; rw [hy212]; with_reducible exact H2_) | (have H2_ := (Option.bind_some _ _).symm.trans H; with_reducible exact H2_) | with_reducible exact H | (rw [hy212]; exact H) | exact H
                  have Ny212 := Aside0.mk hy212
                  clear hy212
                  have H' := Aside0.mk H
                  clear H
                  go_wp2_with (first | ((with_reducible refine gate_callee (f := 68) rfl ?_); refine goesL_ (some 49) rfl rfl Try.func68 (by kernel_rfl) rfl #[.pointer (some ⟨gb206, 0, none⟩)] rfl z5_18_ ?_; (with_reducible refine (spec_l06Ways.calls _ ([(⟨((rd_T89 ((rd_T34 l0 0).f0) (rd l1 x8_2)).f0), ((rd_T89 ((rd_T34 l0 0).f0) (rd l1 x8_2)).f1), (⟨x207002_3, x207003_3, x207004_3⟩ : S87)⟩ : S89)]).length [(⟨((rd_T89 ((rd_T34 l0 0).f0) (rd l1 x8_2)).f0), ((rd_T89 ((rd_T34 l0 0).f0) (rd l1 x8_2)).f1), (⟨x207002_3, x207003_3, x207004_3⟩ : S87)⟩ : S89)] t208 _ ?side1 ?side2 A31.out).mono ?_); (case side1 => refine Kd.C_block k89 (g := gb206) (cs := #[.int .i8 ((rd_T89 ((rd_T34 l0 0).f0) (rd l1 x8_2)).f0), .int .i8 ((rd_T89 ((rd_T34 l0 0).f0) (rd l1 x8_2)).f1), .int .i16 x207002_3, .int .i16 x207003_3, .int .i16 x207004_3]) (T := 89) z5_12_ (show Kd.K k89 _ (⟨((rd_T89 ((rd_T34 l0 0).f0) (rd l1 x8_2)).f0), ((rd_T89 ((rd_T34 l0 0).f0) (rd l1 x8_2)).f1), (⟨x207002_3, x207003_3, x207004_3⟩ : S87)⟩ : S89) [.int .i8 ((rd_T89 ((rd_T34 l0 0).f0) (rd l1 x8_2)).f0), .int .i8 ((rd_T89 ((rd_T34 l0 0).f0) (rd l1 x8_2)).f1), .int .i16 x207002_3, .int .i16 x207003_3, .int .i16 x207004_3] from k89_mk _ _) (by decide)); (case side2 => exact Nat.le_refl _); rintro e w' ⟨rfl, ⟨nd, rfl⟩⟩; refine ⟨_, rfl, ?_⟩; (try (rw [drewN_self wr]; generalize hq_ : World.drewN wr _ = wr; have n0_ : Aside0 (Kd.R k89 89 wr w.heap.size (fun k_ => k_ ≠ gb206) u203000 x203000_2) := ⟨by rw [← hq_]; exact z5_14_⟩; have n1_ : Aside0 (Kd.R (Kd.int .i16) 85 wr w.heap.size (fun _ => True) v198 x5_1) := ⟨by rw [← hq_]; exact z5_15_⟩; have n2_ : Aside0 (wr.heap[gb195]? = some (.cells #[.slice none 0 0] 34 (0, 0))) := ⟨by rw [← hq_]; exact z5_8_⟩; have n3_ : Aside0 (wr.heap[gb202]? = some (.cells #[u203000] 34 (0, 0))) := ⟨by rw [← hq_]; exact z5_13_⟩; have n4_ : Aside0 (wr.heap[gb206]? = some (.cells #[.int .i8 ((rd_T89 ((rd_T34 l0 0).f0) (rd l1 x8_2)).f0), .int .i8 ((rd_T89 ((rd_T34 l0 0).f0) (rd l1 x8_2)).f1), .int .i16 x207002_3, .int .i16 x207003_3, .int .i16 x207004_3] 89 (0, 0))) := ⟨by rw [← hq_]; exact z5_12_⟩; have n5_ : Aside0 (Below w.heap.size w wr) := ⟨by rw [← hq_]; exact z5_9_⟩; clear HO_203000 HO_5 BK195 BK202 BK206 HB hq_; have HO_203000 := n0_; have HO_5 := n1_; have BK195 := n2_; have BK202 := n3_; have BK206 := n4_; have HB := n5_; clear n0_ n1_ n2_ n3_ n4_ n5_)); have hnb40 := NB202_195.out; have hnc40 := NB195_202.out; have hnb41 := NB202_206.out; have hnc41 := NB206_202.out; have hcz42_0 : wr.cell? ⟨gb202, 0, none⟩ = some (u203000) := (blk_cell BK202.out 0).trans rfl; have hfz42_0 := blk_frozen BK202.out 0; have hnb43 := NB206_195.out; have hnc43 := NB195_206.out; have hcz44_0 : wr.cell? ⟨gb206, 0, none⟩ = some (.int .i8 ((rd_T89 ((rd_T34 l0 0).f0) (rd l1 x8_2)).f0)) := (blk_cell BK206.out 0).trans rfl; have hcz44_1 : wr.cell? ⟨gb206, 1, none⟩ = some (.int .i8 ((rd_T89 ((rd_T34 l0 0).f0) (rd l1 x8_2)).f1)) := (blk_cell BK206.out 1).trans rfl; have hcz44_2 : wr.cell? ⟨gb206, 2, none⟩ = some (.int .i16 x207002_3) := (blk_cell BK206.out 2).trans rfl; have hcz44_3 : wr.cell? ⟨gb206, 3, none⟩ = some (.int .i16 x207003_3) := (blk_cell BK206.out 3).trans rfl; have hcz44_4 : wr.cell? ⟨gb206, 4, none⟩ = some (.int .i16 x207004_3) := (blk_cell BK206.out 4).trans rfl; have hfz44_0 := blk_frozen BK206.out 0; have hfz44_1 := blk_frozen BK206.out 1; have hfz44_2 := blk_frozen BK206.out 2; have hfz44_3 := blk_frozen BK206.out 3; have hfz44_4 := blk_frozen BK206.out 4) | ((with_reducible refine gate_builtin (b := .append) (xs := #[.tmp 64, .tmp 66]) rfl ?_); at_builtin; refine Kd.R_append k89 (w0 := w) w.heap.size rfl (.tmp 64) (.tmp 66) 32 89 (.agg #[(.int .i8 0), (.int .i8 0), (.int .i16 0), (.int .i16 0), (.int .i16 0)]) 8 rfl Try.underlying32 info89 rfl (by decide) (by omega) u203000 x203000_2 (⟨((rd_T89 ((rd_T34 l0 0).f0) (rd l1 x8_2)).f0), ((rd_T89 ((rd_T34 l0 0).f0) (rd l1 x8_2)).f1), (⟨x207002_3, x207003_3, x207004_3⟩ : S87)⟩ : S89) [.int .i8 ((rd_T89 ((rd_T34 l0 0).f0) (rd l1 x8_2)).f0), .int .i8 ((rd_T89 ((rd_T34 l0 0).f0) (rd l1 x8_2)).f1), .int .i16 x207002_3, .int .i16 x207003_3, .int .i16 x207004_3] (fun k_ => k_ ≠ gb206) (fun _ => False) rfl rfl ?aP (fun _ hk => hk.elim) ?aF ?aO ?aB ?aS ?aL ?_; (case aP => exact k89_mkM _ _ _ (⟨((rd_T89 ((rd_T34 l0 0).f0) (rd l1 x8_2)).f0), ((rd_T89 ((rd_T34 l0 0).f0) (rd l1 x8_2)).f1), (⟨x207002_3, x207003_3, x207004_3⟩ : S87)⟩ : S89)); (case aB => exact z5_9_); (case aF => exact (fun k_ hk => Kd.freshB (g := gb206) (o := .cells #[.int .i8 ((rd_T89 ((rd_T34 l0 0).f0) (rd l1 x8_2)).f0), .int .i8 ((rd_T89 ((rd_T34 l0 0).f0) (rd l1 x8_2)).f1), .int .i16 x207002_3, .int .i16 x207003_3, .int .i16 x207004_3] 89 (0, 0)) z5_12_ k_ hk)); (case aO => exact z5_14_); (case aS => exact (below_size z5_9_)); (case aL => have := LMc39.out; omega); intro v213 w45 ho hb hg hat; rw [← Ny212.out] at ho; have n0_ := Aside0.mk (Kd.R_over' z5_15_ (Kd.R_typed z5_14_) (by decide) hg); have n1_ := Aside0.mk (blk_grown (g := gb195) (o := .cells #[.slice none 0 0] 34 (0, 0)) z5_8_ hg (Kd.R_ne HO_203000.out BK195.out (by decide))); have n2_ := Aside0.mk (blk_grown (g := gb202) (o := .cells #[u203000] 34 (0, 0)) z5_13_ hg (Kd.R_ne HO_203000.out BK202.out (by decide))); have n3_ := Aside0.mk (blk_grown (g := gb206) (o := .cells #[.int .i8 ((rd_T89 ((rd_T34 l0 0).f0) (rd l1 x8_2)).f0), .int .i8 ((rd_T89 ((rd_T34 l0 0).f0) (rd l1 x8_2)).f1), .int .i16 x207002_3, .int .i16 x207003_3, .int .i16 x207004_3] 89 (0, 0)) z5_12_ hg (Kd.R_away HO_203000.out (fun _ hk => hk))); have n4_ := Aside0.mk (hb); have n5_ := Aside0.mk (ho); clear HO_5; clear BK195; clear BK202; clear BK206; clear HB; clear HO_203000; have HO_5 := n0_; have BK195 := n1_; have BK202 := n2_; have BK206 := n3_; have HB := n4_; have HO214 := n5_; clear n0_ n1_ n2_ n3_ n4_ n5_; clear ho hb hg hat; obtain ⟨Ao46, co46, eo46⟩ := Kd.R_slice HO214.out; subst eo46; have hcz47_0 : w45.cell? ⟨gb202, 0, none⟩ = some (u203000) := (blk_cell BK202.out 0).trans rfl; have hfz47_0 := blk_frozen BK202.out 0))
                  go_roundg k3
                  case measure => have := HK1.out; have := HK2.out; have := HK3.out; omega
                  case rel => exact ⟨(wrap64 (x8_2 + 1)), (y212), (.slice Ao46 y212.length co46), z5_10_, H', ⟨by have := HK1.out; have := HK2.out; have := HK3.out; omega⟩, ⟨by (with_reducible repeat (first | apply Kd.R_alloc | apply Kd.R_drewN | apply Kd.R_drew)); exact Kd.R_mono (Kd.R_far (p := ⟨gb202, 0, none⟩) (Kd.R_types HO_5.out BK202.out (by decide)) (fun _ hk => hk.2) (.slice Ao46 y212.length co46)) (fun _ hk => trivial)⟩, ⟨by (with_reducible repeat (first | apply Kd.R_alloc | apply Kd.R_drewN | apply Kd.R_drew)); exact Kd.R_mono (Kd.R_far (p := ⟨gb202, 0, none⟩) (Kd.R_types HO214.out BK202.out (by decide)) (fun _ hk => hk.2) (.slice Ao46 y212.length co46)) (fun _ hk => trivial)⟩, ⟨by (with_reducible repeat (first | refine blk_drewN ?_ _ | refine blk_drew ?_ | refine blk_alloc ?_ _)); refine blk_far ?_ NB195_202.out _; (with_reducible repeat (first | refine blk_drewN ?_ _ | refine blk_drew ?_ | refine blk_alloc ?_ _)); exact BK195.out⟩, ⟨by (with_reducible repeat (first | refine blk_drewN ?_ _ | refine blk_drew ?_ | refine blk_alloc ?_ _)); refine blk_put (cs := #[u203000]) ?_ 0 _ rfl; (with_reducible repeat (first | refine blk_drewN ?_ _ | refine blk_drew ?_ | refine blk_alloc ?_ _)); exact BK202.out⟩, ⟨by repeat (first | (with_reducible first | exact HB.out | apply below_alloc | apply pw_below_drewN | apply below_drew1 | refine below_set ?_ GE195.out | refine below_set ?_ GE202.out | refine below_set ?_ GE206.out) | exact HB.out)⟩⟩
                 ·
                  rw [if_neg c39] at H
                  exact absurd H (by simp)
             ·
              rw [if_neg c23] at H
              exact absurd H (by simp)
            ·
             rw [if_neg c22] at H
             exact absurd H (by simp)
           ·
            rw [if_neg c21] at H
            exact absurd H (by simp)
          ·
           rw [if_neg c20] at H
           exact absurd H (by simp)
         ·
          rw [if_neg c19] at H
          have c19b0 : decide (x8_2 < (l1.length : Int)) = false := decide_eq_false c19
          clear c19
          obtain rfl := Option.some.inj H
          have hnb48 := NB202_195.out
          have hnc48 := NB195_202.out
          have hcz49_0 : wr.cell? ⟨gb202, 0, none⟩ = some (u203000) := (blk_cell BK202.out 0).trans rfl
          have hfz49_0 := blk_frozen BK202.out 0
          obtain ⟨Ao50, co50, eo50⟩ := Kd.R_slice HO_203000.out
          subst eo50
          have hcz51_0 : wr.cell? ⟨gb195, 0, none⟩ = some (.slice none 0 0) := (blk_cell BK195.out 0).trans rfl
          have hfz51_0 := blk_frozen BK195.out 0
          go_wp2
          refine bodyPost_ret (results_cell_row rfl _ _ gb195 34 #[.slice Ao50 x203000_2.length co50] (0, 0) _ rfl (by (with_reducible repeat (first | refine blk_drewN ?_ _ | refine blk_drew ?_ | refine blk_alloc ?_ _)); refine blk_put (cs := #[.slice none 0 0]) ?_ 0 _ rfl; (with_reducible repeat (first | refine blk_drewN ?_ _ | refine blk_drew ?_ | refine blk_alloc ?_ _)); exact BK195.out) Try.underlying34 rfl (by kernel_rfl)) rfl ?_
          exact ⟨_, by first | rfl | (simp [errW_none, errW_some] <;> rfl) | (simp [*, errW_none, errW_some] <;> rfl), by (with_reducible repeat (first | apply Kd.R_alloc | apply Kd.R_drewN | apply Kd.R_drew)); exact Kd.R_mono (Kd.R_far (p := ⟨gb195, 0, none⟩) (Kd.R_types HO_203000.out BK195.out (by decide)) (fun _ hk => hk.2) (.slice Ao50 x203000_2.length co50)) (fun _ hk => trivial), by repeat (first | (with_reducible first | exact HB.out | apply below_alloc | apply pw_below_drewN | apply below_drew1 | refine below_set ?_ GE195.out | refine below_set ?_ GE202.out) | exact HB.out)⟩
   ·
    rw [if_neg c5] at H
    exact absurd H (by simp)
  ·
   rw [if_neg c4] at H
   exact absurd H (by simp)
 ·
  rw [if_neg c3] at H
  exact absurd H (by simp)
/-! ### spec_l03Period: function 134 -/
mutual
def spec_l03Period.l0 : Nat → List Int → Int → Option (Int)
 | 0, _, _ => none
 | k + 1, x0, x3 => if x3 < (x0.length : Int) then (if x3 = 0 then (none) else (spec_l03Period.l1 k x0 x3 (((x0.length : Int) % x3) == 0) x3)) else (some (x0.length : Int))
def spec_l03Period.l1 : Nat → List Int → Int → Bool → Int → Option (Int)
 | 0, _, _, _, _ => none
 | k + 1, x0, x3, x4, x5 => if x5 < (x0.length : Int) then (if x4 = true then (if 0 ≤ x5 then (if 0 ≤ (wrap64 (x5 - x3)) then (if (wrap64 (x5 - x3)) < (x0.length : Int) then (spec_l03Period.l1 k x0 x3 ((rd x0 x5) == (rd x0 (wrap64 (x5 - x3)))) (wrap64 (x5 + 1))) else (none)) else (none)) else (none)) else (spec_l03Period.l0 k x0 (wrap64 (x3 + 1)))) else (if x4 = true then (some x3) else (spec_l03Period.l0 k x0 (wrap64 (x3 + 1))))
end
def spec_l03Period.f (k : Nat) (l0 : List Int) : Option (Int) := spec_l03Period.l0 k l0 1
theorem spec_l03Period.mono_l : ∀ k, (∀ y0 y1, LeO (spec_l03Period.l0 k y0 y1) (spec_l03Period.l0 (k + 1) y0 y1)) ∧ (∀ y0 y1 y2 y3, LeO (spec_l03Period.l1 k y0 y1 y2 y3) (spec_l03Period.l1 (k + 1) y0 y1 y2 y3))
 | 0 => ⟨fun _ _ r h => by simp [spec_l03Period.l0] at h, fun _ _ _ _ r h => by simp [spec_l03Period.l1] at h⟩
 | k + 1 => by
  obtain ⟨ih0, ih1⟩ := spec_l03Period.mono_l k
  refine ⟨?_, ?_⟩
  ·
   intro y0 y1
   unfold spec_l03Period.l0
   repeat' first
   | (with_reducible exact ih0 _ _)
   | (with_reducible exact ih1 _ _ _ _)
   | (with_reducible exact LeO.refl _)
   | (with_reducible exact LeO.none _)
   | (with_reducible refine LeO.ite ?_ ?_)
   | (with_reducible refine LeO.bind ?_ (fun _ => ?_))
   | refine LeO.bind ?_ (fun _ => ?_)
  ·
   intro y0 y1 y2 y3
   unfold spec_l03Period.l1
   repeat' first
   | (with_reducible exact ih0 _ _)
   | (with_reducible exact ih1 _ _ _ _)
   | (with_reducible exact LeO.refl _)
   | (with_reducible exact LeO.none _)
   | (with_reducible refine LeO.ite ?_ ?_)
   | (with_reducible refine LeO.bind ?_ (fun _ => ?_))
   | refine LeO.bind ?_ (fun _ => ?_)
theorem spec_l03Period.mono : ∀ a0 k, LeO (spec_l03Period.f k a0) (spec_l03Period.f (k + 1) a0) := by
 intro a0 k
 obtain ⟨ih0, ih1⟩ := spec_l03Period.mono_l k
 unfold spec_l03Period.f
 repeat' first
   | (with_reducible exact ih0 _ _)
   | (with_reducible exact ih1 _ _ _ _)
   | (with_reducible exact LeO.refl _)
   | (with_reducible exact LeO.none _)
   | (with_reducible refine LeO.ite ?_ ?_)
   | (with_reducible refine LeO.bind ?_ (fun _ => ?_))
   | refine LeO.bind ?_ (fun _ => ?_)
set_option maxHeartbeats 8000000 in
set_option maxRecDepth 100000 in
theorem spec_l03Period.calls (k : Nat) (A0 : Option Addr) (c0 : Nat) (l0 : List Int) (r : Int) (w : World) (hr0 : Kd.C (Kd.int .i8) w A0 l0.length l0) (hc0 : l0.length ≤ c0) (h : spec_l03Period.f k l0 = some r) :
  Calls Try.prog 134 #[.slice A0 l0.length c0] w fun e w' => e = .returned (.int .i64 r) ∧ Drawn0 w w' := by
 have HR0 := Aside0.mk hr0
 have HC0 := Aside0.mk hc0
 clear hr0 hc0
 have H : (spec_l03Period.l0 k l0 1) = some r := h
 clear h
 have H' := Aside0.mk H
 clear H
 go_enter Try.func134, Try.ntmps134
 go_wp2
 repeat (go_quiet (fail); try go_wp2)
 go_loopg [3] k (fun kq v3 w' => ∃ (x3_1 : Int), v3 = .int .i64 x3_1 ∧ Aside0 (spec_l03Period.l0 kq l0 x3_1 = some r) ∧ Aside0 (kq ≤ k) ∧ Drawn0 w w')
 case atStart => exact ⟨(1), z5_10_, H', ⟨Nat.le_refl _⟩, by repeat (first | exact Drawn0.refl _ | apply Drawn0.step)⟩
 case round =>
  clear H'
  try clear c1
  obtain ⟨x3_1, rfl, HA, HK1, ⟨m1, rfl⟩⟩ := hrel
  cases gk with
  | zero => exact absurd HA.out (by simp [spec_l03Period.l0])
  | succ k1 =>
   have H := HA.out
   clear HA
   simp only [spec_l03Period.l0] at H
   by_cases c2 : x3_1 < (l0.length : Int)
   ·
    rw [if_pos c2] at H
    have c2b0 : decide (x3_1 < (l0.length : Int)) = true := decide_eq_true c2
    clear c2
    by_cases c3 : x3_1 = 0
    ·
     rw [if_pos c3] at H
     exact absurd H (by simp)
    ·
     rw [if_neg c3] at H
     have c3b0 : (x3_1 == 0) = false := beq_eq_false_iff_ne.mpr c3
     have c3b1 : (x3_1 != 0) = true := bne_iff_ne.mpr c3
     have H' := Aside0.mk H
     clear H
     go_wp2
     repeat (go_quiet (fail); try go_wp2)
     go_loopg [4, 5] k1 (fun kq v4 v5 w' => ∃ (x4_2 : Bool) (x5_2 : Int), v4 = .bool x4_2 ∧ v5 = .int .i64 x5_2 ∧ Aside0 (spec_l03Period.l1 kq l0 x3_1 x4_2 x5_2 = some r) ∧ Aside0 (kq ≤ k1) ∧ Drawn0 w w')
     case atStart => exact ⟨((((l0.length : Int) % x3_1) == 0)), (x3_1), z5_10_, z5_10_, H', ⟨Nat.le_refl _⟩, by repeat (first | exact Drawn0.refl _ | apply Drawn0.step)⟩
     case round =>
      clear H'
      try clear c1
      try clear c2
      try clear c2b0
      try clear p2
      try clear c3
      try clear c3b0
      try clear c3b1
      obtain ⟨x4_2, x5_2, rfl, rfl, HA, HK2, ⟨m2, rfl⟩⟩ := hrel
      cases gk with
      | zero => exact absurd HA.out (by simp [spec_l03Period.l1])
      | succ k2 =>
       have H := HA.out
       clear HA
       simp only [spec_l03Period.l1] at H
       by_cases c4 : x5_2 < (l0.length : Int)
       ·
        rw [if_pos c4] at H
        have c4b0 : decide (x5_2 < (l0.length : Int)) = true := decide_eq_true c4
        clear c4
        by_cases c5 : x4_2 = true
        ·
         subst c5
         have H1 : (if 0 ≤ x5_2 then (if 0 ≤ (wrap64 (x5_2 - x3_1)) then (if (wrap64 (x5_2 - x3_1)) < (l0.length : Int) then (spec_l03Period.l1 k2 l0 x3_1 ((rd l0 x5_2) == (rd l0 (wrap64 (x5_2 - x3_1)))) (wrap64 (x5_2 + 1))) else (none)) else (none)) else (none)) = some r := by first | (rw [if_pos rfl] at H; exact H) | rfl
         clear H
         have H := H1
         clear H1
         by_cases c6 : 0 ≤ x5_2
         ·
          rw [if_pos c6] at H
          have c6b0 : decide (0 ≤ x5_2) = true := decide_eq_true c6
          clear c6
          obtain ⟨ji7, hji7⟩ : ∃ j_ : Int, (wrap64 (x5_2 - x3_1)) = j_ := ⟨_, rfl⟩
          replace H : (if 0 ≤ (ji7) then (if (ji7) < (l0.length : Int) then (spec_l03Period.l1 k2 l0 x3_1 ((rd l0 x5_2) == (rd l0 (ji7))) (wrap64 (x5_2 + 1))) else (none)) else (none)) = some r := by first | (rw [hji7] at H; exact H) | (simp only [hji7] at H ⊢; exact H)
          have hji7w : (IntKind.i64.wrap (x5_2 - x3_1)) = ji7 := (i64_w _).trans hji7
          by_cases c8 : 0 ≤ (ji7)
          ·
           rw [if_pos c8] at H
           have c8b0 : decide (0 ≤ (ji7)) = true := decide_eq_true c8
           clear c8
           by_cases c9 : (ji7) < (l0.length : Int)
           ·
            rw [if_pos c9] at H
            have c9b0 : decide ((ji7) < (l0.length : Int)) = true := decide_eq_true c9
            clear c9
            have H' := Aside0.mk H
            clear H
            have p215 : 0 ≤ (x5_2 : Int) := of_decide_eq_true (by assumption)
            have q215 : x5_2 < (l0.length : Int) := of_decide_eq_true (by assumption)
            obtain ⟨ad215, e215, hx215_0⟩ := Kd.at_int HR0.out x5_2 p215 q215
            cases e215
            replace p215 := eq_true p215
            replace q215 := eq_true q215
            have p216 : 0 ≤ ((ji7) : Int) := of_decide_eq_true (by assumption)
            have q216 : (ji7) < (l0.length : Int) := of_decide_eq_true (by assumption)
            obtain ⟨ad216, e216, hx216_0⟩ := Kd.at_int HR0.out (ji7) p216 q216
            obtain rfl : ad215 = ad216 := (by injection e216)
            replace p216 := eq_true p216
            replace q216 := eq_true q216
            go_wp2
            repeat (go_quiet (fail); try go_wp2)
            go_roundg k2
            case measure => have := HK1.out; have := HK2.out; omega
            case rel => exact ⟨(((rd l0 x5_2) == (rd l0 (ji7)))), (wrap64 (x5_2 + 1)), (by first | rfl | (simp; done) | (simp only [← hji7] <;> (first | rfl | simp)) | (simp [*]; done)), z5_10_, H', ⟨by have := HK1.out; have := HK2.out; omega⟩, by repeat (first | exact Drawn0.refl _ | apply Drawn0.step)⟩
           ·
            rw [if_neg c9] at H
            exact absurd H (by simp)
          ·
           rw [if_neg c8] at H
           exact absurd H (by simp)
         ·
          rw [if_neg c6] at H
          exact absurd H (by simp)
        ·
         replace c5 := Bool.eq_false_iff.mpr c5
         subst c5
         have H1 : (spec_l03Period.l0 k2 l0 (wrap64 (x3_1 + 1))) = some r := by first | (rw [if_neg (show ¬ (false = true) by decide)] at H; exact H) | rfl
         clear H
         have H := H1
         clear H1
         have H' := Aside0.mk H
         clear H
         go_wp2
         repeat (go_quiet (fail); try go_wp2)
         go_roundg k2
         case measure => have := HK1.out; have := HK2.out; omega
         case rel => exact ⟨(wrap64 (x3_1 + 1)), z5_10_, H', ⟨by have := HK1.out; have := HK2.out; omega⟩, by repeat (first | exact Drawn0.refl _ | apply Drawn0.step)⟩
       ·
        rw [if_neg c4] at H
        have c4b0 : decide (x5_2 < (l0.length : Int)) = false := decide_eq_false c4
        clear c4
        by_cases c10 : x4_2 = true
        ·
         subst c10
         have H1 : (some x3_1) = some r := by first | (rw [if_pos rfl] at H; exact H) | rfl
         clear H
         have H := H1
         clear H1
         obtain rfl := Option.some.inj H
         go_wp2
         repeat (go_quiet (fail); try go_wp2)
         go_ret
         exact ⟨by first | rfl | (simp; done) | (simp [*]; done) | (simp [isE_]; done), by repeat (first | exact Drawn0.refl _ | apply Drawn0.step)⟩
        ·
         replace c10 := Bool.eq_false_iff.mpr c10
         subst c10
         have H1 : (spec_l03Period.l0 k2 l0 (wrap64 (x3_1 + 1))) = some r := by first | (rw [if_neg (show ¬ (false = true) by decide)] at H; exact H) | rfl
         clear H
         have H := H1
         clear H1
         have H' := Aside0.mk H
         clear H
         go_wp2
         repeat (go_quiet (fail); try go_wp2)
         go_roundg k2
         case measure => have := HK1.out; have := HK2.out; omega
         case rel => exact ⟨(wrap64 (x3_1 + 1)), z5_10_, H', ⟨by have := HK1.out; have := HK2.out; omega⟩, by repeat (first | exact Drawn0.refl _ | apply Drawn0.step)⟩
   ·
    rw [if_neg c2] at H
    have c2b0 : decide (x3_1 < (l0.length : Int)) = false := decide_eq_false c2
    clear c2
    obtain rfl := Option.some.inj H
    go_wp2
    repeat (go_quiet (fail); try go_wp2)
    go_ret
    exact ⟨by first | rfl | (simp; done) | (simp [*]; done) | (simp [isE_]; done), by repeat (first | exact Drawn0.refl _ | apply Drawn0.step)⟩
end Go.Proofs.Ytpfnohdnaocpdaa.PT

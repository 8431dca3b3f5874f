import Derived.Test.YtpfnohdnaocpdaaPTx0
import Derived.Test.YtpfnohdnaocpdaaPTx2
namespace Go.Proofs.Ytpfnohdnaocpdaa.PT
open Go.RowKit Go.Proofs.YtpfnohdnaocpdaaW.PrintWords Go.Proofs.YtpfnohdnaocpdaaW.PrintLast Go.Proofs.YtpfnohdnaocpdaaW.PrintMore Go.Proofs.YtpfnohdnaocpdaaRP
attribute [local go_sem] max2_int min2_int max_two min_two max_three min_three max_four min_four Go.Proofs.YtpfnohdnaocpdaaRP.max_eight Go.Proofs.YtpfnohdnaocpdaaRP.tmod_len   -- for this text's walks alone
set_option linter.unusedVariables false
set_option linter.unusedSimpArgs false
theorem z3_1_ {P : Prop} (h : P := by first | exact Nat.ne_of_lt (Nat.lt_of_lt_of_le (by have := World.block_lt_of_cell? _ _ hw186_4; first | rwa [add_block] at this | exact this) GW187.out) | (rw [add_block]; exact Nat.ne_of_lt (Nat.lt_of_lt_of_le (by have := World.block_lt_of_cell? _ _ hw186_4; first | rwa [add_block] at this | exact this) GW187.out)) | (show (Addr.add _ _).block ≠ _; rw [add_block]; exact Nat.ne_of_lt (Nat.lt_of_lt_of_le (by have := World.block_lt_of_cell? _ _ hw186_4; first | rwa [add_block] at this | exact this) GW187.out)) | (dsimp only; exact Nat.ne_of_lt (Nat.lt_of_lt_of_le (by have := World.block_lt_of_cell? _ _ hw186_4; first | rwa [add_block] at this | exact this) GW187.out))) : P := h
theorem z3_2_ {P : Prop} (h : P := by first | exact Nat.ne_of_lt (Nat.lt_of_lt_of_le (by have := World.block_lt_of_cell? _ _ hw186_3; first | rwa [add_block] at this | exact this) GW187.out) | (rw [add_block]; exact Nat.ne_of_lt (Nat.lt_of_lt_of_le (by have := World.block_lt_of_cell? _ _ hw186_3; first | rwa [add_block] at this | exact this) GW187.out)) | (show (Addr.add _ _).block ≠ _; rw [add_block]; exact Nat.ne_of_lt (Nat.lt_of_lt_of_le (by have := World.block_lt_of_cell? _ _ hw186_3; first | rwa [add_block] at this | exact this) GW187.out)) | (dsimp only; exact Nat.ne_of_lt (Nat.lt_of_lt_of_le (by have := World.block_lt_of_cell? _ _ hw186_3; first | rwa [add_block] at this | exact this) GW187.out))) : P := h
theorem z3_3_ {P : Prop} (h : P := by first | exact Nat.ne_of_lt (Nat.lt_of_lt_of_le (by have := World.block_lt_of_cell? _ _ hw186_2; first | rwa [add_block] at this | exact this) GW187.out) | (rw [add_block]; exact Nat.ne_of_lt (Nat.lt_of_lt_of_le (by have := World.block_lt_of_cell? _ _ hw186_2; first | rwa [add_block] at this | exact this) GW187.out)) | (show (Addr.add _ _).block ≠ _; rw [add_block]; exact Nat.ne_of_lt (Nat.lt_of_lt_of_le (by have := World.block_lt_of_cell? _ _ hw186_2; first | rwa [add_block] at this | exact this) GW187.out)) | (dsimp only; exact Nat.ne_of_lt (Nat.lt_of_lt_of_le (by have := World.block_lt_of_cell? _ _ hw186_2; first | rwa [add_block] at this | exact this) GW187.out))) : P := h
theorem z3_4_ {P : Prop} (h : P := by first | exact Nat.ne_of_lt (Nat.lt_of_lt_of_le (by have := World.block_lt_of_cell? _ _ hw186_1; first | rwa [add_block] at this | exact this) GW187.out) | (rw [add_block]; exact Nat.ne_of_lt (Nat.lt_of_lt_of_le (by have := World.block_lt_of_cell? _ _ hw186_1; first | rwa [add_block] at this | exact this) GW187.out)) | (show (Addr.add _ _).block ≠ _; rw [add_block]; exact Nat.ne_of_lt (Nat.lt_of_lt_of_le (by have := World.block_lt_of_cell? _ _ hw186_1; first | rwa [add_block] at this | exact this) GW187.out)) | (dsimp only; exact Nat.ne_of_lt (Nat.lt_of_lt_of_le (by have := World.block_lt_of_cell? _ _ hw186_1; first | rwa [add_block] at this | exact this) GW187.out))) : P := h
theorem z3_5_ {P : Prop} (h : P := by first | exact Nat.ne_of_lt (Nat.lt_of_lt_of_le (by have := World.block_lt_of_cell? _ _ hw186_0; first | rwa [add_block] at this | exact this) GW187.out) | (rw [add_block]; exact Nat.ne_of_lt (Nat.lt_of_lt_of_le (by have := World.block_lt_of_cell? _ _ hw186_0; first | rwa [add_block] at this | exact this) GW187.out)) | (show (Addr.add _ _).block ≠ _; rw [add_block]; exact Nat.ne_of_lt (Nat.lt_of_lt_of_le (by have := World.block_lt_of_cell? _ _ hw186_0; first | rwa [add_block] at this | exact this) GW187.out)) | (dsimp only; exact Nat.ne_of_lt (Nat.lt_of_lt_of_le (by have := World.block_lt_of_cell? _ _ hw186_0; first | rwa [add_block] at this | exact this) GW187.out))) : P := h
theorem z3_6_ {P : Prop} (h : P := by first | exact Nat.ne_of_lt (Nat.lt_of_lt_of_le (by have := World.block_lt_of_cell? _ _ hw185_0; first | rwa [add_block] at this | exact this) GW187.out) | (rw [add_block]; exact Nat.ne_of_lt (Nat.lt_of_lt_of_le (by have := World.block_lt_of_cell? _ _ hw185_0; first | rwa [add_block] at this | exact this) GW187.out)) | (show (Addr.add _ _).block ≠ _; rw [add_block]; exact Nat.ne_of_lt (Nat.lt_of_lt_of_le (by have := World.block_lt_of_cell? _ _ hw185_0; first | rwa [add_block] at this | exact this) GW187.out)) | (dsimp only; exact Nat.ne_of_lt (Nat.lt_of_lt_of_le (by have := World.block_lt_of_cell? _ _ hw185_0; first | rwa [add_block] at this | exact this) GW187.out))) : P := h
theorem z3_7_ {P : Prop} (h : P := by first | exact Nat.ne_of_lt (Nat.lt_of_lt_of_le (by have := World.block_lt_of_cell? _ _ hw184_0; first | rwa [add_block] at this | exact this) GW187.out) | (rw [add_block]; exact Nat.ne_of_lt (Nat.lt_of_lt_of_le (by have := World.block_lt_of_cell? _ _ hw184_0; first | rwa [add_block] at this | exact this) GW187.out)) | (show (Addr.add _ _).block ≠ _; rw [add_block]; exact Nat.ne_of_lt (Nat.lt_of_lt_of_le (by have := World.block_lt_of_cell? _ _ hw184_0; first | rwa [add_block] at this | exact this) GW187.out)) | (dsimp only; exact Nat.ne_of_lt (Nat.lt_of_lt_of_le (by have := World.block_lt_of_cell? _ _ hw184_0; first | rwa [add_block] at this | exact this) GW187.out))) : P := h
theorem z3_8_ {P : Prop} (h : P := by repeat (first | (with_reducible first | exact HB.out | apply below_alloc | apply pw_below_drewN | apply below_drew1 | refine below_set ?_ GE176.out | refine below_set ?_ GE183.out | refine below_set ?_ GE187.out) | exact HB.out)) : P := h
theorem z3_9_ {P : Prop} (h : P := by (with_reducible repeat (first | refine blk_drewN ?_ _ | refine blk_drew ?_ | refine blk_alloc ?_ _)); exact BK176.out) : P := h
theorem z3_10_ {P : Prop} (h : P := by repeat (first | (with_reducible first | exact HB.out | apply below_alloc | apply pw_below_drewN | apply below_drew1 | refine below_set ?_ GE176.out) | exact HB.out)) : P := h
theorem z3_11_ {P : Prop} (h : P := by first | rfl | (simp; done) | (simp [*]; done) | (simp [isE_]; done)) : P := h
theorem z3_12_ {P : Prop} (h : P := by repeat (first | (with_reducible first | exact HB.out | apply below_alloc | apply pw_below_drewN | apply below_drew1 | refine below_set ?_ GE176.out | refine below_set ?_ GE183.out) | exact HB.out)) : P := h
theorem z3_13_ {P : Prop} (h : P := by (with_reducible repeat (first | refine blk_drewN ?_ _ | refine blk_drew ?_ | refine blk_alloc ?_ _)); exact BK187.out) : P := h
theorem z3_14_ {P : Prop} (h : P := by (with_reducible repeat (first | refine blk_drewN ?_ _ | refine blk_drew ?_ | refine blk_alloc ?_ _)); exact BK183.out) : P := h
theorem z3_15_ {P : Prop} (h : P := by (with_reducible repeat (first | apply Kd.R_alloc | apply Kd.R_drewN | apply Kd.R_drew)); exact HO_5.out) : P := h
theorem z3_16_ {P : Prop} (h : P := by (with_reducible repeat (first | apply Kd.R_alloc | apply Kd.R_drewN | apply Kd.R_drew)); exact HO_184000.out) : P := h
theorem z3_17_ {P : Prop} (h : P := by repeat (first | exact Drawn0.refl _ | apply Drawn0.step)) : P := h
theorem z3_18_ {P : Prop} (h : P := by repeat (first | (with_reducible first | exact HB.out | apply below_alloc | apply pw_below_drewN | apply below_drew1) | exact HB.out)) : P := h
theorem z3_19_ {P : Prop} (h : P := by (with_reducible repeat (first | refine blk_drewN ?_ _ | refine blk_drew ?_ | refine blk_alloc ?_ _)); refine blk_far ?_ NB176_183.out _; (with_reducible repeat (first | refine blk_drewN ?_ _ | refine blk_drew ?_ | refine blk_alloc ?_ _)); exact BK176.out) : P := h
theorem z3_20_ {P : Prop} (h : P := by (try simp only [List.map_toArray, List.map_cons, List.map_nil]); first | done | rfl | (simp only [List.length_drop, List.length_take]; rfl)) : P := h
/-! ### spec_l06Tree: function 96 -/
mutual
def spec_l06Tree.l0 : Nat → List (S34) → List Int → List Int → Int → Option ((List (S89)))
 | 0, _, _, _, _ => none
 | k + 1, x0, x1, x5, x6 => if x6 < (x1.length : Int) then (if 0 ≤ x6 then (if 0 ≤ (rd x1 x6) then (if (rd x1 x6) < (x5.length : Int) then (spec_l06Tree.l0 k x0 x1 (x5.set ((rd x1 x6) : Int).toNat (IntKind.i16.wrap (x6))) (wrap64 (x6 + 1))) else (none)) else (none)) else (none)) else (spec_l06Tree.l1 k x0 x1 x5 0 ([] : List (S89)))
def spec_l06Tree.l1 : Nat → List (S34) → List Int → List Int → Int → List (S89) → Option ((List (S89)))
 | 0, _, _, _, _, _ => none
 | k + 1, x0, x1, x5, x8, x184000 => if x8 < (x1.length : Int) then (if 0 < (x0.length : Int) then (if 0 ≤ x8 then (if 0 ≤ (rd x1 x8) then (if (rd x1 x8) < (((rd_T34 x0 0).f0).length : Int) then (spec_l06Tree.l2 k x0 x1 x5 x8 0 x184000 ((rd_T89 ((rd_T34 x0 0).f0) (rd x1 x8)).f0) ((rd_T89 ((rd_T34 x0 0).f0) (rd x1 x8)).f1) ((rd_T89 ((rd_T34 x0 0).f0) (rd x1 x8)).f2.f0) ((rd_T89 ((rd_T34 x0 0).f0) (rd x1 x8)).f2.f1) ((rd_T89 ((rd_T34 x0 0).f0) (rd x1 x8)).f2.f2)) else (none)) else (none)) else (none)) else (none)) else (some x184000)
def spec_l06Tree.l2 : Nat → List (S34) → List Int → List Int → Int → Int → List (S89) → Int → Int → Int → Int → Int → Option ((List (S89)))
 | 0, _, _, _, _, _, _, _, _, _, _, _ => none
 | k + 1, x0, x1, x5, x8, x10, x184000, x188000, x188001, x188002, x188003, x188004 => (spec_l06Ways.f [(⟨x188000, x188001, (⟨x188002, x188003, x188004⟩ : S87)⟩ : S89)]).bind fun t189 => (if x10 < t189 then (if 0 ≤ x10 then (if x10 < 3 then (if 0 ≤ (rd [x188002, x188003, x188004] x10) then (if (rd [x188002, x188003, x188004] x10) < (x5.length : Int) then (spec_l06Tree.l2 k x0 x1 x5 x8 (wrap64 (x10 + 1)) x184000 x188000 x188001 (up 0 x10 (rd x5 (rd [x188002, x188003, x188004] x10)) x188002) (up 1 x10 (rd x5 (rd [x188002, x188003, x188004] x10)) x188003) (up 2 x10 (rd x5 (rd [x188002, x188003, x188004] x10)) x188004)) else (none)) else (none)) else (none)) else (none)) else (if x184000.length < 17592186044416 then (spec_l06Tree.l1 k x0 x1 x5 (wrap64 (x8 + 1)) (x184000 ++ [(⟨x188000, x188001, (⟨x188002, x188003, x188004⟩ : S87)⟩ : S89)])) else (none)))
end
def spec_l06Tree.f (k : Nat) (l0 : List (S34)) (l1 : List Int) : Option ((List (S89))) := if 0 < (l0.length : Int) then (if 0 ≤ (((rd_T34 l0 0).f0).length : Int) then (if ((((rd_T34 l0 0).f0).length : Int) : Int).toNat ≤ 140737488355328 then (spec_l06Tree.l0 k l0 l1 (List.replicate ((((rd_T34 l0 0).f0).length : Int) : Int).toNat 0) 0) else (none)) else (none)) else (none)
theorem spec_l06Tree.mono_l : ∀ k, (∀ y0 y1 y2 y3, LeO (spec_l06Tree.l0 k y0 y1 y2 y3) (spec_l06Tree.l0 (k + 1) y0 y1 y2 y3)) ∧ (∀ y0 y1 y2 y3 y4, LeO (spec_l06Tree.l1 k y0 y1 y2 y3 y4) (spec_l06Tree.l1 (k + 1) y0 y1 y2 y3 y4)) ∧ (∀ y0 y1 y2 y3 y4 y5 y6 y7 y8 y9 y10, LeO (spec_l06Tree.l2 k y0 y1 y2 y3 y4 y5 y6 y7 y8 y9 y10) (spec_l06Tree.l2 (k + 1) y0 y1 y2 y3 y4 y5 y6 y7 y8 y9 y10))
 | 0 => ⟨fun _ _ _ _ r h => by simp [spec_l06Tree.l0] at h, fun _ _ _ _ _ r h => by simp [spec_l06Tree.l1] at h, fun _ _ _ _ _ _ _ _ _ _ _ r h => by simp [spec_l06Tree.l2] at h⟩
 | k + 1 => by
  obtain ⟨ih0, ih1, ih2⟩ := spec_l06Tree.mono_l k
  refine ⟨?_, ?_, ?_⟩
  ·
   intro y0 y1 y2 y3
   unfold spec_l06Tree.l0
   repeat' first
   | (with_reducible exact ih0 _ _ _ _)
   | (with_reducible exact ih1 _ _ _ _ _)
   | (with_reducible exact ih2 _ _ _ _ _ _ _ _ _ _ _)
   | (with_reducible exact LeO.refl _)
   | (with_reducible exact LeO.none _)
   | (with_reducible refine LeO.ite ?_ ?_)
   | (with_reducible refine LeO.bind ?_ (fun _ => ?_))
   | exact ih0 _ _ _ _
   | exact ih1 _ _ _ _ _
   | exact ih2 _ _ _ _ _ _ _ _ _ _ _
   | exact LeO.none _
   | refine LeO.ite ?_ ?_
   | refine LeO.bind ?_ (fun _ => ?_)
  ·
   intro y0 y1 y2 y3 y4
   unfold spec_l06Tree.l1
   repeat' first
   | (with_reducible exact ih0 _ _ _ _)
   | (with_reducible exact ih1 _ _ _ _ _)
   | (with_reducible exact ih2 _ _ _ _ _ _ _ _ _ _ _)
   | (with_reducible exact LeO.refl _)
   | (with_reducible exact LeO.none _)
   | (with_reducible refine LeO.ite ?_ ?_)
   | (with_reducible refine LeO.bind ?_ (fun _ => ?_))
   | exact ih0 _ _ _ _
   | exact ih1 _ _ _ _ _
   | exact ih2 _ _ _ _ _ _ _ _ _ _ _
   | exact LeO.none _
   | refine LeO.ite ?_ ?_
   | refine LeO.bind ?_ (fun _ => ?_)
  ·
   intro y0 y1 y2 y3 y4 y5 y6 y7 y8 y9 y10
   unfold spec_l06Tree.l2
   repeat' first
   | (with_reducible exact ih0 _ _ _ _)
   | (with_reducible exact ih1 _ _ _ _ _)
   | (with_reducible exact ih2 _ _ _ _ _ _ _ _ _ _ _)
   | (with_reducible exact LeO.refl _)
   | (with_reducible exact LeO.none _)
   | (with_reducible refine LeO.ite ?_ ?_)
   | (with_reducible refine LeO.bind ?_ (fun _ => ?_))
   | exact ih0 _ _ _ _
   | exact ih1 _ _ _ _ _
   | exact ih2 _ _ _ _ _ _ _ _ _ _ _
   | exact LeO.none _
   | refine LeO.ite ?_ ?_
   | refine LeO.bind ?_ (fun _ => ?_)
theorem spec_l06Tree.mono : ∀ a0 a1 k, LeO (spec_l06Tree.f k a0 a1) (spec_l06Tree.f (k + 1) a0 a1) := by
 intro a0 a1 k
 obtain ⟨ih0, ih1, ih2⟩ := spec_l06Tree.mono_l k
 unfold spec_l06Tree.f
 repeat' first
   | (with_reducible exact ih0 _ _ _ _)
   | (with_reducible exact ih1 _ _ _ _ _)
   | (with_reducible exact ih2 _ _ _ _ _ _ _ _ _ _ _)
   | (with_reducible exact LeO.refl _)
   | (with_reducible exact LeO.none _)
   | (with_reducible refine LeO.ite ?_ ?_)
   | (with_reducible refine LeO.bind ?_ (fun _ => ?_))
   | exact ih0 _ _ _ _
   | exact ih1 _ _ _ _ _
   | exact ih2 _ _ _ _ _ _ _ _ _ _ _
   | exact LeO.none _
   | refine LeO.ite ?_ ?_
   | refine LeO.bind ?_ (fun _ => ?_)
def spec_l06Tree.T10 : Bool × List (List Nat × List Nat) := (true, [([], []), ([0], [0]), ([1], [1]), ([2], [2]), ([], []), ([], []), ([4, 5], [4, 5]), ([6], [6]), ([3, 7], [3, 7]), ([8], [8]), ([], []), ([10, 9, 0, 1, 2, 3, 4, 5, 6, 7, 8, 9, 10], [9, 10])])
def spec_l06Tree.B10 : List Nat := [0, 1, 3, 7, 0, 0, 48, 112, 255, 511, 0, 2047]
theorem spec_l06Tree.tab10 : rtab .any (opsOf Try.f96 10) = spec_l06Tree.T10 := by kernel_rfl
theorem spec_l06Tree.bits10 : waitsOk spec_l06Tree.T10.2 spec_l06Tree.B10 = true := by kernel_rfl
set_option maxHeartbeats 8000000 in
set_option maxRecDepth 100000 in
theorem spec_l06Tree.calls (k : Nat) (A0 : Option Addr) (c0 : Nat) (l0 : List (S34)) (A1 : Option Addr) (c1 : Nat) (l1 : List Int) (r : List (S89)) (w : World) (hr0 : Kd.C k34 w A0 l0.length l0) (hc0 : l0.length ≤ c0) (hr1 : Kd.C (Kd.int .i16) w A1 l1.length l1) (hc1 : l1.length ≤ c1) (h : spec_l06Tree.f k l0 l1 = some r) :
  Calls Try.prog 96 #[.pointer A0, .slice A1 l1.length c1] w fun e w' => ∃ v0_ : Value, e = .returned (.agg #[v0_]) ∧ Kd.R k89 89 w' w.heap.size (fun _ => True) v0_ r ∧ Below w.heap.size w w' := by
 have hu34 := Try.underlying34
 have hu89 := Try.underlying89
 have HR0 := A_ hr0
 have HC0 := A_ hc0
 clear hr0 hc0
 have HR1 := A_ hr1
 have HC1 := A_ hc1
 clear hr1 hc1
 have HB := A_ (Below.refl w.heap.size w)
 have H : (if 0 < (l0.length : Int) then (if 0 ≤ (((rd_T34 l0 0).f0).length : Int) then (if ((((rd_T34 l0 0).f0).length : Int) : Int).toNat ≤ 140737488355328 then (spec_l06Tree.l0 k l0 l1 (List.replicate ((((rd_T34 l0 0).f0).length : Int) : Int).toNat 0) 0) else (none)) else (none)) else (none)) = some r := h
 clear h
 by_cases c3 : 0 < (l0.length : Int)
 ·
  rw [if_pos c3] at H
  have c3b0 := decide_eq_true c3
  have c3b1 : decide (0 < l0.length) = true := decide_eq_true (by omega)
  clear c3
  by_cases c4 : 0 ≤ (((rd_T34 l0 0).f0).length : Int)
  ·
   rw [if_pos c4] at H
   have c4b0 := eq_true c4
   have c4b1 := decide_eq_true c4
   clear c4
   by_cases c5 : ((((rd_T34 l0 0).f0).length : Int) : Int).toNat ≤ 140737488355328
   ·
    rw [if_pos c5] at H
    have c5b0 := eq_true c5
    have c5b1 := decide_eq_true c5
    clear c5
    obtain ⟨y178, hy178⟩ : ∃ y_ : List Int, y_ = (List.replicate ((((rd_T34 l0 0).f0).length : Int) : Int).toNat 0) := ⟨_, rfl⟩
    replace H : (spec_l06Tree.l0 k l0 l1 y178 0) = some r := by first | (rw [hy178]; with_reducible exact H) | (have H2_ := (Option.bind_some _ _).symm.trans H; rw [hy178]; with_reducible exact H2_) | (have H2_ := (Option.bind_some _ _).symm.trans H; with_reducible exact H2_) | with_reducible exact H | (rw [hy178]; exact H) | exact H
    have Ny178 := A_ hy178
    clear hy178
    have H' := A_ H
    clear H
    go_enter Try.func96, Try.ntmps96
    go_wp2_with (first | ((with_reducible refine gate_dst (N := 4) rfl ?_); refine box_event ?hg (N := 4) ?hd (cs := #[.slice none 0 0]) (t := 34) ?hr ?_; (case hd => rfl); (case hg => rfl); (case hr => first | (go_simp; done) | (go_simp; rfl)); intro gb176 hg w6 hbox hb; have _ := A_ (below_step z3_18_ hb); have _ := A_ (hbox); have _ := A_ ((by rw [hg]; exact (below_size z3_18_) : w.heap.size ≤ gb176)); have _ := A_ ((by rw [hg]; exact (below_size z3_18_) : w.heap.size ≤ gb176)); clear HB; rename_i HB BK176 GW176 GE176; clear hb hbox hg; have q177 : 0 < (l0.length : Int) := of_decide_eq_true (by assumption); obtain ⟨ad177, A177_0, c177_0, e177, hx177_0, hl177_0, hi177_0⟩ := rp_T34 HR0.out q177; cases e177; replace hx177_0 := cel HB.out hx177_0; have HR177_0 := A_ hi177_0; have HC177_0 := A_ hl177_0; clear hi177_0 hl177_0) | ((with_reducible refine gate_dst (N := 16) rfl ?_); refine Kd.R_make (Kd.int .i16) _ 85 rfl (N := 16) rfl 139 _ _ rfl (((rd_T34 l0 0).f0).length : Int) rfl rfl Try.underlying139 (.int .i16 0) 2 info85 rfl (by decide) (by omega) 0 (ok := fun _ => True) (okp := fun _ => True) rfl (fun _ hk => hk) trivial (of_decide_eq_true (by assumption)) (Nat.le_trans (Nat.mul_le_mul_right _ (of_decide_eq_true (by assumption) : (((rd_T34 l0 0).f0).length : Int).toNat ≤ 140737488355328)) (by omega)) (Below.refl _ _) (Nat.le_refl _) ?_; intro v179 w7 ho8 hb hg_ hnew_; clear hg_ hnew_; (first | rw [← Ny178.out] at ho8 | (simp only [Int.reduceToNat] at ho8; rw [← Ny178.out] at ho8)); have _ := A_ (Kd.R_lower ho8 (below_size z3_10_)); have _ := A_ (blk_below (g := gb176) (o := .cells #[.slice none 0 0] 34 (0, 0)) z3_9_ hb); have _ := A_ (below_step z3_10_ hb); clear BK176 HB; rename_i HO180 BK176 HB; clear hb ho8))
    go_loopg [6] k (fun kq v6 w' => ∃ (x5_1 : List Int) (x6_1 : Int), v6 = .int .i64 x6_1 ∧ Aside0 (spec_l06Tree.l0 kq l0 l1 x5_1 x6_1 = some r) ∧ Aside0 (kq ≤ k) ∧ Aside0 (Kd.R (Kd.int .i16) 85 w' w.heap.size (fun _ => True) v179 x5_1) ∧ Aside0 (w'.heap[gb176]? = some (.cells #[(.slice none 0 0)] 34 (0, 0))) ∧ Aside0 (Below w.heap.size w w'))
    case atStart => exact ⟨(y178), (0), z3_11_, H', ⟨Nat.le_refl _⟩, ⟨(by (with_reducible repeat (first | apply Kd.R_alloc | apply Kd.R_drewN | apply Kd.R_drew)); exact HO180.out)⟩, ⟨z3_9_⟩, ⟨z3_10_⟩⟩
    case round =>
     clear H'
     try clear c1
     try clear q1
     try clear hx1
     try clear p2
     try clear c3
     try clear c3b0
     try clear c3b1
     try clear c4
     try clear c4b0
     try clear c4b1
     try clear c5
     try clear c5b0
     try clear c5b1
     try clear hx177_0
     try clear q177
     obtain ⟨x5_1, x6_1, rfl, HA, HK1, HO_5, BK176, HB⟩ := hrel
     cases gk with
     | zero => exact absurd HA.out (by simp [spec_l06Tree.l0])
     | succ k1 =>
      have H := HA.out
      clear HA
      simp only [spec_l06Tree.l0] at H
      by_cases c9 : x6_1 < (l1.length : Int)
      ·
       rw [if_pos c9] at H
       have c9b0 := decide_eq_true c9
       clear c9
       by_cases c10 : 0 ≤ x6_1
       ·
        rw [if_pos c10] at H
        have c10b0 := decide_eq_true c10
        clear c10
        by_cases c11 : 0 ≤ (rd l1 x6_1)
        ·
         rw [if_pos c11] at H
         have c11b0 := decide_eq_true c11
         clear c11
         by_cases c12 : (rd l1 x6_1) < (x5_1.length : Int)
         ·
          rw [if_pos c12] at H
          have c12b0 := decide_eq_true c12
          clear c12
          obtain ⟨y182, hy182⟩ : ∃ y_ : List Int, y_ = (x5_1.set ((rd l1 x6_1) : Int).toNat (IntKind.i16.wrap (x6_1))) := ⟨_, rfl⟩
          replace H : (spec_l06Tree.l0 k1 l0 l1 y182 (wrap64 (x6_1 + 1))) = some r := by first | (rw [hy182]; with_reducible exact H) | (have H2_ := (Option.bind_some _ _).symm.trans H; rw [hy182]; with_reducible exact H2_) | (have H2_ := (Option.bind_some _ _).symm.trans H; with_reducible exact H2_) | with_reducible exact H | (rw [hy182]; exact H) | exact H
          have Ny182 := A_ hy182
          clear hy182
          have H' := A_ H
          clear H
          have p181 : 0 ≤ (x6_1 : Int) := of_decide_eq_true (by assumption)
          have q181 : x6_1 < (l1.length : Int) := of_decide_eq_true (by assumption)
          obtain ⟨ad181, e181, hx181_0⟩ := Kd.at_int HR1.out x6_1 p181 q181
          cases e181
          replace hx181_0 := cel HB.out hx181_0
          replace p181 := eq_true p181
          replace q181 := eq_true q181
          have p13 : 0 ≤ ((rd l1 x6_1) : Int) := of_decide_eq_true (by assumption)
          have q13 : ((rd l1 x6_1) : Int) < ((x5_1.length : Int) : Int) := of_decide_eq_true (by assumption)
          obtain ⟨go13, co13, eo13, gb13, gl13, cl13, HG13⟩ := Kd.R_form HO_5.out (by omega)
          (first | cases eo13 | (injection eo13 with ea_ en_ ec_; (first | subst ea_ | (injection ea_ with ea_; subst ea_)); subst ec_; clear en_))
          have GB13 := A_ gb13
          have GG13 := A_ HG13
          clear gb13 gl13 HG13
          obtain ⟨hx13_0, hf13_0⟩ := Kd.R_celln 0 HO_5.out ((rd l1 x6_1) : Int) p13 q13
          replace p13 := eq_true p13
          replace q13 := eq_true q13
          have HP14 := Kd.R_putg HO_5.out ((rd l1 x6_1) : Int) (IntKind.i16.wrap (x6_1))
          go_wp2_with (first | ((with_reducible refine gate_store (t := 85) (p := 30) rfl ?_); refine store_event (t := 85) (p := 30) (v := ?vo_w15) (w1 := (wr.setCell ⟨go13, ((rd l1 x6_1) : Int).toNat, none⟩ (.int .i16 (IntKind.i16.wrap (x6_1))))) ?hg ?ho ?hn ?hr ?_; (case ho => rfl); (case hg => rfl); (case hn => rfl); (case hr => first | (go_simp; done) | (go_simp; rfl)); intro w15 hw; have hg : wr.grownBy w15 (some go13) := (by rw [hw]; exact HP14.2); have hp_ : Kd.R (Kd.int .i16) 85 w15 w.heap.size (fun _ => True) (.slice (some ⟨go13, 0, none⟩) x5_1.length co13) y182 := (by rw [hw, Ny182.out]; exact HP14.1); clear HP14; have _ := A_ (hp_); have _ := A_ (blk_grown (g := gb176) (o := .cells #[.slice none 0 0] 34 (0, 0)) z3_9_ hg (Kd.R_ne HO_5.out BK176.out (by decide))); have _ := A_ ((by rw [hw]; exact below_set (HB.out) GB13.out : Below w.heap.size w w15)); clear HO_5 BK176 HB; rename_i HO_5 BK176 HB; clear hg hw hp_))
          go_roundg k1
          case measure => have := HK1.out; omega
          case rel => exact ⟨(y182), (wrap64 (x6_1 + 1)), z3_11_, H', ⟨(by have := HK1.out; omega)⟩, ⟨z3_15_⟩, ⟨z3_9_⟩, ⟨z3_10_⟩⟩
         ·
          rw [if_neg c12] at H
          exact absurd H (by simp)
        ·
         rw [if_neg c11] at H
         exact absurd H (by simp)
       ·
        rw [if_neg c10] at H
        exact absurd H (by simp)
      ·
       rw [if_neg c9] at H
       have c9b0 := decide_eq_false c9
       clear c9
       have H' := A_ H
       clear H
       go_wp2_with (first | ((with_reducible refine gate_dst (N := 7) rfl ?_); refine box_event ?hg (N := 7) ?hd (cs := #[.slice none 0 0]) (t := 34) ?hr ?_; (case hd => rfl); (case hg => rfl); (case hr => first | (go_simp; done) | (go_simp; rfl)); intro gb183 hg w16 hbox hb; have _ := A_ (Kd.R_below z3_15_ hb); have _ := A_ (blk_below (g := gb176) (o := .cells #[.slice none 0 0] 34 (0, 0)) z3_9_ hb); have _ := A_ (below_step z3_10_ hb); have _ := A_ (hbox); have _ := A_ ((by rw [hg]; exact (below_size z3_10_) : w.heap.size ≤ gb183)); have _ := A_ ((by rw [hg]; exact (below_size z3_10_) : w.heap.size ≤ gb183)); have _ := A_ ((by rw [hg]; exact Nat.ne_of_lt (blk_lt (g := gb176) (o := .cells #[.slice none 0 0] 34 (0, 0)) z3_9_) : gb176 ≠ gb183)); have _ := A_ ((by rw [hg]; exact Nat.ne_of_gt (blk_lt (g := gb176) (o := .cells #[.slice none 0 0] 34 (0, 0)) z3_9_) : gb183 ≠ gb176)); clear HO_5 BK176 HB; rename_i HO_5 BK176 HB BK183 GW183 GE183 NB176_183 NB183_176; clear hb hbox hg; have hnb17 := NB183_176.out; have hnc17 := NB176_183.out; have hcz18_0 : w16.cell? ⟨gb183, 0, none⟩ = some (.slice none 0 0) := (blk_cell BK183.out 0).trans rfl; have hfz18_0 := blk_frozen BK183.out 0))
       go_loopg [8] k1 (fun kq v8 w' => ∃ (x8_2 : Int) (x184000_2 : List (S89)) (u184000 : Value), v8 = .int .i64 x8_2 ∧ Aside0 (spec_l06Tree.l1 kq l0 l1 x5_1 x8_2 x184000_2 = some r) ∧ Aside0 (kq ≤ k1) ∧ Aside0 (Kd.R (Kd.int .i16) 85 w' w.heap.size (fun _ => True) v179 x5_1) ∧ Aside0 (Kd.R k89 89 w' w.heap.size (fun _ => True) u184000 x184000_2) ∧ Aside0 (w'.heap[gb176]? = some (.cells #[(.slice none 0 0)] 34 (0, 0))) ∧ Aside0 (w'.heap[gb183]? = some (.cells #[u184000] 34 (0, 0))) ∧ Aside0 (Below w.heap.size w w'))
       case atStart => exact ⟨(0), (([] : List (S89))), (.slice none 0 0), z3_11_, H', ⟨Nat.le_refl _⟩, ⟨(by (with_reducible repeat (first | apply Kd.R_alloc | apply Kd.R_drewN | apply Kd.R_drew)); exact Kd.R_mono (Kd.R_far (p := ⟨gb183, 0, none⟩) (Kd.R_types HO_5.out BK183.out (by decide)) (fun _ hk => hk.2) (.slice none 0 0)) (fun _ hk => trivial))⟩, ⟨(by first | exact Kd.R_nil _ _ _ _ _ | exact Kd.N_nil _ _ _ _ _ | exact Kd.V_nil _ _ _ _ _ | exact Kd.Q_nil _ _ _ _ _ | exact Kd.S_nil _ _ _ _ _)⟩, ⟨z3_19_⟩, ⟨(by (with_reducible repeat (first | refine blk_drewN ?_ _ | refine blk_drew ?_ | refine blk_alloc ?_ _)); refine blk_put (cs := #[.slice none 0 0]) ?_ 0 _ rfl; (with_reducible repeat (first | refine blk_drewN ?_ _ | refine blk_drew ?_ | refine blk_alloc ?_ _)); exact BK183.out)⟩, ⟨z3_12_⟩⟩
       case round =>
        clear H'
        try clear c1
        try clear p1
        try clear q1
        try clear hx1
        try clear p2
        try clear c3
        try clear c3b0
        try clear c3b1
        try clear c4
        try clear c4b0
        try clear c4b1
        try clear c5
        try clear c5b0
        try clear c5b1
        try clear p6
        try clear c9
        try clear c9b0
        try clear c10
        try clear c10b0
        try clear c11
        try clear c11b0
        try clear c12
        try clear c12b0
        try clear p13
        try clear q13
        try clear hx13
        try clear hf13
        try clear c17
        try clear q17
        try clear hx17
        try clear p18
        try clear q18
        try clear hx18
        try clear hcz18_0
        try clear hfz18_0
        try clear hx13_0
        try clear hx177_0
        try clear hx181_0
        try clear p13
        try clear p181
        try clear p2
        try clear q1
        try clear q13
        try clear q177
        try clear q181
        obtain ⟨x8_2, x184000_2, u184000, rfl, HA, HK2, HO_5, HO_184000, BK176, BK183, HB⟩ := hrel
        cases gk with
        | zero => exact absurd HA.out (by simp [spec_l06Tree.l1])
        | succ k2 =>
         have H := HA.out
         clear HA
         simp only [spec_l06Tree.l1] at H
         by_cases c19 : x8_2 < (l1.length : Int)
         ·
          rw [if_pos c19] at H
          have c19b0 := decide_eq_true c19
          clear c19
          by_cases c20 : 0 < (l0.length : Int)
          ·
           rw [if_pos c20] at H
           have c20b0 := decide_eq_true c20
           have c20b1 : decide (0 < l0.length) = true := decide_eq_true (by omega)
           clear c20
           by_cases c21 : 0 ≤ x8_2
           ·
            rw [if_pos c21] at H
            have c21b0 := decide_eq_true c21
            clear c21
            by_cases c22 : 0 ≤ (rd l1 x8_2)
            ·
             rw [if_pos c22] at H
             have c22b0 := decide_eq_true c22
             clear c22
             by_cases c23 : (rd l1 x8_2) < (((rd_T34 l0 0).f0).length : Int)
             ·
              rw [if_pos c23] at H
              have c23b0 := decide_eq_true c23
              clear c23
              have H' := A_ H
              clear H
              try go_wp2
              have _ := A_ (Kd.R_drew HO_5.out)
              have _ := A_ (Kd.R_drew HO_184000.out)
              have _ := A_ (blk_drew BK176.out)
              have _ := A_ (blk_drew BK183.out)
              have _ := A_ (below_drew1 HB.out)
              clear HO_5 HO_184000 BK176 BK183 HB
              rename_i HO_5 HO_184000 BK176 BK183 HB
              have q184 : 0 < (l0.length : Int) := of_decide_eq_true (by assumption)
              obtain ⟨ad184, A184_0, c184_0, e184, hx184_0, hl184_0, hi184_0⟩ := rp_T34 HR0.out q184
              have hw184_0 := hx184_0
              obtain rfl : ad177 = ad184 := (by injection e184)
              replace hx184_0 := cel HB.out hx184_0
              have HR184_0 := A_ hi184_0
              have HC184_0 := A_ hl184_0
              clear hi184_0 hl184_0
              have p185 : 0 ≤ (x8_2 : Int) := of_decide_eq_true (by assumption)
              have q185 : x8_2 < (l1.length : Int) := of_decide_eq_true (by assumption)
              obtain ⟨ad185, e185, hx185_0⟩ := Kd.at_int HR1.out x8_2 p185 q185
              have hw185_0 := hx185_0
              cases e185
              replace hx185_0 := cel HB.out hx185_0
              replace p185 := eq_true p185
              replace q185 := eq_true q185
              have p186 : 0 ≤ ((rd l1 x8_2) : Int) := of_decide_eq_true (by assumption)
              have q186 : (rd l1 x8_2) < (((rd_T34 l0 0).f0).length : Int) := of_decide_eq_true (by assumption)
              obtain ⟨ad186, e186, hx186_0, hx186_1, hx186_2, hx186_3, hx186_4⟩ := at_T89 HR184_0.out (rd l1 x8_2) p186 q186
              have hw186_4 := hx186_4
              have hw186_3 := hx186_3
              have hw186_2 := hx186_2
              have hw186_1 := hx186_1
              have hw186_0 := hx186_0
              cases e186
              replace hx186_0 := cel HB.out hx186_0
              replace hx186_1 := cel HB.out hx186_1
              replace hx186_2 := cel HB.out hx186_2
              replace hx186_3 := cel HB.out hx186_3
              replace hx186_4 := cel HB.out hx186_4
              replace p186 := eq_true p186
              replace q186 := eq_true q186
              refine start_ (n := 12) (S := fun w' => w'.cell? ad177 = some (.slice (some ad186) ((rd_T34 l0 0).f0).length c184_0) ∧ w'.cell? (ad185.add (x8_2).toNat) = some (.int .i16 (rd l1 x8_2)) ∧ w'.cell? (ad186.add (((rd l1 x8_2)).toNat * 5)) = some (.int .i8 ((rd_T89 ((rd_T34 l0 0).f0) (rd l1 x8_2)).f0)) ∧ w'.cell? ⟨(ad186.add (((rd l1 x8_2)).toNat * 5)).block, (ad186.add (((rd l1 x8_2)).toNat * 5)).off + 1, none⟩ = some (.int .i8 ((rd_T89 ((rd_T34 l0 0).f0) (rd l1 x8_2)).f1)) ∧ w'.cell? ⟨(ad186.add (((rd l1 x8_2)).toNat * 5)).block, (ad186.add (((rd l1 x8_2)).toNat * 5)).off + 2, none⟩ = some (.int .i16 ((rd_T89 ((rd_T34 l0 0).f0) (rd l1 x8_2)).f2.f0)) ∧ w'.cell? ⟨(ad186.add (((rd l1 x8_2)).toNat * 5)).block, (ad186.add (((rd l1 x8_2)).toNat * 5)).off + 3, none⟩ = some (.int .i16 ((rd_T89 ((rd_T34 l0 0).f0) (rd l1 x8_2)).f2.f1)) ∧ w'.cell? ⟨(ad186.add (((rd l1 x8_2)).toNat * 5)).block, (ad186.add (((rd l1 x8_2)).toNat * 5)).off + 4, none⟩ = some (.int .i16 ((rd_T89 ((rd_T34 l0 0).f0) (rd l1 x8_2)).f2.f2))) (ds := []) #[false, false, false, false, false, false, false, false, false, false, false, false] (by kernel_rfl) rfl rfl ⟨(cel HB.out hw184_0 :), (cel HB.out hw185_0 :), (cel HB.out hw186_0 :), (cel HB.out hw186_1 :), (cel HB.out hw186_2 :), (cel HB.out hw186_3 :), (cel HB.out hw186_4 :)⟩ (fun hHeld => ?_); refine with_tabW spec_l06Tree.tab10 spec_l06Tree.bits10 (fun HT_ HW_ => ?_)
              generalize wr.drew = w24 at HO_5 HO_184000 BK176 BK183 HB HR184_0 hx184_0 hx185_0 hx186_0 hx186_1 hx186_2 hx186_3 hx186_4 hHeld ⊢
              refine pure_ (i := 0) (N := some 38) (v := ?_) (a' := ?_) #[true, false, false, false, false, false, false, false, false, false, false, false] rfl rfl (any_of HT_.out (by kernel_rfl)) (fun _ _ _ h => h) (Or.inl ⟨by rfl, ?_⟩) ?_ ?_
              rotate_left
              ·
               intro w'
               go_simp
               with_reducible rfl
              rotate_left
              ·
               simp only [Act.put, sA_, sB_, sC_, i64_w, i32_w]
               rfl
              refine pure_ (i := 1) (N := some 39) (v := ?_) (a' := ?_) #[true, true, false, false, false, false, false, false, false, false, false, false] rfl rfl (any_of HT_.out (by kernel_rfl)) (fun _ _ _ h => h) (Or.inl ⟨by rfl, ?_⟩) ?_ ?_
              rotate_left
              ·
               intro w'
               go_simp
               with_reducible rfl
              rotate_left
              ·
               simp only [Act.put, sA_, sB_, sC_, i64_w, i32_w]
               rfl
              refine pure_ (i := 2) (N := some 40) (v := ?_) (a' := ?_) #[true, true, true, false, false, false, false, false, false, false, false, false] rfl rfl (any_of HT_.out (by kernel_rfl)) (fun _ _ _ h => h) (Or.inl ⟨by rfl, ?_⟩) ?_ ?_
              rotate_left
              ·
               intro w'
               go_simp
               with_reducible rfl
              rotate_left
              ·
               simp only [Act.put, sA_, sB_, sC_, i64_w, i32_w]
               rfl
              refine pure_ (i := 4) (N := some 42) (v := ?_) (a' := ?_) #[true, true, true, false, true, false, false, false, false, false, false, false] rfl rfl (any_of HT_.out (by kernel_rfl)) (fun _ _ _ h => h) (Or.inl ⟨by rfl, ?_⟩) ?_ ?_
              rotate_left
              ·
               intro w'
               go_simp
               with_reducible rfl
              rotate_left
              ·
               simp only [Act.put, sA_, sB_, sC_, i64_w, i32_w]
               rfl
              refine pure_ (i := 5) (N := some 43) (v := ?_) (a' := ?_) #[true, true, true, false, true, true, false, false, false, false, false, false] rfl rfl (any_of HT_.out (by kernel_rfl)) (fun _ _ _ h => h) (Or.inl ⟨by rfl, ?_⟩) ?_ ?_
              rotate_left
              ·
               intro w'
               go_simp
               with_reducible rfl
              rotate_left
              ·
               simp only [Act.put, sA_, sB_, sC_, i64_w, i32_w]
               rfl
              refine pure_ (i := 6) (N := some 44) (v := ?_) (a' := ?_) #[true, true, true, false, true, true, true, false, false, false, false, false] rfl rfl (any_of HT_.out (by kernel_rfl)) (fun _ _ _ h => h) (Or.inl ⟨by rfl, ?_⟩) ?_ ?_
              rotate_left
              ·
               intro w'
               go_simp
               with_reducible rfl
              rotate_left
              ·
               simp only [Act.put, sA_, sB_, sC_, i64_w, i32_w]
               rfl
              refine take_ (i := 3) (N := some 41) (v := ?_) (a' := ?_) #[true, true, true, true, true, true, true, false, false, false, false, false] rfl rfl (take_ofW HT_.out HW_.out (by kernel_rfl)) (fun _ _ _ h => h) (Or.inl ⟨by rfl, ?_⟩) hHeld ?_ ?_
              rotate_left
              ·
               rintro w' ⟨s0, s1, s2, s3, s4, s5, s6⟩
               go_simp
               with_reducible rfl
              rotate_left
              ·
               simp only [Act.put, sA_, sB_, sC_, i64_w, i32_w]
               rfl
              refine take_ (i := 7) (N := some 45) (v := ?_) (a' := ?_) #[true, true, true, true, true, true, true, true, false, false, false, false] rfl rfl (take_ofW HT_.out HW_.out (by kernel_rfl)) (fun _ _ _ h => h) (Or.inl ⟨by rfl, ?_⟩) hHeld ?_ ?_
              rotate_left
              ·
               rintro w' ⟨s0, s1, s2, s3, s4, s5, s6⟩
               go_simp
               with_reducible rfl
              rotate_left
              ·
               simp only [Act.put, sA_, sB_, sC_, i64_w, i32_w]
               rfl
              refine pure_ (i := 8) (N := some 46) (v := ?_) (a' := ?_) #[true, true, true, true, true, true, true, true, true, false, false, false] rfl rfl (any_of HT_.out (by kernel_rfl)) (fun _ _ _ h => h) (Or.inl ⟨by rfl, ?_⟩) ?_ ?_
              rotate_left
              ·
               intro w'
               go_simp
               with_reducible rfl
              rotate_left
              ·
               simp only [Act.put, sA_, sB_, sC_, i64_w, i32_w]
               rfl
              refine take_ (i := 9) (N := some 47) (v := ?_) (a' := ?_) #[true, true, true, true, true, true, true, true, true, true, false, false] rfl rfl (take_ofW HT_.out HW_.out (by kernel_rfl)) (fun _ _ _ h => h) (Or.inl ⟨by rfl, ?_⟩) hHeld ?_ ?_
              rotate_left
              ·
               rintro w' ⟨s0, s1, s2, s3, s4, s5, s6⟩
               go_simp
               with_reducible rfl
              rotate_left
              ·
               simp only [Act.put, sA_, sB_, sC_, i64_w, i32_w]
               rfl
              refine one_ (i := 10) (N := some 9) #[true, true, true, true, true, true, true, true, true, true, true, false] rfl rfl (one_of HT_.out (by kernel_rfl)) (by decide) (fun K hK => ?_)
              refine box_step ?hg (N := 9) ?hd (cs := #[.int .i8 0, .int .i8 0, .int .i16 0, .int .i16 0, .int .i16 0]) (t := 89) ?hr ?_; (case hd => rfl); (case hg => rfl); (case hr => first | (go_simp; done) | (go_simp; rfl))
              intro gb187 hg w25 hbox hb
              have _ := A_ (Kd.R_below z3_15_ hb)
              have _ := A_ (Kd.R_below (Kd.R_elderB z3_16_ gb187 (Nat.le_of_eq hg.symm)) hb)
              have _ := A_ (blk_below (g := gb176) (o := .cells #[.slice none 0 0] 34 (0, 0)) z3_9_ hb)
              have _ := A_ (blk_below (g := gb183) (o := .cells #[u184000] 34 (0, 0)) z3_14_ hb)
              have _ := A_ (below_step z3_12_ hb)
              have _ := A_ (hbox)
              have _ := A_ ((by rw [hg]; exact (below_size z3_12_) : w.heap.size ≤ gb187))
              have _ := A_ ((by rw [hg]; exact (below_size z3_12_) : w.heap.size ≤ gb187))
              have _ := A_ ((by rw [hg]; exact Nat.ne_of_lt (blk_lt (g := gb176) (o := .cells #[.slice none 0 0] 34 (0, 0)) z3_9_) : gb176 ≠ gb187))
              have _ := A_ ((by rw [hg]; exact Nat.ne_of_gt (blk_lt (g := gb176) (o := .cells #[.slice none 0 0] 34 (0, 0)) z3_9_) : gb187 ≠ gb176))
              have _ := A_ ((by rw [hg]; exact Nat.ne_of_lt (blk_lt (g := gb183) (o := .cells #[u184000] 34 (0, 0)) z3_14_) : gb183 ≠ gb187))
              have _ := A_ ((by rw [hg]; exact Nat.ne_of_gt (blk_lt (g := gb183) (o := .cells #[u184000] 34 (0, 0)) z3_14_) : gb187 ≠ gb183))
              clear HO_5 HO_184000 BK176 BK183 HB
              rename_i HO_5 HO_184000 BK176 BK183 HB BK187 GW187 GE187 NB176_187 NB187_176 NB183_187 NB187_183
              clear hb hbox hg
              refine hK.out _ _ ⟨(cel HB.out hw184_0 :), (cel HB.out hw185_0 :), (cel HB.out hw186_0 :), (cel HB.out hw186_1 :), (cel HB.out hw186_2 :), (cel HB.out hw186_3 :), (cel HB.out hw186_4 :)⟩ (fun hHeld => ?_)
              clear hK K
              refine norm_ (a' := ?_) ?_ ?_
              rotate_left
              ·
               show Act.put _ (some 9) _ = _
               simp only [Act.put, sA_, sB_, sC_, i64_w, i32_w]
               rfl
              refine one_ (i := 11) (N := none) #[true, true, true, true, true, true, true, true, true, true, true, true] rfl rfl (one_of HT_.out (by kernel_rfl)) (by decide) (fun K hK => ?_)
              have hs26 : w25.cell? ⟨gb187, 0, none⟩ = some (.int .i8 0) := (blk_cell BK187.out 0).trans rfl
              have hfs26 := blk_frozen BK187.out 0
              have hns26_0 := NB176_187.out
              have hns26_1 := NB183_187.out
              have hms26_0 := NB187_176.out
              have hms26_1 := NB187_183.out
              have hs27 : w25.cell? ⟨gb187, 1, none⟩ = some (.int .i8 0) := (blk_cell BK187.out 1).trans rfl
              have hfs27 := blk_frozen BK187.out 1
              have hns27_0 := NB176_187.out
              have hns27_1 := NB183_187.out
              have hms27_0 := NB187_176.out
              have hms27_1 := NB187_183.out
              have hs28 : w25.cell? ⟨gb187, 2, none⟩ = some (.int .i16 0) := (blk_cell BK187.out 2).trans rfl
              have hfs28 := blk_frozen BK187.out 2
              have hns28_0 := NB176_187.out
              have hns28_1 := NB183_187.out
              have hms28_0 := NB187_176.out
              have hms28_1 := NB187_183.out
              have hs29 : w25.cell? ⟨gb187, 3, none⟩ = some (.int .i16 0) := (blk_cell BK187.out 3).trans rfl
              have hfs29 := blk_frozen BK187.out 3
              have hns29_0 := NB176_187.out
              have hns29_1 := NB183_187.out
              have hms29_0 := NB187_176.out
              have hms29_1 := NB187_183.out
              have hs30 : w25.cell? ⟨gb187, 4, none⟩ = some (.int .i16 0) := (blk_cell BK187.out 4).trans rfl
              have hfs30 := blk_frozen BK187.out 4
              have hns30_0 := NB176_187.out
              have hns30_1 := NB183_187.out
              have hms30_0 := NB187_176.out
              have hms30_1 := NB187_183.out
              refine skip_ (w1 := ?_) (by rfl) rfl ?_ ?_
              rotate_left
              ·
               go_simp
               rfl
              refine hK.out _ _ ⟨((cell_far (p := ⟨gb187, _, none⟩) z3_7_ _).trans (((cell_far (p := ⟨gb187, _, none⟩) z3_7_ _).trans (((cell_far (p := ⟨gb187, _, none⟩) z3_7_ _).trans (((cell_far (p := ⟨gb187, _, none⟩) z3_7_ _).trans (((cell_far (p := ⟨gb187, _, none⟩) z3_7_ _).trans (hHeld.1)))))))))), ((cell_far (p := ⟨gb187, _, none⟩) z3_6_ _).trans (((cell_far (p := ⟨gb187, _, none⟩) z3_6_ _).trans (((cell_far (p := ⟨gb187, _, none⟩) z3_6_ _).trans (((cell_far (p := ⟨gb187, _, none⟩) z3_6_ _).trans (((cell_far (p := ⟨gb187, _, none⟩) z3_6_ _).trans (hHeld.2.1)))))))))), ((cell_far (p := ⟨gb187, _, none⟩) z3_5_ _).trans (((cell_far (p := ⟨gb187, _, none⟩) z3_5_ _).trans (((cell_far (p := ⟨gb187, _, none⟩) z3_5_ _).trans (((cell_far (p := ⟨gb187, _, none⟩) z3_5_ _).trans (((cell_far (p := ⟨gb187, _, none⟩) z3_5_ _).trans (hHeld.2.2.1)))))))))), ((cell_far (p := ⟨gb187, _, none⟩) z3_4_ _).trans (((cell_far (p := ⟨gb187, _, none⟩) z3_4_ _).trans (((cell_far (p := ⟨gb187, _, none⟩) z3_4_ _).trans (((cell_far (p := ⟨gb187, _, none⟩) z3_4_ _).trans (((cell_far (p := ⟨gb187, _, none⟩) z3_4_ _).trans (hHeld.2.2.2.1)))))))))), ((cell_far (p := ⟨gb187, _, none⟩) z3_3_ _).trans (((cell_far (p := ⟨gb187, _, none⟩) z3_3_ _).trans (((cell_far (p := ⟨gb187, _, none⟩) z3_3_ _).trans (((cell_far (p := ⟨gb187, _, none⟩) z3_3_ _).trans (((cell_far (p := ⟨gb187, _, none⟩) z3_3_ _).trans (hHeld.2.2.2.2.1)))))))))), ((cell_far (p := ⟨gb187, _, none⟩) z3_2_ _).trans (((cell_far (p := ⟨gb187, _, none⟩) z3_2_ _).trans (((cell_far (p := ⟨gb187, _, none⟩) z3_2_ _).trans (((cell_far (p := ⟨gb187, _, none⟩) z3_2_ _).trans (((cell_far (p := ⟨gb187, _, none⟩) z3_2_ _).trans (hHeld.2.2.2.2.2.1)))))))))), ((cell_far (p := ⟨gb187, _, none⟩) z3_1_ _).trans (((cell_far (p := ⟨gb187, _, none⟩) z3_1_ _).trans (((cell_far (p := ⟨gb187, _, none⟩) z3_1_ _).trans (((cell_far (p := ⟨gb187, _, none⟩) z3_1_ _).trans (((cell_far (p := ⟨gb187, _, none⟩) z3_1_ _).trans (hHeld.2.2.2.2.2.2))))))))))⟩ (fun hHeld => ?_)
              clear hK K
              refine done_ (done_of HT_.out (by kernel_rfl)) ?_
              try go_wp2
              go_loopg [10] k2 (fun kq v10 w' => ∃ (x10_3 : Int) (x188002_3 : Int) (x188003_3 : Int) (x188004_3 : Int), v10 = .int .i64 x10_3 ∧ Aside0 (spec_l06Tree.l2 kq l0 l1 x5_1 x8_2 x10_3 x184000_2 ((rd_T89 ((rd_T34 l0 0).f0) (rd l1 x8_2)).f0) ((rd_T89 ((rd_T34 l0 0).f0) (rd l1 x8_2)).f1) x188002_3 x188003_3 x188004_3 = some r) ∧ Aside0 (kq ≤ k2) ∧ Aside0 (Kd.R (Kd.int .i16) 85 w' w.heap.size (fun _ => True) v179 x5_1) ∧ Aside0 (Kd.R k89 89 w' w.heap.size (fun k_ => k_ ≠ gb187) u184000 x184000_2) ∧ Aside0 (w'.heap[gb176]? = some (.cells #[(.slice none 0 0)] 34 (0, 0))) ∧ Aside0 (w'.heap[gb183]? = some (.cells #[u184000] 34 (0, 0))) ∧ Aside0 (w'.heap[gb187]? = some (.cells #[.int .i8 ((rd_T89 ((rd_T34 l0 0).f0) (rd l1 x8_2)).f0), .int .i8 ((rd_T89 ((rd_T34 l0 0).f0) (rd l1 x8_2)).f1), .int .i16 x188002_3, .int .i16 x188003_3, .int .i16 x188004_3] 89 (0, 0))) ∧ Aside0 (Below w.heap.size w w'))
              case atStart => exact ⟨(0), ((rd_T89 ((rd_T34 l0 0).f0) (rd l1 x8_2)).f2.f0), ((rd_T89 ((rd_T34 l0 0).f0) (rd l1 x8_2)).f2.f1), ((rd_T89 ((rd_T34 l0 0).f0) (rd l1 x8_2)).f2.f2), z3_11_, H', ⟨Nat.le_refl _⟩, ⟨(by (with_reducible repeat (first | apply Kd.R_alloc | apply Kd.R_drewN | apply Kd.R_drew)); exact Kd.R_mono (Kd.R_far (p := ⟨gb187, 4, none⟩) (Kd.R_far (p := ⟨gb187, 3, none⟩) (Kd.R_far (p := ⟨gb187, 2, none⟩) (Kd.R_far (p := ⟨gb187, 1, none⟩) (Kd.R_far (p := ⟨gb187, 0, none⟩) (Kd.R_types HO_5.out BK187.out (by decide)) (fun _ hk => hk.2) (.int .i8 ((rd_T89 ((rd_T34 l0 0).f0) (rd l1 x8_2)).f0))) (fun _ hk => hk.2) (.int .i8 ((rd_T89 ((rd_T34 l0 0).f0) (rd l1 x8_2)).f1))) (fun _ hk => hk.2) (.int .i16 ((rd_T89 ((rd_T34 l0 0).f0) (rd l1 x8_2)).f2.f0))) (fun _ hk => hk.2) (.int .i16 ((rd_T89 ((rd_T34 l0 0).f0) (rd l1 x8_2)).f2.f1))) (fun _ hk => hk.2) (.int .i16 ((rd_T89 ((rd_T34 l0 0).f0) (rd l1 x8_2)).f2.f2))) (fun _ hk => trivial))⟩, ⟨(by (with_reducible repeat (first | apply Kd.R_alloc | apply Kd.R_drewN | apply Kd.R_drew)); exact Kd.R_mono (Kd.R_far (p := ⟨gb187, 4, none⟩) (Kd.R_far (p := ⟨gb187, 3, none⟩) (Kd.R_far (p := ⟨gb187, 2, none⟩) (Kd.R_far (p := ⟨gb187, 1, none⟩) (Kd.R_far (p := ⟨gb187, 0, none⟩) (Kd.R_mono HO_184000.out (fun k_ hk => (⟨hk, hk.2⟩ : _ ∧ k_ ≠ gb187))) (fun _ hk => hk.2) (.int .i8 ((rd_T89 ((rd_T34 l0 0).f0) (rd l1 x8_2)).f0))) (fun _ hk => hk.2) (.int .i8 ((rd_T89 ((rd_T34 l0 0).f0) (rd l1 x8_2)).f1))) (fun _ hk => hk.2) (.int .i16 ((rd_T89 ((rd_T34 l0 0).f0) (rd l1 x8_2)).f2.f0))) (fun _ hk => hk.2) (.int .i16 ((rd_T89 ((rd_T34 l0 0).f0) (rd l1 x8_2)).f2.f1))) (fun _ hk => hk.2) (.int .i16 ((rd_T89 ((rd_T34 l0 0).f0) (rd l1 x8_2)).f2.f2))) (fun _ hk => hk.1.2))⟩, ⟨(by (with_reducible repeat (first | refine blk_drewN ?_ _ | refine blk_drew ?_ | refine blk_alloc ?_ _)); refine blk_far ?_ NB176_187.out _; (with_reducible repeat (first | refine blk_drewN ?_ _ | refine blk_drew ?_ | refine blk_alloc ?_ _)); refine blk_far ?_ NB176_187.out _; (with_reducible repeat (first | refine blk_drewN ?_ _ | refine blk_drew ?_ | refine blk_alloc ?_ _)); refine blk_far ?_ NB176_187.out _; (with_reducible repeat (first | refine blk_drewN ?_ _ | refine blk_drew ?_ | refine blk_alloc ?_ _)); refine blk_far ?_ NB176_187.out _; (with_reducible repeat (first | refine blk_drewN ?_ _ | refine blk_drew ?_ | refine blk_alloc ?_ _)); refine blk_far ?_ NB176_187.out _; (with_reducible repeat (first | refine blk_drewN ?_ _ | refine blk_drew ?_ | refine blk_alloc ?_ _)); exact BK176.out)⟩, ⟨(by (with_reducible repeat (first | refine blk_drewN ?_ _ | refine blk_drew ?_ | refine blk_alloc ?_ _)); refine blk_far ?_ NB183_187.out _; (with_reducible repeat (first | refine blk_drewN ?_ _ | refine blk_drew ?_ | refine blk_alloc ?_ _)); refine blk_far ?_ NB183_187.out _; (with_reducible repeat (first | refine blk_drewN ?_ _ | refine blk_drew ?_ | refine blk_alloc ?_ _)); refine blk_far ?_ NB183_187.out _; (with_reducible repeat (first | refine blk_drewN ?_ _ | refine blk_drew ?_ | refine blk_alloc ?_ _)); refine blk_far ?_ NB183_187.out _; (with_reducible repeat (first | refine blk_drewN ?_ _ | refine blk_drew ?_ | refine blk_alloc ?_ _)); refine blk_far ?_ NB183_187.out _; (with_reducible repeat (first | refine blk_drewN ?_ _ | refine blk_drew ?_ | refine blk_alloc ?_ _)); exact BK183.out)⟩, ⟨(by (with_reducible repeat (first | refine blk_drewN ?_ _ | refine blk_drew ?_ | refine blk_alloc ?_ _)); refine blk_put (cs := #[.int .i8 ((rd_T89 ((rd_T34 l0 0).f0) (rd l1 x8_2)).f0), .int .i8 ((rd_T89 ((rd_T34 l0 0).f0) (rd l1 x8_2)).f1), .int .i16 ((rd_T89 ((rd_T34 l0 0).f0) (rd l1 x8_2)).f2.f0), .int .i16 ((rd_T89 ((rd_T34 l0 0).f0) (rd l1 x8_2)).f2.f1), .int .i16 0]) ?_ 4 _ rfl; (with_reducible repeat (first | refine blk_drewN ?_ _ | refine blk_drew ?_ | refine blk_alloc ?_ _)); refine blk_put (cs := #[.int .i8 ((rd_T89 ((rd_T34 l0 0).f0) (rd l1 x8_2)).f0), .int .i8 ((rd_T89 ((rd_T34 l0 0).f0) (rd l1 x8_2)).f1), .int .i16 ((rd_T89 ((rd_T34 l0 0).f0) (rd l1 x8_2)).f2.f0), .int .i16 0, .int .i16 0]) ?_ 3 _ rfl; (with_reducible repeat (first | refine blk_drewN ?_ _ | refine blk_drew ?_ | refine blk_alloc ?_ _)); refine blk_put (cs := #[.int .i8 ((rd_T89 ((rd_T34 l0 0).f0) (rd l1 x8_2)).f0), .int .i8 ((rd_T89 ((rd_T34 l0 0).f0) (rd l1 x8_2)).f1), .int .i16 0, .int .i16 0, .int .i16 0]) ?_ 2 _ rfl; (with_reducible repeat (first | refine blk_drewN ?_ _ | refine blk_drew ?_ | refine blk_alloc ?_ _)); refine blk_put (cs := #[.int .i8 ((rd_T89 ((rd_T34 l0 0).f0) (rd l1 x8_2)).f0), .int .i8 0, .int .i16 0, .int .i16 0, .int .i16 0]) ?_ 1 _ rfl; (with_reducible repeat (first | refine blk_drewN ?_ _ | refine blk_drew ?_ | refine blk_alloc ?_ _)); refine blk_put (cs := #[.int .i8 0, .int .i8 0, .int .i16 0, .int .i16 0, .int .i16 0]) ?_ 0 _ rfl; (with_reducible repeat (first | refine blk_drewN ?_ _ | refine blk_drew ?_ | refine blk_alloc ?_ _)); exact BK187.out)⟩, ⟨z3_8_⟩⟩
              case round =>
               clear H'
               try clear c1
               try clear p1
               try clear q1
               try clear hx1
               try clear c2
               try clear p2
               try clear c3
               try clear c3b0
               try clear c3b1
               try clear c4
               try clear c4b0
               try clear c4b1
               try clear c5
               try clear c5b0
               try clear c5b1
               try clear p6
               try clear c9
               try clear c9b0
               try clear c10
               try clear c10b0
               try clear c11
               try clear c11b0
               try clear c12
               try clear c12b0
               try clear p13
               try clear q13
               try clear hx13
               try clear hf13
               try clear c17
               try clear q17
               try clear hx17
               try clear c18
               try clear p18
               try clear q18
               try clear hx18
               try clear c19
               try clear c19b0
               try clear c20
               try clear c20b0
               try clear c20b1
               try clear c21
               try clear c21b0
               try clear c22
               try clear c22b0
               try clear c23
               try clear c23b0
               try clear hcz18_0
               try clear hfz18_0
               try clear hx13_0
               try clear hx177_0
               try clear hx181_0
               try clear hx184_0
               try clear hx185_0
               try clear hx186_0
               try clear hx186_1
               try clear hx186_2
               try clear hx186_3
               try clear hx186_4
               try clear p1
               try clear p13
               try clear p18
               try clear p181
               try clear p185
               try clear p186
               try clear p2
               try clear p6
               try clear q1
               try clear q13
               try clear q17
               try clear q177
               try clear q18
               try clear q181
               try clear q184
               try clear q185
               try clear q186
               obtain ⟨x10_3, x188002_3, x188003_3, x188004_3, rfl, HA, HK3, HO_5, HO_184000, BK176, BK183, BK187, HB⟩ := hrel
               cases gk with
               | zero => exact absurd HA.out (by simp [spec_l06Tree.l2])
               | succ k3 =>
                have H := HA.out
                clear HA
                simp only [spec_l06Tree.l2] at H
                replace H := Option.bind_eq_some_iff.mp H
                obtain ⟨t189, A310, H⟩ := H
                try dsimp only at H
                have A31 := A_ A310
                clear A310
                by_cases c32 : x10_3 < t189
                ·
                 rw [if_pos c32] at H
                 have c32b0 := decide_eq_true c32
                 clear c32
                 by_cases c33 : 0 ≤ x10_3
                 ·
                  rw [if_pos c33] at H
                  have c33b0 := decide_eq_true c33
                  clear c33
                  by_cases c34 : x10_3 < 3
                  ·
                   rw [if_pos c34] at H
                   have c34b0 := decide_eq_true c34
                   clear c34
                   by_cases c35 : 0 ≤ (rd [x188002_3, x188003_3, x188004_3] x10_3)
                   ·
                    rw [if_pos c35] at H
                    have c35b0 := decide_eq_true c35
                    clear c35
                    by_cases c36 : (rd [x188002_3, x188003_3, x188004_3] x10_3) < (x5_1.length : Int)
                    ·
                     rw [if_pos c36] at H
                     have c36b0 := decide_eq_true c36
                     clear c36
                     have H' := A_ H
                     clear H
                     go_wp2_with (first | ((with_reducible refine gate_callee (f := 68) rfl ?_); refine goesL_ (some 49) rfl rfl Try.func68 (by kernel_rfl) rfl #[.pointer (some ⟨gb187, 0, none⟩)] rfl z3_20_ ?_; (with_reducible refine (spec_l06Ways.calls _ ([(⟨((rd_T89 ((rd_T34 l0 0).f0) (rd l1 x8_2)).f0), ((rd_T89 ((rd_T34 l0 0).f0) (rd l1 x8_2)).f1), (⟨x188002_3, x188003_3, x188004_3⟩ : S87)⟩ : S89)]).length [(⟨((rd_T89 ((rd_T34 l0 0).f0) (rd l1 x8_2)).f0), ((rd_T89 ((rd_T34 l0 0).f0) (rd l1 x8_2)).f1), (⟨x188002_3, x188003_3, x188004_3⟩ : S87)⟩ : S89)] t189 _ ?side1 ?side2 A31.out).mono ?_); (case side1 => refine Kd.C_block k89 (g := gb187) (cs := #[.int .i8 ((rd_T89 ((rd_T34 l0 0).f0) (rd l1 x8_2)).f0), .int .i8 ((rd_T89 ((rd_T34 l0 0).f0) (rd l1 x8_2)).f1), .int .i16 x188002_3, .int .i16 x188003_3, .int .i16 x188004_3]) (T := 89) z3_13_ (show Kd.K k89 _ (⟨((rd_T89 ((rd_T34 l0 0).f0) (rd l1 x8_2)).f0), ((rd_T89 ((rd_T34 l0 0).f0) (rd l1 x8_2)).f1), (⟨x188002_3, x188003_3, x188004_3⟩ : S87)⟩ : S89) [.int .i8 ((rd_T89 ((rd_T34 l0 0).f0) (rd l1 x8_2)).f0), .int .i8 ((rd_T89 ((rd_T34 l0 0).f0) (rd l1 x8_2)).f1), .int .i16 x188002_3, .int .i16 x188003_3, .int .i16 x188004_3] from k89_mk _ _) (by decide)); (case side2 => exact Nat.le_refl _); rintro e w' ⟨rfl, ⟨nd, rfl⟩⟩; refine ⟨_, rfl, ?_⟩; (try (rw [drewN_self wr]; generalize hq_ : World.drewN wr _ = wr; have n0_ : Aside0 (Kd.R k89 89 wr w.heap.size (fun k_ => k_ ≠ gb187) u184000 x184000_2) := ⟨(by rw [← hq_]; exact z3_16_)⟩; have n1_ : Aside0 (Kd.R (Kd.int .i16) 85 wr w.heap.size (fun _ => True) v179 x5_1) := ⟨(by rw [← hq_]; exact z3_15_)⟩; have n2_ : Aside0 (wr.heap[gb176]? = some (.cells #[.slice none 0 0] 34 (0, 0))) := ⟨(by rw [← hq_]; exact z3_9_)⟩; have n3_ : Aside0 (wr.heap[gb183]? = some (.cells #[u184000] 34 (0, 0))) := ⟨(by rw [← hq_]; exact z3_14_)⟩; have n4_ : Aside0 (wr.heap[gb187]? = some (.cells #[.int .i8 ((rd_T89 ((rd_T34 l0 0).f0) (rd l1 x8_2)).f0), .int .i8 ((rd_T89 ((rd_T34 l0 0).f0) (rd l1 x8_2)).f1), .int .i16 x188002_3, .int .i16 x188003_3, .int .i16 x188004_3] 89 (0, 0))) := ⟨(by rw [← hq_]; exact z3_13_)⟩; have n5_ : Aside0 (Below w.heap.size w wr) := ⟨(by rw [← hq_]; exact z3_8_)⟩; clear HO_184000 HO_5 BK176 BK183 BK187 HB hq_; have HO_184000 := n0_; have HO_5 := n1_; have BK176 := n2_; have BK183 := n3_; have BK187 := n4_; have HB := n5_; clear n0_ n1_ n2_ n3_ n4_ n5_)); have p190 : 0 ≤ (x10_3 : Int) := of_decide_eq_true (by assumption); have q190 : (x10_3 : Int) < 3 := of_decide_eq_true (by assumption); have hx190_0 := blk_arr (xs := [x188002_3, x188003_3, x188004_3]) (k := .i16) BK187.out 2 rfl x10_3 p190 q190; (try simp only [Nat.zero_add] at hx190_0); replace p190 := eq_true p190; replace q190 := eq_true q190; obtain ⟨Ao37, co37, eo37⟩ := Kd.R_slice HO_5.out; subst eo37; have p191 : 0 ≤ ((rd [x188002_3, x188003_3, x188004_3] x10_3) : Int) := of_decide_eq_true (by assumption); have q191 : (rd [x188002_3, x188003_3, x188004_3] x10_3) < (x5_1.length : Int) := of_decide_eq_true (by assumption); obtain ⟨ad191, e191, hx191_0⟩ := Kd.at_int (Kd.R_reads' HO_5.out).2.2 (rd [x188002_3, x188003_3, x188004_3] x10_3) p191 q191; cases e191; replace p191 := eq_true p191; replace q191 := eq_true q191; have p192 : 0 ≤ (x10_3 : Int) := of_decide_eq_true (by assumption); have q192 : (x10_3 : Int) < 3 := of_decide_eq_true (by assumption); have hx192_0 := blk_arr (xs := [x188002_3, x188003_3, x188004_3]) (k := .i16) BK187.out 2 rfl x10_3 p192 q192; have hf192_0 := blk_frozen BK187.out (2 + (x10_3 : Int).toNat); have hcs192 := A_ (show (x10_3 : Int) = 0 ∨ (x10_3 : Int) = 1 ∨ (x10_3 : Int) = 2 by omega); (try simp only [Nat.zero_add] at hx192_0); (try simp only [Nat.zero_add] at hf192_0); replace p192 := eq_true p192; replace q192 := eq_true q192) | ((with_reducible refine gate_store (t := 85) (p := 62) rfl ?_); refine store_event (t := 85) (p := 62) (v := ?vo_w38) (w1 := (wr.setCell ⟨gb187, 2 + (x10_3 : Int).toNat, none⟩ (.int .i16 (rd x5_1 (rd [x188002_3, x188003_3, x188004_3] x10_3))))) ?hg ?ho ?hn ?hr ?_; (case ho => rfl); (case hg => rfl); (case hn => rfl); (case hr => first | (go_simp; done) | (go_simp; rfl)); intro w38 hw; have n0_ : Aside0 (Kd.R (Kd.int .i16) 85 w38 w.heap.size (fun _ => True) (.slice (some ad191) x5_1.length co37) x5_1) := ⟨(by rw [hw]; exact (by (with_reducible repeat (first | apply Kd.R_alloc | apply Kd.R_drewN | apply Kd.R_drew)); exact Kd.R_mono (Kd.R_far (p := ⟨gb187, 2 + (x10_3 : Int).toNat, none⟩) (Kd.R_types HO_5.out BK187.out (by decide)) (fun _ hk => hk.2) (.int .i16 (rd x5_1 (rd [x188002_3, x188003_3, x188004_3] x10_3)))) (fun _ hk => trivial)))⟩; have n1_ : Aside0 (Kd.R k89 89 w38 w.heap.size (fun k_ => k_ ≠ gb187) u184000 x184000_2) := ⟨(by rw [hw]; exact (by (with_reducible repeat (first | apply Kd.R_alloc | apply Kd.R_drewN | apply Kd.R_drew)); exact Kd.R_mono (Kd.R_far (p := ⟨gb187, 2 + (x10_3 : Int).toNat, none⟩) (Kd.R_mono HO_184000.out (fun k_ hk => (⟨hk, hk⟩ : _ ∧ k_ ≠ gb187))) (fun _ hk => hk.2) (.int .i16 (rd x5_1 (rd [x188002_3, x188003_3, x188004_3] x10_3)))) (fun _ hk => hk.1)))⟩; have n2_ : Aside0 (w38.heap[gb176]? = some (.cells #[.slice none 0 0] 34 (0, 0))) := ⟨(by rw [hw]; exact (by (with_reducible repeat (first | refine blk_drewN ?_ _ | refine blk_drew ?_ | refine blk_alloc ?_ _)); refine blk_far ?_ NB176_187.out _; (with_reducible repeat (first | refine blk_drewN ?_ _ | refine blk_drew ?_ | refine blk_alloc ?_ _)); exact BK176.out))⟩; have n3_ : Aside0 (w38.heap[gb183]? = some (.cells #[u184000] 34 (0, 0))) := ⟨(by rw [hw]; exact (by (with_reducible repeat (first | refine blk_drewN ?_ _ | refine blk_drew ?_ | refine blk_alloc ?_ _)); refine blk_far ?_ NB183_187.out _; (with_reducible repeat (first | refine blk_drewN ?_ _ | refine blk_drew ?_ | refine blk_alloc ?_ _)); exact BK183.out))⟩; have n4_ : Aside0 (w38.heap[gb187]? = some (.cells #[.int .i8 ((rd_T89 ((rd_T34 l0 0).f0) (rd l1 x8_2)).f0), .int .i8 ((rd_T89 ((rd_T34 l0 0).f0) (rd l1 x8_2)).f1), .int .i16 (up 0 x10_3 (rd x5_1 (rd [x188002_3, x188003_3, x188004_3] x10_3)) x188002_3), .int .i16 (up 1 x10_3 (rd x5_1 (rd [x188002_3, x188003_3, x188004_3] x10_3)) x188003_3), .int .i16 (up 2 x10_3 (rd x5_1 (rd [x188002_3, x188003_3, x188004_3] x10_3)) x188004_3)] 89 (0, 0))) := ⟨(by rw [hw]; exact (by (with_reducible repeat (first | refine blk_drewN ?_ _ | refine blk_drew ?_ | refine blk_alloc ?_ _)); refine blk_put (cs := #[.int .i8 ((rd_T89 ((rd_T34 l0 0).f0) (rd l1 x8_2)).f0), .int .i8 ((rd_T89 ((rd_T34 l0 0).f0) (rd l1 x8_2)).f1), .int .i16 x188002_3, .int .i16 x188003_3, .int .i16 x188004_3]) ?_ (2 + (x10_3 : Int).toNat) _ (by rcases hcs192.out with h_ | h_ | h_ <;> rw [h_] <;> rfl); (with_reducible repeat (first | refine blk_drewN ?_ _ | refine blk_drew ?_ | refine blk_alloc ?_ _)); exact BK187.out))⟩; have n5_ : Aside0 (Below w.heap.size w w38) := ⟨(by rw [hw]; exact z3_8_)⟩; clear hw; clear HO_5; clear HO_184000; clear BK176; clear BK183; clear BK187; clear HB; have HO_5 := n0_; have HO_184000 := n1_; have BK176 := n2_; have BK183 := n3_; have BK187 := n4_; have HB := n5_; clear n0_ n1_ n2_ n3_ n4_ n5_))
                     go_roundg k3
                     case measure => have := HK1.out; have := HK2.out; have := HK3.out; omega
                     case rel => exact ⟨(wrap64 (x10_3 + 1)), (up 0 x10_3 (rd x5_1 (rd [x188002_3, x188003_3, x188004_3] x10_3)) x188002_3), (up 1 x10_3 (rd x5_1 (rd [x188002_3, x188003_3, x188004_3] x10_3)) x188003_3), (up 2 x10_3 (rd x5_1 (rd [x188002_3, x188003_3, x188004_3] x10_3)) x188004_3), z3_11_, H', ⟨(by have := HK1.out; have := HK2.out; have := HK3.out; omega)⟩, ⟨z3_15_⟩, ⟨z3_16_⟩, ⟨z3_9_⟩, ⟨z3_14_⟩, ⟨z3_13_⟩, ⟨z3_8_⟩⟩
                    ·
                     rw [if_neg c36] at H
                     exact absurd H (by simp)
                   ·
                    rw [if_neg c35] at H
                    exact absurd H (by simp)
                  ·
                   rw [if_neg c34] at H
                   exact absurd H (by simp)
                 ·
                  rw [if_neg c33] at H
                  exact absurd H (by simp)
                ·
                 rw [if_neg c32] at H
                 have c32b0 := decide_eq_false c32
                 clear c32
                 by_cases c39 : x184000_2.length < 17592186044416
                 ·
                  rw [if_pos c39] at H
                  have LMc39 := A_ c39
                  clear c39
                  obtain ⟨y193, hy193⟩ : ∃ y_ : List (S89), y_ = (x184000_2 ++ [(⟨((rd_T89 ((rd_T34 l0 0).f0) (rd l1 x8_2)).f0), ((rd_T89 ((rd_T34 l0 0).f0) (rd l1 x8_2)).f1), (⟨x188002_3, x188003_3, x188004_3⟩ : S87)⟩ : S89)]) := ⟨_, rfl⟩
                  replace H : (spec_l06Tree.l1 k3 l0 l1 x5_1 (wrap64 (x8_2 + 1)) y193) = some r := by first | (rw [hy193]; with_reducible exact H) | (have H2_ := (Option.bind_some _ _).symm.trans H; rw [hy193]; with_reducible exact H2_) | (have H2_ := (Option.bind_some _ _).symm.trans H; with_reducible exact H2_) | with_reducible exact H | (rw [hy193]; exact H) | exact H
                  have Ny193 := A_ hy193
                  clear hy193
                  have H' := A_ H
                  clear H
                  go_wp2_with (first | ((with_reducible refine gate_callee (f := 68) rfl ?_); refine goesL_ (some 49) rfl rfl Try.func68 (by kernel_rfl) rfl #[.pointer (some ⟨gb187, 0, none⟩)] rfl z3_20_ ?_; (with_reducible refine (spec_l06Ways.calls _ ([(⟨((rd_T89 ((rd_T34 l0 0).f0) (rd l1 x8_2)).f0), ((rd_T89 ((rd_T34 l0 0).f0) (rd l1 x8_2)).f1), (⟨x188002_3, x188003_3, x188004_3⟩ : S87)⟩ : S89)]).length [(⟨((rd_T89 ((rd_T34 l0 0).f0) (rd l1 x8_2)).f0), ((rd_T89 ((rd_T34 l0 0).f0) (rd l1 x8_2)).f1), (⟨x188002_3, x188003_3, x188004_3⟩ : S87)⟩ : S89)] t189 _ ?side1 ?side2 A31.out).mono ?_); (case side1 => refine Kd.C_block k89 (g := gb187) (cs := #[.int .i8 ((rd_T89 ((rd_T34 l0 0).f0) (rd l1 x8_2)).f0), .int .i8 ((rd_T89 ((rd_T34 l0 0).f0) (rd l1 x8_2)).f1), .int .i16 x188002_3, .int .i16 x188003_3, .int .i16 x188004_3]) (T := 89) z3_13_ (show Kd.K k89 _ (⟨((rd_T89 ((rd_T34 l0 0).f0) (rd l1 x8_2)).f0), ((rd_T89 ((rd_T34 l0 0).f0) (rd l1 x8_2)).f1), (⟨x188002_3, x188003_3, x188004_3⟩ : S87)⟩ : S89) [.int .i8 ((rd_T89 ((rd_T34 l0 0).f0) (rd l1 x8_2)).f0), .int .i8 ((rd_T89 ((rd_T34 l0 0).f0) (rd l1 x8_2)).f1), .int .i16 x188002_3, .int .i16 x188003_3, .int .i16 x188004_3] from k89_mk _ _) (by decide)); (case side2 => exact Nat.le_refl _); rintro e w' ⟨rfl, ⟨nd, rfl⟩⟩; refine ⟨_, rfl, ?_⟩; (try (rw [drewN_self wr]; generalize hq_ : World.drewN wr _ = wr; have n0_ : Aside0 (Kd.R k89 89 wr w.heap.size (fun k_ => k_ ≠ gb187) u184000 x184000_2) := ⟨(by rw [← hq_]; exact z3_16_)⟩; have n1_ : Aside0 (Kd.R (Kd.int .i16) 85 wr w.heap.size (fun _ => True) v179 x5_1) := ⟨(by rw [← hq_]; exact z3_15_)⟩; have n2_ : Aside0 (wr.heap[gb176]? = some (.cells #[.slice none 0 0] 34 (0, 0))) := ⟨(by rw [← hq_]; exact z3_9_)⟩; have n3_ : Aside0 (wr.heap[gb183]? = some (.cells #[u184000] 34 (0, 0))) := ⟨(by rw [← hq_]; exact z3_14_)⟩; have n4_ : Aside0 (wr.heap[gb187]? = some (.cells #[.int .i8 ((rd_T89 ((rd_T34 l0 0).f0) (rd l1 x8_2)).f0), .int .i8 ((rd_T89 ((rd_T34 l0 0).f0) (rd l1 x8_2)).f1), .int .i16 x188002_3, .int .i16 x188003_3, .int .i16 x188004_3] 89 (0, 0))) := ⟨(by rw [← hq_]; exact z3_13_)⟩; have n5_ : Aside0 (Below w.heap.size w wr) := ⟨(by rw [← hq_]; exact z3_8_)⟩; clear HO_184000 HO_5 BK176 BK183 BK187 HB hq_; have HO_184000 := n0_; have HO_5 := n1_; have BK176 := n2_; have BK183 := n3_; have BK187 := n4_; have HB := n5_; clear n0_ n1_ n2_ n3_ n4_ n5_)); have hnb40 := NB183_176.out; have hnc40 := NB176_183.out; have hnb41 := NB183_187.out; have hnc41 := NB187_183.out; have hcz42_0 : wr.cell? ⟨gb183, 0, none⟩ = some (u184000) := (blk_cell BK183.out 0).trans rfl; have hfz42_0 := blk_frozen BK183.out 0; have hnb43 := NB187_176.out; have hnc43 := NB176_187.out; obtain ⟨hcz44_0, hcz44_1, hcz44_2, hcz44_3, hcz44_4⟩ := bc5 BK187.out; obtain ⟨hfz44_0, hfz44_1, hfz44_2, hfz44_3, hfz44_4⟩ := bf5 BK187.out) | ((with_reducible refine gate_builtin (b := .append) (xs := #[.tmp 64, .tmp 66]) rfl ?_); at_builtin; refine Kd.R_append k89 (w0 := w) w.heap.size rfl (.tmp 64) (.tmp 66) 32 89 (.agg #[(.int .i8 0), (.int .i8 0), (.int .i16 0), (.int .i16 0), (.int .i16 0)]) 8 rfl Try.underlying32 info89 rfl (by decide) (by omega) u184000 x184000_2 (⟨((rd_T89 ((rd_T34 l0 0).f0) (rd l1 x8_2)).f0), ((rd_T89 ((rd_T34 l0 0).f0) (rd l1 x8_2)).f1), (⟨x188002_3, x188003_3, x188004_3⟩ : S87)⟩ : S89) [.int .i8 ((rd_T89 ((rd_T34 l0 0).f0) (rd l1 x8_2)).f0), .int .i8 ((rd_T89 ((rd_T34 l0 0).f0) (rd l1 x8_2)).f1), .int .i16 x188002_3, .int .i16 x188003_3, .int .i16 x188004_3] (fun k_ => k_ ≠ gb187) (fun _ => False) rfl rfl ?aP (fun _ hk => hk.elim) ?aF ?aO ?aB ?aS ?aL ?_; (case aP => exact k89_mkM _ _ _ (⟨((rd_T89 ((rd_T34 l0 0).f0) (rd l1 x8_2)).f0), ((rd_T89 ((rd_T34 l0 0).f0) (rd l1 x8_2)).f1), (⟨x188002_3, x188003_3, x188004_3⟩ : S87)⟩ : S89)); (case aB => exact z3_8_); (case aF => exact (fun k_ hk => Kd.freshB (g := gb187) (o := .cells #[.int .i8 ((rd_T89 ((rd_T34 l0 0).f0) (rd l1 x8_2)).f0), .int .i8 ((rd_T89 ((rd_T34 l0 0).f0) (rd l1 x8_2)).f1), .int .i16 x188002_3, .int .i16 x188003_3, .int .i16 x188004_3] 89 (0, 0)) z3_13_ k_ hk)); (case aO => exact z3_16_); (case aS => exact (below_size z3_8_)); (case aL => have := LMc39.out; omega); intro v194 w45 ho hb hg hat; rw [← Ny193.out] at ho; have _ := A_ (Kd.R_over' z3_15_ (Kd.R_typed z3_16_) (by decide) hg); have _ := A_ (blk_grown (g := gb176) (o := .cells #[.slice none 0 0] 34 (0, 0)) z3_9_ hg (Kd.R_ne HO_184000.out BK176.out (by decide))); have _ := A_ (blk_grown (g := gb183) (o := .cells #[u184000] 34 (0, 0)) z3_14_ hg (Kd.R_ne HO_184000.out BK183.out (by decide))); have _ := A_ (blk_grown (g := gb187) (o := .cells #[.int .i8 ((rd_T89 ((rd_T34 l0 0).f0) (rd l1 x8_2)).f0), .int .i8 ((rd_T89 ((rd_T34 l0 0).f0) (rd l1 x8_2)).f1), .int .i16 x188002_3, .int .i16 x188003_3, .int .i16 x188004_3] 89 (0, 0)) z3_13_ hg (Kd.R_away HO_184000.out (fun _ hk => hk))); have _ := A_ (hb); have _ := A_ (ho); clear HO_5 BK176 BK183 BK187 HB HO_184000; rename_i HO_5 BK176 BK183 BK187 HB HO195; clear ho hb hg hat; obtain ⟨Ao46, co46, eo46⟩ := Kd.R_slice HO195.out; subst eo46; have hcz47_0 : w45.cell? ⟨gb183, 0, none⟩ = some (u184000) := (blk_cell BK183.out 0).trans rfl; have hfz47_0 := blk_frozen BK183.out 0))
                  go_roundg k3
                  case measure => have := HK1.out; have := HK2.out; have := HK3.out; omega
                  case rel => exact ⟨(wrap64 (x8_2 + 1)), (y193), (.slice Ao46 y193.length co46), z3_11_, H', ⟨(by have := HK1.out; have := HK2.out; have := HK3.out; omega)⟩, ⟨(by (with_reducible repeat (first | apply Kd.R_alloc | apply Kd.R_drewN | apply Kd.R_drew)); exact Kd.R_mono (Kd.R_far (p := ⟨gb183, 0, none⟩) (Kd.R_types HO_5.out BK183.out (by decide)) (fun _ hk => hk.2) (.slice Ao46 y193.length co46)) (fun _ hk => trivial))⟩, ⟨(by (with_reducible repeat (first | apply Kd.R_alloc | apply Kd.R_drewN | apply Kd.R_drew)); exact Kd.R_mono (Kd.R_far (p := ⟨gb183, 0, none⟩) (Kd.R_types HO195.out BK183.out (by decide)) (fun _ hk => hk.2) (.slice Ao46 y193.length co46)) (fun _ hk => trivial))⟩, ⟨z3_19_⟩, ⟨(by (with_reducible repeat (first | refine blk_drewN ?_ _ | refine blk_drew ?_ | refine blk_alloc ?_ _)); refine blk_put (cs := #[u184000]) ?_ 0 _ rfl; (with_reducible repeat (first | refine blk_drewN ?_ _ | refine blk_drew ?_ | refine blk_alloc ?_ _)); exact BK183.out)⟩, ⟨z3_8_⟩⟩
                 ·
                  rw [if_neg c39] at H
                  exact absurd H (by simp)
             ·
              rw [if_neg c23] at H
              exact absurd H (by simp)
            ·
             rw [if_neg c22] at H
             exact absurd H (by simp)
           ·
            rw [if_neg c21] at H
            exact absurd H (by simp)
          ·
           rw [if_neg c20] at H
           exact absurd H (by simp)
         ·
          rw [if_neg c19] at H
          have c19b0 := decide_eq_false c19
          clear c19
          obtain rfl := Option.some.inj H
          have hnb48 := NB183_176.out
          have hnc48 := NB176_183.out
          have hcz49_0 : wr.cell? ⟨gb183, 0, none⟩ = some (u184000) := (blk_cell BK183.out 0).trans rfl
          have hfz49_0 := blk_frozen BK183.out 0
          obtain ⟨Ao50, co50, eo50⟩ := Kd.R_slice HO_184000.out
          subst eo50
          have hcz51_0 : wr.cell? ⟨gb176, 0, none⟩ = some (.slice none 0 0) := (blk_cell BK176.out 0).trans rfl
          have hfz51_0 := blk_frozen BK176.out 0
          go_wp2
          refine bodyPost_ret (results_cell_row rfl _ _ gb176 34 #[.slice Ao50 x184000_2.length co50] (0, 0) _ rfl (by (with_reducible repeat (first | refine blk_drewN ?_ _ | refine blk_drew ?_ | refine blk_alloc ?_ _)); refine blk_put (cs := #[.slice none 0 0]) ?_ 0 _ rfl; (with_reducible repeat (first | refine blk_drewN ?_ _ | refine blk_drew ?_ | refine blk_alloc ?_ _)); exact BK176.out) Try.underlying34 rfl (by kernel_rfl)) rfl ?_
          exact ⟨_, (by first | rfl | (simp [errW_none, errW_some] <;> rfl) | (simp [*, errW_none, errW_some] <;> rfl)), (by (with_reducible repeat (first | apply Kd.R_alloc | apply Kd.R_drewN | apply Kd.R_drew)); exact Kd.R_mono (Kd.R_far (p := ⟨gb176, 0, none⟩) (Kd.R_types HO_184000.out BK176.out (by decide)) (fun _ hk => hk.2) (.slice Ao50 x184000_2.length co50)) (fun _ hk => trivial)), z3_12_⟩
   ·
    rw [if_neg c5] at H
    exact absurd H (by simp)
  ·
   rw [if_neg c4] at H
   exact absurd H (by simp)
 ·
  rw [if_neg c3] at H
  exact absurd H (by simp)
/-! ### spec_l06Alike: function 121 -/
mutual
def spec_l06Alike.j0 : Nat → List Int → List (S89) → List (S89) → Bool → Option (Bool)
 | 0, _, _, _, _ => none
 | k + 1, x1, x9, x10, x43 => if x43 = true then (some false) else (spec_l06Alike.l0 k x1 x9 x10 0)
def spec_l06Alike.l0 : Nat → List Int → List (S89) → List (S89) → Int → Option (Bool)
 | 0, _, _, _, _ => none
 | k + 1, x1, x9, x10, x11 => (spec_l06Ways.f x9).bind fun t203 => (if x11 < t203 then (if 0 < (x9.length : Int) then (if 0 ≤ x11 then (if x11 < 3 then (if 0 ≤ (rd [(rd_T89 x9 0).f2.f0, (rd_T89 x9 0).f2.f1, (rd_T89 x9 0).f2.f2] x11) then (if (rd [(rd_T89 x9 0).f2.f0, (rd_T89 x9 0).f2.f1, (rd_T89 x9 0).f2.f2] x11) < (x1.length : Int) then (if 0 < (x10.length : Int) then (if 0 ≤ (rd [(rd_T89 x10 0).f2.f0, (rd_T89 x10 0).f2.f1, (rd_T89 x10 0).f2.f2] x11) then (if (rd [(rd_T89 x10 0).f2.f0, (rd_T89 x10 0).f2.f1, (rd_T89 x10 0).f2.f2] x11) < (x1.length : Int) then (if (rd x1 (rd [(rd_T89 x9 0).f2.f0, (rd_T89 x9 0).f2.f1, (rd_T89 x9 0).f2.f2] x11)) = (rd x1 (rd [(rd_T89 x10 0).f2.f0, (rd_T89 x10 0).f2.f1, (rd_T89 x10 0).f2.f2] x11)) then (spec_l06Alike.l0 k x1 x9 x10 (wrap64 (x11 + 1))) else (some false)) else (none)) else (none)) else (none)) else (none)) else (none)) else (none)) else (none)) else (none)) else (some true))
end
def spec_l06Alike.f (k : Nat) (l0 : List (S34)) (l1 : List Int) (a2 : Int) (a3 : Int) : Option (Bool) := if 0 < (l0.length : Int) then (if 0 ≤ a2 then (if a2 < (((rd_T34 l0 0).f0).length : Int) then (if 0 ≤ a3 then (if a3 < (((rd_T34 l0 0).f0).length : Int) then (if 0 < ([rd_T89 ((rd_T34 l0 0).f0) a2].length : Int) then (if 0 < ([rd_T89 ((rd_T34 l0 0).f0) a3].length : Int) then (if ((rd_T89 ((rd_T34 l0 0).f0) a2).f0) = ((rd_T89 ((rd_T34 l0 0).f0) a3).f0) then (spec_l06Alike.j0 k l1 [rd_T89 ((rd_T34 l0 0).f0) a2] [rd_T89 ((rd_T34 l0 0).f0) a3] (((rd_T89 ((rd_T34 l0 0).f0) a2).f1) != ((rd_T89 ((rd_T34 l0 0).f0) a3).f1))) else (spec_l06Alike.j0 k l1 [rd_T89 ((rd_T34 l0 0).f0) a2] [rd_T89 ((rd_T34 l0 0).f0) a3] true)) else (none)) else (none)) else (none)) else (none)) else (none)) else (none)) else (none)
theorem spec_l06Alike.mono_l : ∀ k, (∀ y0 y1 y2 y3, LeO (spec_l06Alike.j0 k y0 y1 y2 y3) (spec_l06Alike.j0 (k + 1) y0 y1 y2 y3)) ∧ (∀ y0 y1 y2 y3, LeO (spec_l06Alike.l0 k y0 y1 y2 y3) (spec_l06Alike.l0 (k + 1) y0 y1 y2 y3))
 | 0 => ⟨fun _ _ _ _ r h => by simp [spec_l06Alike.j0] at h, fun _ _ _ _ r h => by simp [spec_l06Alike.l0] at h⟩
 | k + 1 => by
  obtain ⟨ih0, ih1⟩ := spec_l06Alike.mono_l k
  refine ⟨?_, ?_⟩
  ·
   intro y0 y1 y2 y3
   unfold spec_l06Alike.j0
   repeat' first
   | (with_reducible exact ih0 _ _ _ _)
   | (with_reducible exact ih1 _ _ _ _)
   | (with_reducible exact LeO.refl _)
   | (with_reducible exact LeO.none _)
   | (with_reducible refine LeO.ite ?_ ?_)
   | (with_reducible refine LeO.bind ?_ (fun _ => ?_))
   | exact ih0 _ _ _ _
   | exact ih1 _ _ _ _
   | exact LeO.none _
   | refine LeO.ite ?_ ?_
   | refine LeO.bind ?_ (fun _ => ?_)
  ·
   intro y0 y1 y2 y3
   unfold spec_l06Alike.l0
   repeat' first
   | (with_reducible exact ih0 _ _ _ _)
   | (with_reducible exact ih1 _ _ _ _)
   | (with_reducible exact LeO.refl _)
   | (with_reducible exact LeO.none _)
   | (with_reducible refine LeO.ite ?_ ?_)
   | (with_reducible refine LeO.bind ?_ (fun _ => ?_))
   | exact ih0 _ _ _ _
   | exact ih1 _ _ _ _
   | exact LeO.none _
   | refine LeO.ite ?_ ?_
   | refine LeO.bind ?_ (fun _ => ?_)
theorem spec_l06Alike.mono : ∀ a0 a1 a2 a3 k, LeO (spec_l06Alike.f k a0 a1 a2 a3) (spec_l06Alike.f (k + 1) a0 a1 a2 a3) := by
 intro a0 a1 a2 a3 k
 obtain ⟨ih0, ih1⟩ := spec_l06Alike.mono_l k
 unfold spec_l06Alike.f
 repeat' first
   | (with_reducible exact ih0 _ _ _ _)
   | (with_reducible exact ih1 _ _ _ _)
   | (with_reducible exact LeO.refl _)
   | (with_reducible exact LeO.none _)
   | (with_reducible refine LeO.ite ?_ ?_)
   | (with_reducible refine LeO.bind ?_ (fun _ => ?_))
   | exact ih0 _ _ _ _
   | exact ih1 _ _ _ _
   | exact LeO.none _
   | refine LeO.ite ?_ ?_
   | refine LeO.bind ?_ (fun _ => ?_)
set_option maxHeartbeats 8000000 in
set_option maxRecDepth 100000 in
theorem spec_l06Alike.calls (k : Nat) (A0 : Option Addr) (c0 : Nat) (l0 : List (S34)) (A1 : Option Addr) (c1 : Nat) (l1 : List Int) (a2 : Int) (a3 : Int) (r : Bool) (w : World) (hr0 : Kd.C k34 w A0 l0.length l0) (hc0 : l0.length ≤ c0) (hr1 : Kd.C (Kd.int .i64) w A1 l1.length l1) (hc1 : l1.length ≤ c1) (h : spec_l06Alike.f k l0 l1 a2 a3 = some r) :
  Calls Try.prog 121 #[.pointer A0, .slice A1 l1.length c1, .int .i64 a2, .int .i64 a3] w fun e w' => e = .returned (.bool r) ∧ Drawn0 w w' := by
 have HR0 := A_ hr0
 have HC0 := A_ hc0
 clear hr0 hc0
 have HR1 := A_ hr1
 have HC1 := A_ hc1
 clear hr1 hc1
 have H : (if 0 < (l0.length : Int) then (if 0 ≤ a2 then (if a2 < (((rd_T34 l0 0).f0).length : Int) then (if 0 ≤ a3 then (if a3 < (((rd_T34 l0 0).f0).length : Int) then (if 0 < ([rd_T89 ((rd_T34 l0 0).f0) a2].length : Int) then (if 0 < ([rd_T89 ((rd_T34 l0 0).f0) a3].length : Int) then (if ((rd_T89 ((rd_T34 l0 0).f0) a2).f0) = ((rd_T89 ((rd_T34 l0 0).f0) a3).f0) then (spec_l06Alike.j0 k l1 [rd_T89 ((rd_T34 l0 0).f0) a2] [rd_T89 ((rd_T34 l0 0).f0) a3] (((rd_T89 ((rd_T34 l0 0).f0) a2).f1) != ((rd_T89 ((rd_T34 l0 0).f0) a3).f1))) else (spec_l06Alike.j0 k l1 [rd_T89 ((rd_T34 l0 0).f0) a2] [rd_T89 ((rd_T34 l0 0).f0) a3] true)) else (none)) else (none)) else (none)) else (none)) else (none)) else (none)) else (none)) = some r := h
 clear h
 by_cases c5 : 0 < (l0.length : Int)
 ·
  rw [if_pos c5] at H
  have c5b0 := decide_eq_true c5
  have c5b1 : decide (0 < l0.length) = true := decide_eq_true (by omega)
  clear c5
  by_cases c6 : 0 ≤ a2
  ·
   rw [if_pos c6] at H
   have c6b0 := decide_eq_true c6
   clear c6
   by_cases c7 : a2 < (((rd_T34 l0 0).f0).length : Int)
   ·
    rw [if_pos c7] at H
    have c7b0 := decide_eq_true c7
    clear c7
    by_cases c8 : 0 ≤ a3
    ·
     rw [if_pos c8] at H
     have c8b0 := decide_eq_true c8
     clear c8
     by_cases c9 : a3 < (((rd_T34 l0 0).f0).length : Int)
     ·
      rw [if_pos c9] at H
      have c9b0 := decide_eq_true c9
      clear c9
      have HC10 := A_ H
      clear H
      have q196 : 0 < (l0.length : Int) := of_decide_eq_true (by assumption)
      obtain ⟨ad196, A196_0, c196_0, e196, hx196_0, hl196_0, hi196_0⟩ := rp_T34 HR0.out q196
      cases e196
      have HR196_0 := A_ hi196_0
      have HC196_0 := A_ hl196_0
      clear hi196_0 hl196_0
      have p197 : 0 ≤ (a2 : Int) := of_decide_eq_true (by assumption)
      have q197 : a2 < (((rd_T34 l0 0).f0).length : Int) := of_decide_eq_true (by assumption)
      obtain ⟨ad197, e197, hx197_0, hx197_1, hx197_2, hx197_3, hx197_4⟩ := at_T89 HR196_0.out a2 p197 q197
      cases e197
      replace p197 := eq_true p197
      replace q197 := eq_true q197
      have HR198 := A_ (show Kd.C k89 w (some (Addr.add ad197 (a2.toNat * 5))) [rd_T89 ((rd_T34 l0 0).f0) a2].length [rd_T89 ((rd_T34 l0 0).f0) a2] from Kd.C_el k89 z89 HR196_0.out (a2 : Int) (of_eq_true p197) (of_eq_true q197))
      have p199 : 0 ≤ (a3 : Int) := of_decide_eq_true (by assumption)
      have q199 : a3 < (((rd_T34 l0 0).f0).length : Int) := of_decide_eq_true (by assumption)
      obtain ⟨ad199, e199, hx199_0, hx199_1, hx199_2, hx199_3, hx199_4⟩ := at_T89 HR196_0.out a3 p199 q199
      obtain rfl : ad197 = ad199 := (by injection e199)
      replace p199 := eq_true p199
      replace q199 := eq_true q199
      have HR200 := A_ (show Kd.C k89 w (some (Addr.add ad197 (a3.toNat * 5))) [rd_T89 ((rd_T34 l0 0).f0) a3].length [rd_T89 ((rd_T34 l0 0).f0) a3] from Kd.C_el k89 z89 HR196_0.out (a3 : Int) (of_eq_true p199) (of_eq_true q199))
      go_enter Try.func121, Try.ntmps121
      go_upto_region 3 with (fail)
      repeat (go_quiet (fail); go_upto_region 3 with (fail))
      go_cut [43] (fun v43 wc => ∃ (kq : Nat) (x43_9 : Bool), v43 = .bool x43_9 ∧ Aside0 (spec_l06Alike.j0 kq l1 [rd_T89 ((rd_T34 l0 0).f0) a2] [rd_T89 ((rd_T34 l0 0).f0) a3] x43_9 = some r) ∧ Aside0 (kq ≤ k) ∧ Drawn0 w wc)
      case first =>
       have H := HC10.out
       clear HC10
       by_cases c11 : 0 < ([rd_T89 ((rd_T34 l0 0).f0) a2].length : Int)
       ·
        rw [if_pos c11] at H
        have c11b0 := decide_eq_true c11
        have c11b1 : decide (0 < [rd_T89 ((rd_T34 l0 0).f0) a2].length) = true := decide_eq_true (by omega)
        clear c11
        (first | rw [c11b0] | (simp only [i64_w, i32_w]; rw [c11b0]) | skip)
        by_cases c12 : 0 < ([rd_T89 ((rd_T34 l0 0).f0) a3].length : Int)
        ·
         rw [if_pos c12] at H
         have c12b0 := decide_eq_true c12
         have c12b1 : decide (0 < [rd_T89 ((rd_T34 l0 0).f0) a3].length) = true := decide_eq_true (by omega)
         clear c12
         by_cases c13 : ((rd_T89 ((rd_T34 l0 0).f0) a2).f0) = ((rd_T89 ((rd_T34 l0 0).f0) a3).f0)
         ·
          rw [if_pos c13] at H
          have c13b0 := beq_iff_eq.mpr c13
          have c13b1 := bne_eq_false_iff_eq.mpr c13
          clear c13
          have H' := A_ H
          clear H
          have q201 : 0 < ([rd_T89 ((rd_T34 l0 0).f0) a2].length : Int) := of_decide_eq_true (by assumption)
          obtain ⟨ad201, e201, hx201_0, hx201_1, hx201_2, hx201_3, hx201_4⟩ := rp_T89 HR198.out q201
          (try simp only [rd1_T89] at hx201_0 hx201_1 hx201_2 hx201_3 hx201_4)
          obtain rfl : (Addr.add ad197 (a2.toNat * 5)) = ad201 := (by injection e201)
          have q202 : 0 < ([rd_T89 ((rd_T34 l0 0).f0) a3].length : Int) := of_decide_eq_true (by assumption)
          obtain ⟨ad202, e202, hx202_0, hx202_1, hx202_2, hx202_3, hx202_4⟩ := rp_T89 HR200.out q202
          (try simp only [rd1_T89] at hx202_0 hx202_1 hx202_2 hx202_3 hx202_4)
          obtain rfl : (Addr.add ad197 (a3.toNat * 5)) = ad202 := (by injection e202)
          go_wp2
          repeat (go_quiet (fail); try go_wp2)
          go_meet
          case rel => exact ⟨_, ((((rd_T89 ((rd_T34 l0 0).f0) a2).f1) != ((rd_T89 ((rd_T34 l0 0).f0) a3).f1))), z3_11_, H', ⟨(by first | omega | exact Nat.le_refl _)⟩, z3_17_⟩
         ·
          rw [if_neg c13] at H
          have c13b0 : (((rd_T89 ((rd_T34 l0 0).f0) a2).f0) == ((rd_T89 ((rd_T34 l0 0).f0) a3).f0)) = false := beq_eq_false_iff_ne.mpr c13
          have c13b1 : (((rd_T89 ((rd_T34 l0 0).f0) a2).f0) != ((rd_T89 ((rd_T34 l0 0).f0) a3).f0)) = true := bne_iff_ne.mpr c13
          have H' := A_ H
          clear H
          have q201 : 0 < ([rd_T89 ((rd_T34 l0 0).f0) a2].length : Int) := of_decide_eq_true (by assumption)
          obtain ⟨ad201, e201, hx201_0, hx201_1, hx201_2, hx201_3, hx201_4⟩ := rp_T89 HR198.out q201
          (try simp only [rd1_T89] at hx201_0 hx201_1 hx201_2 hx201_3 hx201_4)
          obtain rfl : (Addr.add ad197 (a2.toNat * 5)) = ad201 := (by injection e201)
          have q202 : 0 < ([rd_T89 ((rd_T34 l0 0).f0) a3].length : Int) := of_decide_eq_true (by assumption)
          obtain ⟨ad202, e202, hx202_0, hx202_1, hx202_2, hx202_3, hx202_4⟩ := rp_T89 HR200.out q202
          (try simp only [rd1_T89] at hx202_0 hx202_1 hx202_2 hx202_3 hx202_4)
          obtain rfl : (Addr.add ad197 (a3.toNat * 5)) = ad202 := (by injection e202)
          go_wp2
          repeat (go_quiet (fail); try go_wp2)
          go_meet
          case rel => exact ⟨_, (true), z3_11_, H', ⟨(by first | omega | exact Nat.le_refl _)⟩, z3_17_⟩
        ·
         rw [if_neg c12] at H
         exact absurd H (by simp)
       ·
        rw [if_neg c11] at H
        exact absurd H (by simp)
      case rest =>
       clear HC10
       try clear c1
       try clear p1
       try clear q1
       try clear hx1
       try clear p2
       try clear q2
       try clear hx2
       try clear c5
       try clear c5b0
       try clear c5b1
       try clear c6
       try clear c6b0
       try clear c7
       try clear c7b0
       try clear c8
       try clear c8b0
       try clear c9
       try clear c9b0
       try clear c11
       try clear c11b0
       try clear c11b1
       try clear c12
       try clear c12b0
       try clear c12b1
       try clear c13
       try clear c13b0
       try clear c13b1
       try clear hx196_0
       try clear hx197_0
       try clear hx197_1
       try clear hx197_2
       try clear hx197_3
       try clear hx197_4
       try clear hx199_0
       try clear hx199_1
       try clear hx199_2
       try clear hx199_3
       try clear hx199_4
       try clear hx201_0
       try clear hx201_1
       try clear hx201_2
       try clear hx201_3
       try clear hx201_4
       try clear hx202_0
       try clear hx202_1
       try clear hx202_2
       try clear hx202_3
       try clear hx202_4
       try clear p197
       try clear p199
       try clear q196
       try clear q197
       try clear q199
       try clear q201
       try clear q202
       obtain ⟨kq, x43_9, rfl, HA, HJ9, ⟨mc9, rfl⟩⟩ := hcut
       cases kq with
       | zero => exact absurd HA.out (by simp [spec_l06Alike.j0])
       | succ kj9 =>
        have H := HA.out
        clear HA
        simp only [spec_l06Alike.j0] at H
        (repeat (first | rw [rd1_T89] at H))
        by_cases c14 : x43_9 = true
        ·
         subst c14
         have H1 := H; rw [if_pos rfl] at H1
         clear H
         have H := H1
         clear H1
         obtain rfl := Option.some.inj H
         go_wp2
         repeat (go_quiet (fail); try go_wp2)
         go_ret
         exact ⟨z3_11_, z3_17_⟩
        ·
         replace c14 := Bool.eq_false_iff.mpr c14
         subst c14
         have H1 := H; rw [if_neg (show ¬ (false = true) by decide)] at H1
         clear H
         have H := H1
         clear H1
         have H' := A_ H
         clear H
         go_wp2
         repeat (go_quiet (fail); try go_wp2)
         go_loopg [11] kj9 (fun kq v11 w' => ∃ (x11_2 : Int), v11 = .int .i64 x11_2 ∧ Aside0 (spec_l06Alike.l0 kq l1 [rd_T89 ((rd_T34 l0 0).f0) a2] [rd_T89 ((rd_T34 l0 0).f0) a3] x11_2 = some r) ∧ Aside0 (kq ≤ kj9) ∧ Drawn0 w w')
         case atStart => exact ⟨(0), z3_11_, H', ⟨Nat.le_refl _⟩, z3_17_⟩
         case round =>
          clear H'
          try clear c1
          try clear p1
          try clear q1
          try clear hx1
          try clear p2
          try clear q2
          try clear hx2
          try clear c5
          try clear c5b0
          try clear c5b1
          try clear c6
          try clear c6b0
          try clear c7
          try clear c7b0
          try clear c8
          try clear c8b0
          try clear c9
          try clear c9b0
          try clear c11
          try clear c11b0
          try clear c11b1
          try clear c12
          try clear c12b0
          try clear c12b1
          try clear c13
          try clear c13b0
          try clear c13b1
          try clear c14
          try clear hx196_0
          try clear hx197_0
          try clear hx197_1
          try clear hx197_2
          try clear hx197_3
          try clear hx197_4
          try clear hx199_0
          try clear hx199_1
          try clear hx199_2
          try clear hx199_3
          try clear hx199_4
          try clear hx201_0
          try clear hx201_1
          try clear hx201_2
          try clear hx201_3
          try clear hx201_4
          try clear hx202_0
          try clear hx202_1
          try clear hx202_2
          try clear hx202_3
          try clear hx202_4
          try clear p1
          try clear p197
          try clear p199
          try clear p2
          try clear q1
          try clear q196
          try clear q197
          try clear q199
          try clear q2
          try clear q201
          try clear q202
          obtain ⟨x11_2, rfl, HA, HK2, ⟨m2, rfl⟩⟩ := hrel
          cases gk with
          | zero => exact absurd HA.out (by simp [spec_l06Alike.l0])
          | succ k2 =>
           have H := HA.out
           clear HA
           simp only [spec_l06Alike.l0] at H
           (repeat (first | rw [rd1_T89] at H))
           replace H := Option.bind_eq_some_iff.mp H
           obtain ⟨t203, A150, H⟩ := H
           try dsimp only at H
           have A15 := A_ A150
           clear A150
           by_cases c16 : x11_2 < t203
           ·
            rw [if_pos c16] at H
            have c16b0 := decide_eq_true c16
            clear c16
            by_cases c17 : 0 < ([rd_T89 ((rd_T34 l0 0).f0) a2].length : Int)
            ·
             rw [if_pos c17] at H
             have c17b0 := decide_eq_true c17
             have c17b1 : decide (0 < [rd_T89 ((rd_T34 l0 0).f0) a2].length) = true := decide_eq_true (by omega)
             clear c17
             by_cases c18 : 0 ≤ x11_2
             ·
              rw [if_pos c18] at H
              have c18b0 := decide_eq_true c18
              clear c18
              by_cases c19 : x11_2 < 3
              ·
               rw [if_pos c19] at H
               have c19b0 := decide_eq_true c19
               clear c19
               by_cases c20 : 0 ≤ (rd [(rd_T89 ((rd_T34 l0 0).f0) a2).f2.f0, (rd_T89 ((rd_T34 l0 0).f0) a2).f2.f1, (rd_T89 ((rd_T34 l0 0).f0) a2).f2.f2] x11_2)
               ·
                rw [if_pos c20] at H
                have c20b0 := decide_eq_true c20
                clear c20
                by_cases c21 : (rd [(rd_T89 ((rd_T34 l0 0).f0) a2).f2.f0, (rd_T89 ((rd_T34 l0 0).f0) a2).f2.f1, (rd_T89 ((rd_T34 l0 0).f0) a2).f2.f2] x11_2) < (l1.length : Int)
                ·
                 rw [if_pos c21] at H
                 have c21b0 := decide_eq_true c21
                 clear c21
                 by_cases c22 : 0 < ([rd_T89 ((rd_T34 l0 0).f0) a3].length : Int)
                 ·
                  rw [if_pos c22] at H
                  have c22b0 := decide_eq_true c22
                  have c22b1 : decide (0 < [rd_T89 ((rd_T34 l0 0).f0) a3].length) = true := decide_eq_true (by omega)
                  clear c22
                  by_cases c23 : 0 ≤ (rd [(rd_T89 ((rd_T34 l0 0).f0) a3).f2.f0, (rd_T89 ((rd_T34 l0 0).f0) a3).f2.f1, (rd_T89 ((rd_T34 l0 0).f0) a3).f2.f2] x11_2)
                  ·
                   rw [if_pos c23] at H
                   have c23b0 := decide_eq_true c23
                   clear c23
                   by_cases c24 : (rd [(rd_T89 ((rd_T34 l0 0).f0) a3).f2.f0, (rd_T89 ((rd_T34 l0 0).f0) a3).f2.f1, (rd_T89 ((rd_T34 l0 0).f0) a3).f2.f2] x11_2) < (l1.length : Int)
                   ·
                    rw [if_pos c24] at H
                    have c24b0 := decide_eq_true c24
                    clear c24
                    by_cases c25 : (rd l1 (rd [(rd_T89 ((rd_T34 l0 0).f0) a2).f2.f0, (rd_T89 ((rd_T34 l0 0).f0) a2).f2.f1, (rd_T89 ((rd_T34 l0 0).f0) a2).f2.f2] x11_2)) = (rd l1 (rd [(rd_T89 ((rd_T34 l0 0).f0) a3).f2.f0, (rd_T89 ((rd_T34 l0 0).f0) a3).f2.f1, (rd_T89 ((rd_T34 l0 0).f0) a3).f2.f2] x11_2))
                    ·
                     rw [if_pos c25] at H
                     have c25b0 := beq_iff_eq.mpr c25
                     have c25b1 := bne_eq_false_iff_eq.mpr c25
                     clear c25
                     have H' := A_ H
                     clear H
                     go_wp2_with (first | (go_at_call 68; (with_reducible refine (spec_l06Ways.calls _ ([rd_T89 ((rd_T34 l0 0).f0) a2]).length [rd_T89 ((rd_T34 l0 0).f0) a2] t203 _ ?side1 ?side2 A15.out).mono ?_); (case side1 => repeat (first | exact HR198.out | (with_reducible refine Kd.C_alloc ?_ _) | (with_reducible refine Kd.C_drewN ?_ _) | (with_reducible refine Kd.C_drew ?_))); (case side2 => exact Nat.le_refl _); rintro e w' ⟨rfl, ⟨nd, rfl⟩⟩; (try first | exact ⟨rfl, _, World.drewN_drewN _ _ _⟩ | exact ⟨rfl, _, Eq.trans (World.drewN_drewN _ _ _) (congrArg (World.drewN _) (Nat.add_assoc _ _ _))⟩); have q204 : 0 < ([rd_T89 ((rd_T34 l0 0).f0) a2].length : Int) := of_decide_eq_true (by assumption); obtain ⟨ad204, e204, hx204_0, hx204_1, hx204_2, hx204_3, hx204_4⟩ := rp_T89 HR198.out q204; (try simp only [rd1_T89] at hx204_0 hx204_1 hx204_2 hx204_3 hx204_4); obtain rfl : (Addr.add ad197 (a2.toNat * 5)) = ad204 := (by injection e204); have p205 : 0 ≤ (x11_2 : Int) := of_decide_eq_true (by assumption); have q205 : (x11_2 : Int) < 3 := of_decide_eq_true (by assumption); have hx205_0 := cell_arr3 hx204_2 hx204_3 hx204_4 x11_2 p205 q205; (try simp only [Nat.zero_add, Nat.add_zero] at hx205_0); replace p205 := eq_true p205; replace q205 := eq_true q205; have p206 : 0 ≤ ((rd [(rd_T89 ((rd_T34 l0 0).f0) a2).f2.f0, (rd_T89 ((rd_T34 l0 0).f0) a2).f2.f1, (rd_T89 ((rd_T34 l0 0).f0) a2).f2.f2] x11_2) : Int) := of_decide_eq_true (by assumption); have q206 : (rd [(rd_T89 ((rd_T34 l0 0).f0) a2).f2.f0, (rd_T89 ((rd_T34 l0 0).f0) a2).f2.f1, (rd_T89 ((rd_T34 l0 0).f0) a2).f2.f2] x11_2) < (l1.length : Int) := of_decide_eq_true (by assumption); obtain ⟨ad206, e206, hx206_0⟩ := Kd.at_int HR1.out (rd [(rd_T89 ((rd_T34 l0 0).f0) a2).f2.f0, (rd_T89 ((rd_T34 l0 0).f0) a2).f2.f1, (rd_T89 ((rd_T34 l0 0).f0) a2).f2.f2] x11_2) p206 q206; cases e206; replace p206 := eq_true p206; replace q206 := eq_true q206; have q207 : 0 < ([rd_T89 ((rd_T34 l0 0).f0) a3].length : Int) := of_decide_eq_true (by assumption); obtain ⟨ad207, e207, hx207_0, hx207_1, hx207_2, hx207_3, hx207_4⟩ := rp_T89 HR200.out q207; (try simp only [rd1_T89] at hx207_0 hx207_1 hx207_2 hx207_3 hx207_4); obtain rfl : (Addr.add ad197 (a3.toNat * 5)) = ad207 := (by injection e207); have p208 : 0 ≤ (x11_2 : Int) := of_decide_eq_true (by assumption); have q208 : (x11_2 : Int) < 3 := of_decide_eq_true (by assumption); have hx208_0 := cell_arr3 hx207_2 hx207_3 hx207_4 x11_2 p208 q208; (try simp only [Nat.zero_add, Nat.add_zero] at hx208_0); replace p208 := eq_true p208; replace q208 := eq_true q208; have p209 : 0 ≤ ((rd [(rd_T89 ((rd_T34 l0 0).f0) a3).f2.f0, (rd_T89 ((rd_T34 l0 0).f0) a3).f2.f1, (rd_T89 ((rd_T34 l0 0).f0) a3).f2.f2] x11_2) : Int) := of_decide_eq_true (by assumption); have q209 : (rd [(rd_T89 ((rd_T34 l0 0).f0) a3).f2.f0, (rd_T89 ((rd_T34 l0 0).f0) a3).f2.f1, (rd_T89 ((rd_T34 l0 0).f0) a3).f2.f2] x11_2) < (l1.length : Int) := of_decide_eq_true (by assumption); obtain ⟨ad209, e209, hx209_0⟩ := Kd.at_int HR1.out (rd [(rd_T89 ((rd_T34 l0 0).f0) a3).f2.f0, (rd_T89 ((rd_T34 l0 0).f0) a3).f2.f1, (rd_T89 ((rd_T34 l0 0).f0) a3).f2.f2] x11_2) p209 q209; obtain rfl : ad206 = ad209 := (by injection e209); replace p209 := eq_true p209; replace q209 := eq_true q209))
                     repeat (go_quiet (first | (go_at_call 68; (with_reducible refine (spec_l06Ways.calls _ ([rd_T89 ((rd_T34 l0 0).f0) a2]).length [rd_T89 ((rd_T34 l0 0).f0) a2] t203 _ ?side1 ?side2 A15.out).mono ?_); (case side1 => repeat (first | exact HR198.out | (with_reducible refine Kd.C_alloc ?_ _) | (with_reducible refine Kd.C_drewN ?_ _) | (with_reducible refine Kd.C_drew ?_))); (case side2 => exact Nat.le_refl _); rintro e w' ⟨rfl, ⟨nd, rfl⟩⟩; (try first | exact ⟨rfl, _, World.drewN_drewN _ _ _⟩ | exact ⟨rfl, _, Eq.trans (World.drewN_drewN _ _ _) (congrArg (World.drewN _) (Nat.add_assoc _ _ _))⟩); have q204 : 0 < ([rd_T89 ((rd_T34 l0 0).f0) a2].length : Int) := of_decide_eq_true (by assumption); obtain ⟨ad204, e204, hx204_0, hx204_1, hx204_2, hx204_3, hx204_4⟩ := rp_T89 HR198.out q204; (try simp only [rd1_T89] at hx204_0 hx204_1 hx204_2 hx204_3 hx204_4); obtain rfl : (Addr.add ad197 (a2.toNat * 5)) = ad204 := (by injection e204); have p205 : 0 ≤ (x11_2 : Int) := of_decide_eq_true (by assumption); have q205 : (x11_2 : Int) < 3 := of_decide_eq_true (by assumption); have hx205_0 := cell_arr3 hx204_2 hx204_3 hx204_4 x11_2 p205 q205; (try simp only [Nat.zero_add, Nat.add_zero] at hx205_0); replace p205 := eq_true p205; replace q205 := eq_true q205; have p206 : 0 ≤ ((rd [(rd_T89 ((rd_T34 l0 0).f0) a2).f2.f0, (rd_T89 ((rd_T34 l0 0).f0) a2).f2.f1, (rd_T89 ((rd_T34 l0 0).f0) a2).f2.f2] x11_2) : Int) := of_decide_eq_true (by assumption); have q206 : (rd [(rd_T89 ((rd_T34 l0 0).f0) a2).f2.f0, (rd_T89 ((rd_T34 l0 0).f0) a2).f2.f1, (rd_T89 ((rd_T34 l0 0).f0) a2).f2.f2] x11_2) < (l1.length : Int) := of_decide_eq_true (by assumption); obtain ⟨ad206, e206, hx206_0⟩ := Kd.at_int HR1.out (rd [(rd_T89 ((rd_T34 l0 0).f0) a2).f2.f0, (rd_T89 ((rd_T34 l0 0).f0) a2).f2.f1, (rd_T89 ((rd_T34 l0 0).f0) a2).f2.f2] x11_2) p206 q206; cases e206; replace p206 := eq_true p206; replace q206 := eq_true q206; have q207 : 0 < ([rd_T89 ((rd_T34 l0 0).f0) a3].length : Int) := of_decide_eq_true (by assumption); obtain ⟨ad207, e207, hx207_0, hx207_1, hx207_2, hx207_3, hx207_4⟩ := rp_T89 HR200.out q207; (try simp only [rd1_T89] at hx207_0 hx207_1 hx207_2 hx207_3 hx207_4); obtain rfl : (Addr.add ad197 (a3.toNat * 5)) = ad207 := (by injection e207); have p208 : 0 ≤ (x11_2 : Int) := of_decide_eq_true (by assumption); have q208 : (x11_2 : Int) < 3 := of_decide_eq_true (by assumption); have hx208_0 := cell_arr3 hx207_2 hx207_3 hx207_4 x11_2 p208 q208; (try simp only [Nat.zero_add, Nat.add_zero] at hx208_0); replace p208 := eq_true p208; replace q208 := eq_true q208; have p209 : 0 ≤ ((rd [(rd_T89 ((rd_T34 l0 0).f0) a3).f2.f0, (rd_T89 ((rd_T34 l0 0).f0) a3).f2.f1, (rd_T89 ((rd_T34 l0 0).f0) a3).f2.f2] x11_2) : Int) := of_decide_eq_true (by assumption); have q209 : (rd [(rd_T89 ((rd_T34 l0 0).f0) a3).f2.f0, (rd_T89 ((rd_T34 l0 0).f0) a3).f2.f1, (rd_T89 ((rd_T34 l0 0).f0) a3).f2.f2] x11_2) < (l1.length : Int) := of_decide_eq_true (by assumption); obtain ⟨ad209, e209, hx209_0⟩ := Kd.at_int HR1.out (rd [(rd_T89 ((rd_T34 l0 0).f0) a3).f2.f0, (rd_T89 ((rd_T34 l0 0).f0) a3).f2.f1, (rd_T89 ((rd_T34 l0 0).f0) a3).f2.f2] x11_2) p209 q209; obtain rfl : ad206 = ad209 := (by injection e209); replace p209 := eq_true p209; replace q209 := eq_true q209)); try go_wp2_with (first | (go_at_call 68; (with_reducible refine (spec_l06Ways.calls _ ([rd_T89 ((rd_T34 l0 0).f0) a2]).length [rd_T89 ((rd_T34 l0 0).f0) a2] t203 _ ?side1 ?side2 A15.out).mono ?_); (case side1 => repeat (first | exact HR198.out | (with_reducible refine Kd.C_alloc ?_ _) | (with_reducible refine Kd.C_drewN ?_ _) | (with_reducible refine Kd.C_drew ?_))); (case side2 => exact Nat.le_refl _); rintro e w' ⟨rfl, ⟨nd, rfl⟩⟩; (try first | exact ⟨rfl, _, World.drewN_drewN _ _ _⟩ | exact ⟨rfl, _, Eq.trans (World.drewN_drewN _ _ _) (congrArg (World.drewN _) (Nat.add_assoc _ _ _))⟩); have q204 : 0 < ([rd_T89 ((rd_T34 l0 0).f0) a2].length : Int) := of_decide_eq_true (by assumption); obtain ⟨ad204, e204, hx204_0, hx204_1, hx204_2, hx204_3, hx204_4⟩ := rp_T89 HR198.out q204; (try simp only [rd1_T89] at hx204_0 hx204_1 hx204_2 hx204_3 hx204_4); obtain rfl : (Addr.add ad197 (a2.toNat * 5)) = ad204 := (by injection e204); have p205 : 0 ≤ (x11_2 : Int) := of_decide_eq_true (by assumption); have q205 : (x11_2 : Int) < 3 := of_decide_eq_true (by assumption); have hx205_0 := cell_arr3 hx204_2 hx204_3 hx204_4 x11_2 p205 q205; (try simp only [Nat.zero_add, Nat.add_zero] at hx205_0); replace p205 := eq_true p205; replace q205 := eq_true q205; have p206 : 0 ≤ ((rd [(rd_T89 ((rd_T34 l0 0).f0) a2).f2.f0, (rd_T89 ((rd_T34 l0 0).f0) a2).f2.f1, (rd_T89 ((rd_T34 l0 0).f0) a2).f2.f2] x11_2) : Int) := of_decide_eq_true (by assumption); have q206 : (rd [(rd_T89 ((rd_T34 l0 0).f0) a2).f2.f0, (rd_T89 ((rd_T34 l0 0).f0) a2).f2.f1, (rd_T89 ((rd_T34 l0 0).f0) a2).f2.f2] x11_2) < (l1.length : Int) := of_decide_eq_true (by assumption); obtain ⟨ad206, e206, hx206_0⟩ := Kd.at_int HR1.out (rd [(rd_T89 ((rd_T34 l0 0).f0) a2).f2.f0, (rd_T89 ((rd_T34 l0 0).f0) a2).f2.f1, (rd_T89 ((rd_T34 l0 0).f0) a2).f2.f2] x11_2) p206 q206; cases e206; replace p206 := eq_true p206; replace q206 := eq_true q206; have q207 : 0 < ([rd_T89 ((rd_T34 l0 0).f0) a3].length : Int) := of_decide_eq_true (by assumption); obtain ⟨ad207, e207, hx207_0, hx207_1, hx207_2, hx207_3, hx207_4⟩ := rp_T89 HR200.out q207; (try simp only [rd1_T89] at hx207_0 hx207_1 hx207_2 hx207_3 hx207_4); obtain rfl : (Addr.add ad197 (a3.toNat * 5)) = ad207 := (by injection e207); have p208 : 0 ≤ (x11_2 : Int) := of_decide_eq_true (by assumption); have q208 : (x11_2 : Int) < 3 := of_decide_eq_true (by assumption); have hx208_0 := cell_arr3 hx207_2 hx207_3 hx207_4 x11_2 p208 q208; (try simp only [Nat.zero_add, Nat.add_zero] at hx208_0); replace p208 := eq_true p208; replace q208 := eq_true q208; have p209 : 0 ≤ ((rd [(rd_T89 ((rd_T34 l0 0).f0) a3).f2.f0, (rd_T89 ((rd_T34 l0 0).f0) a3).f2.f1, (rd_T89 ((rd_T34 l0 0).f0) a3).f2.f2] x11_2) : Int) := of_decide_eq_true (by assumption); have q209 : (rd [(rd_T89 ((rd_T34 l0 0).f0) a3).f2.f0, (rd_T89 ((rd_T34 l0 0).f0) a3).f2.f1, (rd_T89 ((rd_T34 l0 0).f0) a3).f2.f2] x11_2) < (l1.length : Int) := of_decide_eq_true (by assumption); obtain ⟨ad209, e209, hx209_0⟩ := Kd.at_int HR1.out (rd [(rd_T89 ((rd_T34 l0 0).f0) a3).f2.f0, (rd_T89 ((rd_T34 l0 0).f0) a3).f2.f1, (rd_T89 ((rd_T34 l0 0).f0) a3).f2.f2] x11_2) p209 q209; obtain rfl : ad206 = ad209 := (by injection e209); replace p209 := eq_true p209; replace q209 := eq_true q209)))
                     go_roundg k2
                     case measure => have := HJ9.out; have := HK2.out; omega
                     case rel => exact ⟨(wrap64 (x11_2 + 1)), z3_11_, H', ⟨(by have := HJ9.out; have := HK2.out; omega)⟩, z3_17_⟩
                    ·
                     rw [if_neg c25] at H
                     have c25b0 : ((rd l1 (rd [(rd_T89 ((rd_T34 l0 0).f0) a2).f2.f0, (rd_T89 ((rd_T34 l0 0).f0) a2).f2.f1, (rd_T89 ((rd_T34 l0 0).f0) a2).f2.f2] x11_2)) == (rd l1 (rd [(rd_T89 ((rd_T34 l0 0).f0) a3).f2.f0, (rd_T89 ((rd_T34 l0 0).f0) a3).f2.f1, (rd_T89 ((rd_T34 l0 0).f0) a3).f2.f2] x11_2))) = false := beq_eq_false_iff_ne.mpr c25
                     have c25b1 : ((rd l1 (rd [(rd_T89 ((rd_T34 l0 0).f0) a2).f2.f0, (rd_T89 ((rd_T34 l0 0).f0) a2).f2.f1, (rd_T89 ((rd_T34 l0 0).f0) a2).f2.f2] x11_2)) != (rd l1 (rd [(rd_T89 ((rd_T34 l0 0).f0) a3).f2.f0, (rd_T89 ((rd_T34 l0 0).f0) a3).f2.f1, (rd_T89 ((rd_T34 l0 0).f0) a3).f2.f2] x11_2))) = true := bne_iff_ne.mpr c25
                     obtain rfl := Option.some.inj H
                     go_wp2_with (first | (go_at_call 68; (with_reducible refine (spec_l06Ways.calls _ ([rd_T89 ((rd_T34 l0 0).f0) a2]).length [rd_T89 ((rd_T34 l0 0).f0) a2] t203 _ ?side1 ?side2 A15.out).mono ?_); (case side1 => repeat (first | exact HR198.out | (with_reducible refine Kd.C_alloc ?_ _) | (with_reducible refine Kd.C_drewN ?_ _) | (with_reducible refine Kd.C_drew ?_))); (case side2 => exact Nat.le_refl _); rintro e w' ⟨rfl, ⟨nd, rfl⟩⟩; (try first | exact ⟨rfl, _, World.drewN_drewN _ _ _⟩ | exact ⟨rfl, _, Eq.trans (World.drewN_drewN _ _ _) (congrArg (World.drewN _) (Nat.add_assoc _ _ _))⟩); have q204 : 0 < ([rd_T89 ((rd_T34 l0 0).f0) a2].length : Int) := of_decide_eq_true (by assumption); obtain ⟨ad204, e204, hx204_0, hx204_1, hx204_2, hx204_3, hx204_4⟩ := rp_T89 HR198.out q204; (try simp only [rd1_T89] at hx204_0 hx204_1 hx204_2 hx204_3 hx204_4); obtain rfl : (Addr.add ad197 (a2.toNat * 5)) = ad204 := (by injection e204); have p205 : 0 ≤ (x11_2 : Int) := of_decide_eq_true (by assumption); have q205 : (x11_2 : Int) < 3 := of_decide_eq_true (by assumption); have hx205_0 := cell_arr3 hx204_2 hx204_3 hx204_4 x11_2 p205 q205; (try simp only [Nat.zero_add, Nat.add_zero] at hx205_0); replace p205 := eq_true p205; replace q205 := eq_true q205; have p206 : 0 ≤ ((rd [(rd_T89 ((rd_T34 l0 0).f0) a2).f2.f0, (rd_T89 ((rd_T34 l0 0).f0) a2).f2.f1, (rd_T89 ((rd_T34 l0 0).f0) a2).f2.f2] x11_2) : Int) := of_decide_eq_true (by assumption); have q206 : (rd [(rd_T89 ((rd_T34 l0 0).f0) a2).f2.f0, (rd_T89 ((rd_T34 l0 0).f0) a2).f2.f1, (rd_T89 ((rd_T34 l0 0).f0) a2).f2.f2] x11_2) < (l1.length : Int) := of_decide_eq_true (by assumption); obtain ⟨ad206, e206, hx206_0⟩ := Kd.at_int HR1.out (rd [(rd_T89 ((rd_T34 l0 0).f0) a2).f2.f0, (rd_T89 ((rd_T34 l0 0).f0) a2).f2.f1, (rd_T89 ((rd_T34 l0 0).f0) a2).f2.f2] x11_2) p206 q206; cases e206; replace p206 := eq_true p206; replace q206 := eq_true q206; have q207 : 0 < ([rd_T89 ((rd_T34 l0 0).f0) a3].length : Int) := of_decide_eq_true (by assumption); obtain ⟨ad207, e207, hx207_0, hx207_1, hx207_2, hx207_3, hx207_4⟩ := rp_T89 HR200.out q207; (try simp only [rd1_T89] at hx207_0 hx207_1 hx207_2 hx207_3 hx207_4); obtain rfl : (Addr.add ad197 (a3.toNat * 5)) = ad207 := (by injection e207); have p208 : 0 ≤ (x11_2 : Int) := of_decide_eq_true (by assumption); have q208 : (x11_2 : Int) < 3 := of_decide_eq_true (by assumption); have hx208_0 := cell_arr3 hx207_2 hx207_3 hx207_4 x11_2 p208 q208; (try simp only [Nat.zero_add, Nat.add_zero] at hx208_0); replace p208 := eq_true p208; replace q208 := eq_true q208; have p209 : 0 ≤ ((rd [(rd_T89 ((rd_T34 l0 0).f0) a3).f2.f0, (rd_T89 ((rd_T34 l0 0).f0) a3).f2.f1, (rd_T89 ((rd_T34 l0 0).f0) a3).f2.f2] x11_2) : Int) := of_decide_eq_true (by assumption); have q209 : (rd [(rd_T89 ((rd_T34 l0 0).f0) a3).f2.f0, (rd_T89 ((rd_T34 l0 0).f0) a3).f2.f1, (rd_T89 ((rd_T34 l0 0).f0) a3).f2.f2] x11_2) < (l1.length : Int) := of_decide_eq_true (by assumption); obtain ⟨ad209, e209, hx209_0⟩ := Kd.at_int HR1.out (rd [(rd_T89 ((rd_T34 l0 0).f0) a3).f2.f0, (rd_T89 ((rd_T34 l0 0).f0) a3).f2.f1, (rd_T89 ((rd_T34 l0 0).f0) a3).f2.f2] x11_2) p209 q209; obtain rfl : ad206 = ad209 := (by injection e209); replace p209 := eq_true p209; replace q209 := eq_true q209))
                     repeat (go_quiet (first | (go_at_call 68; (with_reducible refine (spec_l06Ways.calls _ ([rd_T89 ((rd_T34 l0 0).f0) a2]).length [rd_T89 ((rd_T34 l0 0).f0) a2] t203 _ ?side1 ?side2 A15.out).mono ?_); (case side1 => repeat (first | exact HR198.out | (with_reducible refine Kd.C_alloc ?_ _) | (with_reducible refine Kd.C_drewN ?_ _) | (with_reducible refine Kd.C_drew ?_))); (case side2 => exact Nat.le_refl _); rintro e w' ⟨rfl, ⟨nd, rfl⟩⟩; (try first | exact ⟨rfl, _, World.drewN_drewN _ _ _⟩ | exact ⟨rfl, _, Eq.trans (World.drewN_drewN _ _ _) (congrArg (World.drewN _) (Nat.add_assoc _ _ _))⟩); have q204 : 0 < ([rd_T89 ((rd_T34 l0 0).f0) a2].length : Int) := of_decide_eq_true (by assumption); obtain ⟨ad204, e204, hx204_0, hx204_1, hx204_2, hx204_3, hx204_4⟩ := rp_T89 HR198.out q204; (try simp only [rd1_T89] at hx204_0 hx204_1 hx204_2 hx204_3 hx204_4); obtain rfl : (Addr.add ad197 (a2.toNat * 5)) = ad204 := (by injection e204); have p205 : 0 ≤ (x11_2 : Int) := of_decide_eq_true (by assumption); have q205 : (x11_2 : Int) < 3 := of_decide_eq_true (by assumption); have hx205_0 := cell_arr3 hx204_2 hx204_3 hx204_4 x11_2 p205 q205; (try simp only [Nat.zero_add, Nat.add_zero] at hx205_0); replace p205 := eq_true p205; replace q205 := eq_true q205; have p206 : 0 ≤ ((rd [(rd_T89 ((rd_T34 l0 0).f0) a2).f2.f0, (rd_T89 ((rd_T34 l0 0).f0) a2).f2.f1, (rd_T89 ((rd_T34 l0 0).f0) a2).f2.f2] x11_2) : Int) := of_decide_eq_true (by assumption); have q206 : (rd [(rd_T89 ((rd_T34 l0 0).f0) a2).f2.f0, (rd_T89 ((rd_T34 l0 0).f0) a2).f2.f1, (rd_T89 ((rd_T34 l0 0).f0) a2).f2.f2] x11_2) < (l1.length : Int) := of_decide_eq_true (by assumption); obtain ⟨ad206, e206, hx206_0⟩ := Kd.at_int HR1.out (rd [(rd_T89 ((rd_T34 l0 0).f0) a2).f2.f0, (rd_T89 ((rd_T34 l0 0).f0) a2).f2.f1, (rd_T89 ((rd_T34 l0 0).f0) a2).f2.f2] x11_2) p206 q206; cases e206; replace p206 := eq_true p206; replace q206 := eq_true q206; have q207 : 0 < ([rd_T89 ((rd_T34 l0 0).f0) a3].length : Int) := of_decide_eq_true (by assumption); obtain ⟨ad207, e207, hx207_0, hx207_1, hx207_2, hx207_3, hx207_4⟩ := rp_T89 HR200.out q207; (try simp only [rd1_T89] at hx207_0 hx207_1 hx207_2 hx207_3 hx207_4); obtain rfl : (Addr.add ad197 (a3.toNat * 5)) = ad207 := (by injection e207); have p208 : 0 ≤ (x11_2 : Int) := of_decide_eq_true (by assumption); have q208 : (x11_2 : Int) < 3 := of_decide_eq_true (by assumption); have hx208_0 := cell_arr3 hx207_2 hx207_3 hx207_4 x11_2 p208 q208; (try simp only [Nat.zero_add, Nat.add_zero] at hx208_0); replace p208 := eq_true p208; replace q208 := eq_true q208; have p209 : 0 ≤ ((rd [(rd_T89 ((rd_T34 l0 0).f0) a3).f2.f0, (rd_T89 ((rd_T34 l0 0).f0) a3).f2.f1, (rd_T89 ((rd_T34 l0 0).f0) a3).f2.f2] x11_2) : Int) := of_decide_eq_true (by assumption); have q209 : (rd [(rd_T89 ((rd_T34 l0 0).f0) a3).f2.f0, (rd_T89 ((rd_T34 l0 0).f0) a3).f2.f1, (rd_T89 ((rd_T34 l0 0).f0) a3).f2.f2] x11_2) < (l1.length : Int) := of_decide_eq_true (by assumption); obtain ⟨ad209, e209, hx209_0⟩ := Kd.at_int HR1.out (rd [(rd_T89 ((rd_T34 l0 0).f0) a3).f2.f0, (rd_T89 ((rd_T34 l0 0).f0) a3).f2.f1, (rd_T89 ((rd_T34 l0 0).f0) a3).f2.f2] x11_2) p209 q209; obtain rfl : ad206 = ad209 := (by injection e209); replace p209 := eq_true p209; replace q209 := eq_true q209)); try go_wp2_with (first | (go_at_call 68; (with_reducible refine (spec_l06Ways.calls _ ([rd_T89 ((rd_T34 l0 0).f0) a2]).length [rd_T89 ((rd_T34 l0 0).f0) a2] t203 _ ?side1 ?side2 A15.out).mono ?_); (case side1 => repeat (first | exact HR198.out | (with_reducible refine Kd.C_alloc ?_ _) | (with_reducible refine Kd.C_drewN ?_ _) | (with_reducible refine Kd.C_drew ?_))); (case side2 => exact Nat.le_refl _); rintro e w' ⟨rfl, ⟨nd, rfl⟩⟩; (try first | exact ⟨rfl, _, World.drewN_drewN _ _ _⟩ | exact ⟨rfl, _, Eq.trans (World.drewN_drewN _ _ _) (congrArg (World.drewN _) (Nat.add_assoc _ _ _))⟩); have q204 : 0 < ([rd_T89 ((rd_T34 l0 0).f0) a2].length : Int) := of_decide_eq_true (by assumption); obtain ⟨ad204, e204, hx204_0, hx204_1, hx204_2, hx204_3, hx204_4⟩ := rp_T89 HR198.out q204; (try simp only [rd1_T89] at hx204_0 hx204_1 hx204_2 hx204_3 hx204_4); obtain rfl : (Addr.add ad197 (a2.toNat * 5)) = ad204 := (by injection e204); have p205 : 0 ≤ (x11_2 : Int) := of_decide_eq_true (by assumption); have q205 : (x11_2 : Int) < 3 := of_decide_eq_true (by assumption); have hx205_0 := cell_arr3 hx204_2 hx204_3 hx204_4 x11_2 p205 q205; (try simp only [Nat.zero_add, Nat.add_zero] at hx205_0); replace p205 := eq_true p205; replace q205 := eq_true q205; have p206 : 0 ≤ ((rd [(rd_T89 ((rd_T34 l0 0).f0) a2).f2.f0, (rd_T89 ((rd_T34 l0 0).f0) a2).f2.f1, (rd_T89 ((rd_T34 l0 0).f0) a2).f2.f2] x11_2) : Int) := of_decide_eq_true (by assumption); have q206 : (rd [(rd_T89 ((rd_T34 l0 0).f0) a2).f2.f0, (rd_T89 ((rd_T34 l0 0).f0) a2).f2.f1, (rd_T89 ((rd_T34 l0 0).f0) a2).f2.f2] x11_2) < (l1.length : Int) := of_decide_eq_true (by assumption); obtain ⟨ad206, e206, hx206_0⟩ := Kd.at_int HR1.out (rd [(rd_T89 ((rd_T34 l0 0).f0) a2).f2.f0, (rd_T89 ((rd_T34 l0 0).f0) a2).f2.f1, (rd_T89 ((rd_T34 l0 0).f0) a2).f2.f2] x11_2) p206 q206; cases e206; replace p206 := eq_true p206; replace q206 := eq_true q206; have q207 : 0 < ([rd_T89 ((rd_T34 l0 0).f0) a3].length : Int) := of_decide_eq_true (by assumption); obtain ⟨ad207, e207, hx207_0, hx207_1, hx207_2, hx207_3, hx207_4⟩ := rp_T89 HR200.out q207; (try simp only [rd1_T89] at hx207_0 hx207_1 hx207_2 hx207_3 hx207_4); obtain rfl : (Addr.add ad197 (a3.toNat * 5)) = ad207 := (by injection e207); have p208 : 0 ≤ (x11_2 : Int) := of_decide_eq_true (by assumption); have q208 : (x11_2 : Int) < 3 := of_decide_eq_true (by assumption); have hx208_0 := cell_arr3 hx207_2 hx207_3 hx207_4 x11_2 p208 q208; (try simp only [Nat.zero_add, Nat.add_zero] at hx208_0); replace p208 := eq_true p208; replace q208 := eq_true q208; have p209 : 0 ≤ ((rd [(rd_T89 ((rd_T34 l0 0).f0) a3).f2.f0, (rd_T89 ((rd_T34 l0 0).f0) a3).f2.f1, (rd_T89 ((rd_T34 l0 0).f0) a3).f2.f2] x11_2) : Int) := of_decide_eq_true (by assumption); have q209 : (rd [(rd_T89 ((rd_T34 l0 0).f0) a3).f2.f0, (rd_T89 ((rd_T34 l0 0).f0) a3).f2.f1, (rd_T89 ((rd_T34 l0 0).f0) a3).f2.f2] x11_2) < (l1.length : Int) := of_decide_eq_true (by assumption); obtain ⟨ad209, e209, hx209_0⟩ := Kd.at_int HR1.out (rd [(rd_T89 ((rd_T34 l0 0).f0) a3).f2.f0, (rd_T89 ((rd_T34 l0 0).f0) a3).f2.f1, (rd_T89 ((rd_T34 l0 0).f0) a3).f2.f2] x11_2) p209 q209; obtain rfl : ad206 = ad209 := (by injection e209); replace p209 := eq_true p209; replace q209 := eq_true q209)))
                     go_ret
                     exact ⟨z3_11_, z3_17_⟩
                   ·
                    rw [if_neg c24] at H
                    exact absurd H (by simp)
                  ·
                   rw [if_neg c23] at H
                   exact absurd H (by simp)
                 ·
                  rw [if_neg c22] at H
                  exact absurd H (by simp)
                ·
                 rw [if_neg c21] at H
                 exact absurd H (by simp)
               ·
                rw [if_neg c20] at H
                exact absurd H (by simp)
              ·
               rw [if_neg c19] at H
               exact absurd H (by simp)
             ·
              rw [if_neg c18] at H
              exact absurd H (by simp)
            ·
             rw [if_neg c17] at H
             exact absurd H (by simp)
           ·
            rw [if_neg c16] at H
            have c16b0 := decide_eq_false c16
            clear c16
            obtain rfl := Option.some.inj H
            go_wp2_with (first | (go_at_call 68; (with_reducible refine (spec_l06Ways.calls _ ([rd_T89 ((rd_T34 l0 0).f0) a2]).length [rd_T89 ((rd_T34 l0 0).f0) a2] t203 _ ?side1 ?side2 A15.out).mono ?_); (case side1 => repeat (first | exact HR198.out | (with_reducible refine Kd.C_alloc ?_ _) | (with_reducible refine Kd.C_drewN ?_ _) | (with_reducible refine Kd.C_drew ?_))); (case side2 => exact Nat.le_refl _); rintro e w' ⟨rfl, ⟨nd, rfl⟩⟩; (try first | exact ⟨rfl, _, World.drewN_drewN _ _ _⟩ | exact ⟨rfl, _, Eq.trans (World.drewN_drewN _ _ _) (congrArg (World.drewN _) (Nat.add_assoc _ _ _))⟩)))
            repeat (go_quiet (first | (go_at_call 68; (with_reducible refine (spec_l06Ways.calls _ ([rd_T89 ((rd_T34 l0 0).f0) a2]).length [rd_T89 ((rd_T34 l0 0).f0) a2] t203 _ ?side1 ?side2 A15.out).mono ?_); (case side1 => repeat (first | exact HR198.out | (with_reducible refine Kd.C_alloc ?_ _) | (with_reducible refine Kd.C_drewN ?_ _) | (with_reducible refine Kd.C_drew ?_))); (case side2 => exact Nat.le_refl _); rintro e w' ⟨rfl, ⟨nd, rfl⟩⟩; (try first | exact ⟨rfl, _, World.drewN_drewN _ _ _⟩ | exact ⟨rfl, _, Eq.trans (World.drewN_drewN _ _ _) (congrArg (World.drewN _) (Nat.add_assoc _ _ _))⟩))); try go_wp2_with (first | (go_at_call 68; (with_reducible refine (spec_l06Ways.calls _ ([rd_T89 ((rd_T34 l0 0).f0) a2]).length [rd_T89 ((rd_T34 l0 0).f0) a2] t203 _ ?side1 ?side2 A15.out).mono ?_); (case side1 => repeat (first | exact HR198.out | (with_reducible refine Kd.C_alloc ?_ _) | (with_reducible refine Kd.C_drewN ?_ _) | (with_reducible refine Kd.C_drew ?_))); (case side2 => exact Nat.le_refl _); rintro e w' ⟨rfl, ⟨nd, rfl⟩⟩; (try first | exact ⟨rfl, _, World.drewN_drewN _ _ _⟩ | exact ⟨rfl, _, Eq.trans (World.drewN_drewN _ _ _) (congrArg (World.drewN _) (Nat.add_assoc _ _ _))⟩))))
            go_ret
            exact ⟨z3_11_, z3_17_⟩
     ·
      rw [if_neg c9] at H
      exact absurd H (by simp)
    ·
     rw [if_neg c8] at H
     exact absurd H (by simp)
   ·
    rw [if_neg c7] at H
    exact absurd H (by simp)
  ·
   rw [if_neg c6] at H
   exact absurd H (by simp)
 ·
  rw [if_neg c5] at H
  exact absurd H (by simp)
end Go.Proofs.Ytpfnohdnaocpdaa.PT
